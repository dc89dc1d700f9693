/- Helpers: functions of the program as Lean functions, and what they compute. No condition. -/
import Derived.Test.YtaaagikcbnbncaaProg
import Derived.WalkKit
import Derived.Test.YtaaagikcbnbncaaE4P2
set_option maxRecDepth 10000
set_option linter.unusedVariables false
set_option linter.unusedSimpArgs false
open Go.IntKind (wrap i64 i32 i16 i8 u64 u32 u16 u8)
open List (getD length take drop replicate)
open Int (toNat)
open Go.Ev.Sp
namespace Go.Ev
open Go Go.Proofs Go.RowKit
set_option maxRecDepth 100000
noncomputable section
noncomputable def smB : Nat → Bool := fun f => [8, 9, 10, 11, 12, 13, 14, 15, 16, 17, 18, 21, 22, 23, 25, 26, 27, 28, 30, 32, 33, 35, 36, 37, 38, 39, 40, 41, 44, 46, 47, 48, 49, 50, 51, 53, 55, 56, 57, 58, 59, 60, 61, 68, 69, 70, 72, 73, 74, 75, 76, 77, 78, 79, 80, 81, 84, 85, 86, 87, 88, 89, 90, 91, 93, 97, 98, 99, 100, 101, 104, 105, 107, 108, 110, 112, 116, 117, 118, 119, 120, 122, 124, 125, 126, 127, 128].contains f
noncomputable def wF : Nat → Nat := fun f => 0
noncomputable def cF : Nat → Bool := fun f => false
noncomputable def dF : Nat → Bool := fun f => [5, 6, 7, 24, 29, 31, 34, 54, 62, 63, 64, 65, 66, 71, 82, 83, 109].contains f
noncomputable def fns : Nat → Option IFn := fnsP Try.prog smB wF cF dF
theorem hm0 : Try.prog.follows .mixedOrders = true := by kernel_rfl
abbrev s_25 : Summ := vecS (.int .u32) 42 4
abbrev s_75 : Summ := vecS (.int .i64) 3 8
abbrev okF {R : Type} (sm : Nat → Option Summ) (d : Nat) (c : IC) (o : Orc R) : Prop := okN sm FU (evFn sm fns FU d) c o
abbrev nf (f i : Nat) : IC := nd (fB fns f) i
abbrev ni (c : IC) (i : Nat) : IC := nd (inner c) i
abbrev rnF (sm : Nat → Option Summ) (n f : Nat) (A R : List Ty) (x : HDen A) (y : HDen R) : Prop := evFn sm fns FU n f (ofH A x) [] (pureK R) = some y
end
set_option maxHeartbeats 4000000
set_option linter.unusedVariables false
noncomputable section
abbrev A_73 : List Ty := [(.pair (.int .i64) (.pair (.slice (.arr 32 (.int .u8))) (.pair (.slice (.arr 32 (.int .u8))) .unit))), (.pair (.int .i64) (.pair (.slice (.arr 32 (.int .u8))) (.pair (.slice (.arr 32 (.int .u8))) .unit)))]
abbrev R_73 : List Ty := [.bool]
noncomputable def sm_73 : Nat → Option Summ := smL []
noncomputable def T_73_0 : PS := ⟨66, [(2, .kc (.ptr 0 [])), (3, .kc (.ptr 1 [])), (5, .hv (.int .i64))], [.mem (.hv (.pair (.int .i64) (.pair (.slice (.arr 32 (.int .u8))) (.pair (.slice (.arr 32 (.int .u8))) .unit)))), .mem (.hv (.pair (.int .i64) (.pair (.slice (.arr 32 (.int .u8))) (.pair (.slice (.arr 32 (.int .u8))) .unit))))], 0⟩
inductive Sp.E_73_0 where
 | e0
 | e1 (p1 p2 : Int × List (List Int) × List (List Int) × Unit)
noncomputable def Sp.B_73_0 {R : Type} (r : Option E_73_0) (k0 : Option R) (k1 : (Int × List (List Int) × List (List Int) × Unit) → (Int × List (List Int) × List (List Int) × Unit) → Option R) : Option R := match r with
 | none => none
 | some (.e0) => k0
 | some (.e1 p1 p2) => k1 p1 p2
noncomputable def Y_73_0 {R : Type} (k : Ex → St → Option R) : E_73_0 → Option R
 | .e0 => k Ex.ret (sx 66 [(4, CV.bool false)] [])
 | .e1 p1 p2 => k (Ex.exit 0) (sx 66 [(2, CV.ptr 0 []), (3, CV.ptr 1 [])] [Blk.mem (CV.pure (Ty.pair (Ty.int i64) (Ty.pair (Ty.slice (Ty.arr 32 (Ty.int u8))) (Ty.pair (Ty.slice (Ty.arr 32 (Ty.int u8))) Ty.unit))) p1), Blk.mem (CV.pure (Ty.pair (Ty.int i64) (Ty.pair (Ty.slice (Ty.arr 32 (Ty.int u8))) (Ty.pair (Ty.slice (Ty.arr 32 (Ty.int u8))) Ty.unit))) p2)])
noncomputable def Sp.S_73_0 {R : Type} (K : Int → (Int × List (List Int) × List (List Int) × Unit) → (Int × List (List Int) × List (List Int) × Unit) → Option R) (k : E_73_0 → Option R) (p0 : Int) (p1 p2 : Int × List (List Int) × List (List Int) × Unit) : Option R :=
 bif decide (p0 < (↑(length (p1.2.1)) : Int)) then gd (inB p0 (length (p1.2.1))) (gd (inB p0 (length (p2.2.1))) (bif !Ty.beq (Ty.arr 32 (Ty.int u8)) (getD (p1.2.1) (toNat p0) (Ty.dflt (Ty.arr 32 (Ty.int u8)))) (getD (p2.2.1) (toNat p0) (Ty.dflt (Ty.arr 32 (Ty.int u8)))) then k (E_73_0.e0) else K (wrap i64 (p0 + 1)) p1 p2)) else k (E_73_0.e1 p1 p2)
noncomputable def Sp.L_73_0 : Nat → Int → (Int × List (List Int) × List (List Int) × Unit) → (Int × List (List Int) × List (List Int) × Unit) → Option E_73_0
 | 0, _, _, _ => none
 | m + 1, p0, p1, p2 => S_73_0 (L_73_0 m) some p0 p1 p2
noncomputable def l_73_0 (m : Nat) (a : T_73_0.E) : Option E_73_0 := L_73_0 m a.1 a.2.1 a.2.2.1
noncomputable def O_73_0 {R : Type} : Orc R := orL T_73_0 (l_73_0 FU) Y_73_0
theorem OK_73_0 {R : Type} : okF (R := R) sm_73 0 (nf 73 0) O_73_0 := lp0 T_73_0 l_73_0 (fun R K k a => S_73_0 (fun p0 p1 p2 => K (p0, p1, p2, ())) k a.1 a.2.1 a.2.2.1) Y_73_0 (fun _ _ _ => by kernel_rfl) (fun _ _ _ => by
 unfold S_73_0
 repeat' first | apply gdN | apply condN | rfl) (ok0 _)
noncomputable def T_73_1 : PS := ⟨66, [(2, .kc (.ptr 0 [])), (3, .kc (.ptr 1 [])), (6, .hv (.int .i64))], [.mem (.hv (.pair (.int .i64) (.pair (.slice (.arr 32 (.int .u8))) (.pair (.slice (.arr 32 (.int .u8))) .unit)))), .mem (.hv (.pair (.int .i64) (.pair (.slice (.arr 32 (.int .u8))) (.pair (.slice (.arr 32 (.int .u8))) .unit))))], 0⟩
inductive Sp.E_73_1 where
 | e0
 | e1
noncomputable def Sp.B_73_1 {R : Type} (r : Option E_73_1) (k0 k1 : Option R) : Option R := match r with
 | none => none
 | some (.e0) => k0
 | some (.e1) => k1
noncomputable def Y_73_1 {R : Type} (k : Ex → St → Option R) : E_73_1 → Option R
 | .e0 => k Ex.ret (sx 66 [(4, CV.bool false)] [])
 | .e1 => k (Ex.exit 2) (sx 66 [] [])
noncomputable def Sp.S_73_1 {R : Type} (K : Int → (Int × List (List Int) × List (List Int) × Unit) → (Int × List (List Int) × List (List Int) × Unit) → Option R) (k : E_73_1 → Option R) (p0 : Int) (p1 p2 : Int × List (List Int) × List (List Int) × Unit) : Option R :=
 bif decide (p0 < (↑(length (p1.2.2.1)) : Int)) then gd (inB p0 (length (p1.2.2.1))) (gd (inB p0 (length (p2.2.2.1))) (bif !Ty.beq (Ty.arr 32 (Ty.int u8)) (getD (p1.2.2.1) (toNat p0) (Ty.dflt (Ty.arr 32 (Ty.int u8)))) (getD (p2.2.2.1) (toNat p0) (Ty.dflt (Ty.arr 32 (Ty.int u8)))) then k (E_73_1.e0) else K (wrap i64 (p0 + 1)) p1 p2)) else k (E_73_1.e1)
noncomputable def Sp.L_73_1 : Nat → Int → (Int × List (List Int) × List (List Int) × Unit) → (Int × List (List Int) × List (List Int) × Unit) → Option E_73_1
 | 0, _, _, _ => none
 | m + 1, p0, p1, p2 => S_73_1 (L_73_1 m) some p0 p1 p2
noncomputable def l_73_1 (m : Nat) (a : T_73_1.E) : Option E_73_1 := L_73_1 m a.1 a.2.1 a.2.2.1
noncomputable def O_73_1 {R : Type} : Orc R := orL T_73_1 (l_73_1 FU) Y_73_1
theorem OK_73_1 {R : Type} : okF (R := R) sm_73 0 (nf 73 1) O_73_1 := lp0 T_73_1 l_73_1 (fun R K k a => S_73_1 (fun p0 p1 p2 => K (p0, p1, p2, ())) k a.1 a.2.1 a.2.2.1) Y_73_1 (fun _ _ _ => by kernel_rfl) (fun _ _ _ => by
 unfold S_73_1
 repeat' first | apply gdN | apply condN | rfl) (ok0 _)
noncomputable def F_73 (a0 : (Int × ((List (List Int)) × ((List (List Int)) × Unit)))) (a1 : (Int × ((List (List Int)) × ((List (List Int)) × Unit)))) : Option (Bool × Unit) :=
 bif a0.1 != a1.1 then some (false, PUnit.unit) else bif (↑(length (a0.2.1)) : Int) != (↑(length (a1.2.1)) : Int) then some (false, PUnit.unit) else bif (↑(length (a0.2.2.1)) : Int) != (↑(length (a1.2.2.1)) : Int) then some (false, PUnit.unit) else B_73_0 (L_73_0 4611686018427387904 0 a0 a1) (some (false, PUnit.unit)) fun y2 y3 => B_73_1 (L_73_1 4611686018427387904 0 y2 y3) (some (false, PUnit.unit)) (some (true, PUnit.unit))
noncomputable def Sp.p_73 (a0 : (Int × ((List (List Int)) × ((List (List Int)) × Unit)))) (a1 : (Int × ((List (List Int)) × ((List (List Int)) × Unit)))) : Bool := (F_73 a0 a1).isSome
noncomputable def Sp.v_73 (a0 : (Int × ((List (List Int)) × ((List (List Int)) × Unit)))) (a1 : (Int × ((List (List Int)) × ((List (List Int)) × Unit)))) : Bool × Unit := (F_73 a0 a1).getD (dfH R_73)
noncomputable def s_73 : Summ := shN A_73 R_73 (fun x => p_73 x.1 x.2.1) (fun x => v_73 x.1 x.2.1)
theorem pv_73 (a0 : (Int × ((List (List Int)) × ((List (List Int)) × Unit)))) (a1 : (Int × ((List (List Int)) × ((List (List Int)) × Unit)))) {y : Bool × Unit} (h : F_73 a0 a1 = some y) : p_73 a0 a1 = true ∧ v_73 a0 a1 = y := pvG h
theorem run_73 (x : HDen A_73) (y : HDen R_73) (h : F_73 x.1 x.2.1 = some y) : rnF sm_73 1 73 A_73 R_73 x y := runG noO_ok (os := [O_73_0, O_73_1]) ⟨OK_73_0, OK_73_1, trivial⟩ (Eq.trans (by kernel_rfl) h)
end
noncomputable section
abbrev A_36 : List Ty := [(.pair (.int .i64) (.pair (.int .i64) (.pair (.arr 32 (.int .u8)) (.pair (.pair (.int .i64) (.pair (.slice (.arr 32 (.int .u8))) (.pair (.slice (.arr 32 (.int .u8))) .unit))) .unit)))), (.pair (.int .i64) (.pair (.int .i64) (.pair (.arr 32 (.int .u8)) (.pair (.pair (.int .i64) (.pair (.slice (.arr 32 (.int .u8))) (.pair (.slice (.arr 32 (.int .u8))) .unit))) .unit))))]
abbrev R_36 : List Ty := [.bool]
noncomputable def sm_36 : Nat → Option Summ := smL [(73, s_73)]
noncomputable def F_36 (a0 : (Int × (Int × ((List Int) × ((Int × ((List (List Int)) × ((List (List Int)) × Unit))) × Unit))))) (a1 : (Int × (Int × ((List Int) × ((Int × ((List (List Int)) × ((List (List Int)) × Unit))) × Unit))))) : Option (Bool × Unit) :=
 bif a0.1 == a1.1 then bif a0.2.1 == a1.2.1 then bif Ty.beq (Ty.arr 32 (Ty.int u8)) (a0.2.2.1) (a1.2.2.1) then gd (p_73 (a0.2.2.2.1) (a1.2.2.2.1)) (some ((v_73 (a0.2.2.2.1) (a1.2.2.2.1)).1, PUnit.unit)) else some (false, PUnit.unit) else some (false, PUnit.unit) else some (false, PUnit.unit)
noncomputable def Sp.p_36 (a0 : (Int × (Int × ((List Int) × ((Int × ((List (List Int)) × ((List (List Int)) × Unit))) × Unit))))) (a1 : (Int × (Int × ((List Int) × ((Int × ((List (List Int)) × ((List (List Int)) × Unit))) × Unit))))) : Bool := (F_36 a0 a1).isSome
noncomputable def Sp.v_36 (a0 : (Int × (Int × ((List Int) × ((Int × ((List (List Int)) × ((List (List Int)) × Unit))) × Unit))))) (a1 : (Int × (Int × ((List Int) × ((Int × ((List (List Int)) × ((List (List Int)) × Unit))) × Unit))))) : Bool × Unit := (F_36 a0 a1).getD (dfH R_36)
noncomputable def s_36 : Summ := shN A_36 R_36 (fun x => p_36 x.1 x.2.1) (fun x => v_36 x.1 x.2.1)
theorem pv_36 (a0 : (Int × (Int × ((List Int) × ((Int × ((List (List Int)) × ((List (List Int)) × Unit))) × Unit))))) (a1 : (Int × (Int × ((List Int) × ((Int × ((List (List Int)) × ((List (List Int)) × Unit))) × Unit))))) {y : Bool × Unit} (h : F_36 a0 a1 = some y) : p_36 a0 a1 = true ∧ v_36 a0 a1 = y := pvG h
theorem run_36 (x : HDen A_36) (y : HDen R_36) (h : F_36 x.1 x.2.1 = some y) : rnF sm_36 1 36 A_36 R_36 x y := runG noO_ok (os := []) trivial (Eq.trans (by kernel_rfl) h)
end
noncomputable section
abbrev A_10 : List Ty := [(.pair (.int .i64) (.pair (.int .i64) (.pair (.int .i64) (.pair (.pair (.int .i64) (.pair (.int .i64) (.pair (.arr 32 (.int .u8)) (.pair (.pair (.int .i64) (.pair (.slice (.arr 32 (.int .u8))) (.pair (.slice (.arr 32 (.int .u8))) .unit))) .unit)))) .unit))))]
abbrev R_10 : List Ty := [.bool]
noncomputable def sm_10 : Nat → Option Summ := smL [(36, s_36)]
noncomputable def F_10 (a0 : (Int × (Int × (Int × ((Int × (Int × ((List Int) × ((Int × ((List (List Int)) × ((List (List Int)) × Unit))) × Unit)))) × Unit))))) : Option (Bool × Unit) :=
 bif a0.1 == 0 then bif a0.2.1 == 0 then bif a0.2.2.1 == 0 then gd (p_36 (a0.2.2.2.1) (0, 0, replicate 32 (0 :Int), (0, [], [], PUnit.unit), PUnit.unit)) (some ((v_36 (a0.2.2.2.1) (0, 0, replicate 32 (0 :Int), (0, [], [], PUnit.unit), PUnit.unit)).1, PUnit.unit)) else some (false, PUnit.unit) else some (false, PUnit.unit) else some (false, PUnit.unit)
noncomputable def Sp.p_10 (a0 : (Int × (Int × (Int × ((Int × (Int × ((List Int) × ((Int × ((List (List Int)) × ((List (List Int)) × Unit))) × Unit)))) × Unit))))) : Bool := (F_10 a0).isSome
noncomputable def Sp.v_10 (a0 : (Int × (Int × (Int × ((Int × (Int × ((List Int) × ((Int × ((List (List Int)) × ((List (List Int)) × Unit))) × Unit)))) × Unit))))) : Bool × Unit := (F_10 a0).getD (dfH R_10)
noncomputable def s_10 : Summ := shN A_10 R_10 (fun x => p_10 x.1) (fun x => v_10 x.1)
theorem pv_10 (a0 : (Int × (Int × (Int × ((Int × (Int × ((List Int) × ((Int × ((List (List Int)) × ((List (List Int)) × Unit))) × Unit)))) × Unit))))) {y : Bool × Unit} (h : F_10 a0 = some y) : p_10 a0 = true ∧ v_10 a0 = y := pvG h
theorem run_10 (x : HDen A_10) (y : HDen R_10) (h : F_10 x.1 = some y) : rnF sm_10 1 10 A_10 R_10 x y := runG noO_ok (os := []) trivial (Eq.trans (by kernel_rfl) h)
end
noncomputable section
abbrev A_11 : List Ty := []
abbrev R_11 : List Ty := [(.pair (.int .i64) (.pair (.int .i64) (.pair (.int .i64) (.pair (.pair (.int .i64) (.pair (.int .i64) (.pair (.arr 32 (.int .u8)) (.pair (.pair (.int .i64) (.pair (.slice (.arr 32 (.int .u8))) (.pair (.slice (.arr 32 (.int .u8))) .unit))) .unit)))) .unit))))]
noncomputable def sm_11 : Nat → Option Summ := smL []
noncomputable def F_11  : Option ((Int × (Int × (Int × ((Int × (Int × ((List Int) × ((Int × ((List (List Int)) × ((List (List Int)) × Unit))) × Unit)))) × Unit)))) × Unit) :=
 some ((0, 0, 0, (0, 0, replicate 32 (0 :Int), (0, [], [], PUnit.unit), PUnit.unit), PUnit.unit), PUnit.unit)
noncomputable def Sp.p_11  : Bool := (F_11 ).isSome
noncomputable def Sp.v_11  : (Int × (Int × (Int × ((Int × (Int × ((List Int) × ((Int × ((List (List Int)) × ((List (List Int)) × Unit))) × Unit)))) × Unit)))) × Unit := (F_11 ).getD (dfH R_11)
noncomputable def s_11 : Summ := shS A_11 R_11 (fun x => p_11 ) (fun x => v_11 )
theorem run_11 (x : HDen A_11) (y : HDen R_11) (h : F_11  = some y) : rnF sm_11 1 11 A_11 R_11 x y := runG noO_ok (os := []) trivial (Eq.trans (by kernel_rfl) h)
end
noncomputable section
abbrev A_37 : List Ty := [(.pair (.int .i64) (.pair (.int .i64) (.pair (.int .i64) (.pair (.pair (.int .i64) (.pair (.int .i64) (.pair (.arr 32 (.int .u8)) (.pair (.pair (.int .i64) (.pair (.slice (.arr 32 (.int .u8))) (.pair (.slice (.arr 32 (.int .u8))) .unit))) .unit)))) .unit))))]
abbrev R_37 : List Ty := [.bool]
noncomputable def sm_37 : Nat → Option Summ := smL []
noncomputable def F_37 (a0 : (Int × (Int × (Int × ((Int × (Int × ((List Int) × ((Int × ((List (List Int)) × ((List (List Int)) × Unit))) × Unit)))) × Unit))))) : Option (Bool × Unit) :=
 bif a0.1 == 0 then bif a0.2.1 == 0 then bif a0.2.2.1 == 0 then bif a0.2.2.2.1.1 == 0 then bif a0.2.2.2.1.2.1 == 0 then bif Ty.beq (Ty.arr 32 (Ty.int u8)) (a0.2.2.2.1.2.2.1) (replicate 32 (0 :Int)) then bif a0.2.2.2.1.2.2.2.1.1 == 0 then bif (↑(length (a0.2.2.2.1.2.2.2.1.2.1)) : Int) == 0 then some ((↑(length (a0.2.2.2.1.2.2.2.1.2.2.1)) : Int) == 0, PUnit.unit) else some (false, PUnit.unit) else some (false, PUnit.unit) else some (false, PUnit.unit) else some (false, PUnit.unit) else some (false, PUnit.unit) else some (false, PUnit.unit) else some (false, PUnit.unit) else some (false, PUnit.unit)
noncomputable def Sp.p_37 (a0 : (Int × (Int × (Int × ((Int × (Int × ((List Int) × ((Int × ((List (List Int)) × ((List (List Int)) × Unit))) × Unit)))) × Unit))))) : Bool := (F_37 a0).isSome
noncomputable def Sp.v_37 (a0 : (Int × (Int × (Int × ((Int × (Int × ((List Int) × ((Int × ((List (List Int)) × ((List (List Int)) × Unit))) × Unit)))) × Unit))))) : Bool × Unit := (F_37 a0).getD (dfH R_37)
noncomputable def s_37 : Summ := shN A_37 R_37 (fun x => p_37 x.1) (fun x => v_37 x.1)
theorem pv_37 (a0 : (Int × (Int × (Int × ((Int × (Int × ((List Int) × ((Int × ((List (List Int)) × ((List (List Int)) × Unit))) × Unit)))) × Unit))))) {y : Bool × Unit} (h : F_37 a0 = some y) : p_37 a0 = true ∧ v_37 a0 = y := pvG h
theorem run_37 (x : HDen A_37) (y : HDen R_37) (h : F_37 x.1 = some y) : rnF sm_37 1 37 A_37 R_37 x y := runG noO_ok (os := []) trivial (Eq.trans (by kernel_rfl) h)
end
noncomputable section
abbrev A_85 : List Ty := [(.pair (.int .i64) (.pair (.slice (.arr 32 (.int .u8))) (.pair (.slice (.arr 32 (.int .u8))) .unit)))]
abbrev R_85 : List Ty := [.bool]
noncomputable def sm_85 : Nat → Option Summ := smL []
noncomputable def F_85 (a0 : (Int × ((List (List Int)) × ((List (List Int)) × Unit)))) : Option (Bool × Unit) :=
 bif decide (a0.1 ≥ 0) then bif decide (a0.1 < 4) then bif (↑(length (a0.2.1)) : Int) == 67 then some ((↑(length (a0.2.2.1)) : Int) == 2, PUnit.unit) else some (false, PUnit.unit) else some (false, PUnit.unit) else some (false, PUnit.unit)
noncomputable def Sp.p_85 (a0 : (Int × ((List (List Int)) × ((List (List Int)) × Unit)))) : Bool := (F_85 a0).isSome
noncomputable def Sp.v_85 (a0 : (Int × ((List (List Int)) × ((List (List Int)) × Unit)))) : Bool × Unit := (F_85 a0).getD (dfH R_85)
noncomputable def s_85 : Summ := shN A_85 R_85 (fun x => p_85 x.1) (fun x => v_85 x.1)
theorem pv_85 (a0 : (Int × ((List (List Int)) × ((List (List Int)) × Unit)))) {y : Bool × Unit} (h : F_85 a0 = some y) : p_85 a0 = true ∧ v_85 a0 = y := pvG h
theorem run_85 (x : HDen A_85) (y : HDen R_85) (h : F_85 x.1 = some y) : rnF sm_85 1 85 A_85 R_85 x y := runG noO_ok (os := []) trivial (Eq.trans (by kernel_rfl) h)
end
noncomputable section
abbrev A_100 : List Ty := [(.slice (.int .u8))]
abbrev R_100 : List Ty := [(.int .u32)]
noncomputable def sm_100 : Nat → Option Summ := smL []
noncomputable def F_100 (a0 : (List Int)) : Option (Int × Unit) :=
 gd (inB 0 (length a0)) (gd (inB 1 (length a0)) (gd (inB 2 (length a0)) (gd (inB 3 (length a0)) (some (Sp.orI u32 (Sp.orI u32 (Sp.orI u32 (wrap u32 (wrap u32 (getD a0 0 0) * 16777216)) (wrap u32 (wrap u32 (getD a0 1 0) * 65536))) (wrap u32 (wrap u32 (getD a0 2 0) * 256))) (wrap u32 (getD a0 3 0)), PUnit.unit)))))
noncomputable def Sp.p_100 (a0 : (List Int)) : Bool := (F_100 a0).isSome
noncomputable def Sp.v_100 (a0 : (List Int)) : Int × Unit := (F_100 a0).getD (dfH R_100)
noncomputable def s_100 : Summ := shN A_100 R_100 (fun x => p_100 x.1) (fun x => v_100 x.1)
theorem pv_100 (a0 : (List Int)) {y : Int × Unit} (h : F_100 a0 = some y) : p_100 a0 = true ∧ v_100 a0 = y := pvG h
theorem run_100 (x : HDen A_100) (y : HDen R_100) (h : F_100 x.1 = some y) : rnF sm_100 1 100 A_100 R_100 x y := runG noO_ok (os := []) trivial (Eq.trans (by kernel_rfl) h)
end
noncomputable section
abbrev Zt74_0 : Type := List (List (List Int))
abbrev A_74 : List Ty := [(.pair (.int .i64) (.pair (.slice (.arr 32 (.int .u8))) (.pair (.slice (.arr 32 (.int .u8))) .unit)))]
abbrev R_74 : List Ty := [(.slice (.int .u32)), (.int .i64)]
noncomputable def sm_74 : Nat → Option Summ := smL [(85, s_85), (100, s_100)]
noncomputable def T_74_2 : PS := ⟨46, [(4, .kc (.whole 0)), (8, .kc (.ptr 1 [])), (9, .hv (.int .i64)), (21, .kc (.whole 2)), (22, .hv (.int .i64)), (23, .hv (.int .i64)), (27, .hv (.slice (.arr 32 (.int .u8)))), (28, .hv (.int .i64)), (29, .hv (.int .i64))], [.vec 42 (.int .u32), .mem (.hv (.arr 32 (.int .u8))), .vec 24 (.slice (.arr 32 (.int .u8)))], 0⟩
inductive Sp.E_74_2 where
 | e0 (p1 p2 : Int) (p3 : List (List Int)) (p4 p5 : Int) (p6 : List Int) (p8 : Zt74_0)
noncomputable def Sp.B_74_2 {R : Type} (r : Option E_74_2) (k0 : Int → Int → List (List Int) → Int → Int → List Int → Zt74_0 → Option R) : Option R := match r with
 | none => none
 | some (.e0 p1 p2 p3 p4 p5 p6 p8) => k0 p1 p2 p3 p4 p5 p6 p8
theorem Bn_74_2 {A R : Type} {r : Option E_74_2} {f : A → Option R} {k0 : Int → Int → List (List Int) → Int → Int → List Int → Zt74_0 → Option A} {l0 : Int → Int → List (List Int) → Int → Int → List Int → Zt74_0 → Option R} (h0 : ∀ p1 p2 p3 p4 p5 p6 p8, (k0 p1 p2 p3 p4 p5 p6 p8).bind f = l0 p1 p2 p3 p4 p5 p6 p8) : (B_74_2 r k0).bind f = B_74_2 r l0 := by
 cases r with
 | none => rfl
 | some e => cases e <;> first | apply h0
noncomputable def Y_74_2 {R : Type} (k : Ex → St → Option R) : E_74_2 → Option R
 | .e0 p1 p2 p3 p4 p5 p6 p8 => k (Ex.exit 4) (sx 46 [(4, CV.whole 0), (21, CV.whole 1), (22, CV.int i64 p1), (23, CV.int i64 p2), (27, CV.pure (Ty.slice (Ty.arr 32 (Ty.int u8))) p3), (28, CV.int i64 p4), (29, CV.int i64 p5)] [Blk.vec 42 (Ty.int u32) p6, Blk.vec 24 (Ty.slice (Ty.arr 32 (Ty.int u8))) p8])
noncomputable def Sp.S_74_2 {R : Type} (K : Int → Int → Int → List (List Int) → Int → Int → List Int → List Int → (List (List (List Int))) → Option R) (k : E_74_2 → Option R) (p0 p1 p2 : Int) (p3 : List (List Int)) (p4 p5 : Int) (p6 p7 : List Int) (p8 : List (List (List Int))) : Option R :=
 bif decide (p0 < 32) then gd (sl3 p0 32 32) (gd (decide (toNat p0 + (32 - toNat p0) ≤ 32) && true && p_100 (take (32 - toNat p0) (drop (toNat p0) p7))) (gd (room (length p6 + 1) 4) (K (wrap i64 (p0 + 4)) p1 p2 p3 p4 p5 (p6 ++ [(v_100 (take (32 - toNat p0) (drop (toNat p0) p7))).1]) p7 p8))) else k (E_74_2.e0 p1 p2 p3 p4 p5 p6 p8)
noncomputable def Sp.L_74_2 : Nat → Int → Int → Int → List (List Int) → Int → Int → List Int → List Int → (List (List (List Int))) → Option E_74_2
 | 0, _, _, _, _, _, _, _, _, _ => none
 | m + 1, p0, p1, p2, p3, p4, p5, p6, p7, p8 => S_74_2 (L_74_2 m) some p0 p1 p2 p3 p4 p5 p6 p7 p8
noncomputable def l_74_2 (m : Nat) (a : T_74_2.E) : Option E_74_2 := L_74_2 m a.1 a.2.1 a.2.2.1 a.2.2.2.1 a.2.2.2.2.1 a.2.2.2.2.2.1 a.2.2.2.2.2.2.1 a.2.2.2.2.2.2.2.1 a.2.2.2.2.2.2.2.2.1
noncomputable def O_74_2 {R : Type} : Orc R := orL T_74_2 (l_74_2 FU) Y_74_2
theorem OK_74_2 {R : Type} : okF (R := R) sm_74 0 (ni (ni (nf 74 0) 0) 0) O_74_2 := lp0 T_74_2 l_74_2 (fun R K k a => S_74_2 (fun p0 p1 p2 p3 p4 p5 p6 p7 p8 => K (p0, p1, p2, p3, p4, p5, p6, p7, p8, ())) k a.1 a.2.1 a.2.2.1 a.2.2.2.1 a.2.2.2.2.1 a.2.2.2.2.2.1 a.2.2.2.2.2.2.1 a.2.2.2.2.2.2.2.1 a.2.2.2.2.2.2.2.2.1) Y_74_2 (fun _ _ _ => by kernel_rfl) (fun _ _ _ => by
 unfold S_74_2
 repeat' first | apply gdN | apply condN | rfl) (ok0 _)
noncomputable def T_74_1 : PS := ⟨46, [(4, .kc (.whole 0)), (21, .kc (.whole 1)), (22, .hv (.int .i64)), (23, .hv (.int .i64)), (27, .hv (.slice (.arr 32 (.int .u8)))), (28, .hv (.int .i64)), (29, .hv (.int .i64))], [.vec 42 (.int .u32), .vec 24 (.slice (.arr 32 (.int .u8)))], 0⟩
inductive Sp.E_74_1 where
 | e0 (p0 p1 : Int) (p5 : List Int) (p6 : Zt74_0)
noncomputable def Sp.B_74_1 {R : Type} (r : Option E_74_1) (k0 : Int → Int → List Int → Zt74_0 → Option R) : Option R := match r with
 | none => none
 | some (.e0 p0 p1 p5 p6) => k0 p0 p1 p5 p6
theorem Bn_74_1 {A R : Type} {r : Option E_74_1} {f : A → Option R} {k0 : Int → Int → List Int → Zt74_0 → Option A} {l0 : Int → Int → List Int → Zt74_0 → Option R} (h0 : ∀ p0 p1 p5 p6, (k0 p0 p1 p5 p6).bind f = l0 p0 p1 p5 p6) : (B_74_1 r k0).bind f = B_74_1 r l0 := by
 cases r with
 | none => rfl
 | some e => cases e <;> first | apply h0
noncomputable def Y_74_1 {R : Type} (k : Ex → St → Option R) : E_74_1 → Option R
 | .e0 p0 p1 p5 p6 => k (Ex.exit 2) (sx 46 [(4, CV.whole 0), (21, CV.whole 1), (22, CV.int i64 p0), (23, CV.int i64 p1)] [Blk.vec 42 (Ty.int u32) p5, Blk.vec 24 (Ty.slice (Ty.arr 32 (Ty.int u8))) p6])
noncomputable def Sp.S_74_1 {R : Type} (K : Int → Int → List (List Int) → Int → Int → List Int → (List (List (List Int))) → Option R) (k : E_74_1 → Option R) (p0 p1 : Int) (p2 : List (List Int)) (p3 p4 : Int) (p5 : List Int) (p6 : List (List (List Int))) : Option R :=
 bif decide (p4 < p3) then gd (inB p4 (length p2)) (B_74_2 (L_74_2 4611686018427387904 0 p0 p1 p2 p3 p4 p5 (getD p2 (toNat p4) (Ty.dflt (Ty.arr 32 (Ty.int u8)))) p6) fun y7 y8 y9 y10 y11 y12 y13 => K y7 y8 y9 y10 (wrap i64 (y11 + 1)) y12 y13) else k (E_74_1.e0 p0 p1 p5 p6)
noncomputable def Sp.L_74_1 : Nat → Int → Int → List (List Int) → Int → Int → List Int → (List (List (List Int))) → Option E_74_1
 | 0, _, _, _, _, _, _, _ => none
 | m + 1, p0, p1, p2, p3, p4, p5, p6 => S_74_1 (L_74_1 m) some p0 p1 p2 p3 p4 p5 p6
noncomputable def l_74_1 (m : Nat) (a : T_74_1.E) : Option E_74_1 := L_74_1 m a.1 a.2.1 a.2.2.1 a.2.2.2.1 a.2.2.2.2.1 a.2.2.2.2.2.1 a.2.2.2.2.2.2.1
noncomputable def O_74_1 {R : Type} : Orc R := orL T_74_1 (l_74_1 FU) Y_74_1
theorem OK_74_1 {R : Type} : okF (R := R) sm_74 0 (ni (nf 74 0) 0) O_74_1 := lp noO_ok (os := [O_74_2]) ⟨OK_74_2, trivial⟩ T_74_1 l_74_1 (fun R K k a => S_74_1 (fun p0 p1 p2 p3 p4 p5 p6 => K (p0, p1, p2, p3, p4, p5, p6, ())) k a.1 a.2.1 a.2.2.1 a.2.2.2.1 a.2.2.2.2.1 a.2.2.2.2.2.1 a.2.2.2.2.2.2.1) Y_74_1 (fun _ => rfl) (fun _ _ => rfl) (fun k K a => by kernel_rfl) (fun Y K a => by
 unfold S_74_1
 repeat' first | apply gdN | apply condN | (apply Bn_74_2 <;> intros) | rfl) (ok0 _)
noncomputable def T_74_0 : PS := ⟨46, [(4, .kc (.whole 0)), (21, .kc (.whole 1)), (22, .hv (.int .i64)), (23, .hv (.int .i64))], [.vec 42 (.int .u32), .vec 24 (.slice (.arr 32 (.int .u8)))], 0⟩
inductive Sp.E_74_0 where
 | e0 (p2 : List Int)
noncomputable def Sp.B_74_0 {R : Type} (r : Option E_74_0) (k0 : List Int → Option R) : Option R := match r with
 | none => none
 | some (.e0 p2) => k0 p2
noncomputable def Y_74_0 {R : Type} (k : Ex → St → Option R) : E_74_0 → Option R
 | .e0 p2 => k (Ex.exit 0) (sx 46 [(4, CV.whole 0)] [Blk.vec 42 (Ty.int u32) p2])
noncomputable def Sp.S_74_0 {R : Type} (K : Int → Int → List Int → (List (List (List Int))) → Option R) (k : E_74_0 → Option R) (p0 p1 : Int) (p2 : List Int) (p3 : List (List (List Int))) : Option R :=
 bif decide (p1 < p0) then gd (inB p1 (length p3)) (gd (decide (toNat p1 < length p3) && true) (B_74_1 (L_74_1 4611686018427387904 p0 p1 (getD p3 (toNat p1) (Ty.dflt (Ty.slice (Ty.arr 32 (Ty.int u8))))) (↑(length (getD p3 (toNat p1) (Ty.dflt (Ty.slice (Ty.arr 32 (Ty.int u8)))))) : Int) 0 p2 p3) fun y4 y5 y6 y7 => K y4 (wrap i64 (y5 + 1)) y6 y7)) else k (E_74_0.e0 p2)
noncomputable def Sp.L_74_0 : Nat → Int → Int → List Int → (List (List (List Int))) → Option E_74_0
 | 0, _, _, _, _ => none
 | m + 1, p0, p1, p2, p3 => S_74_0 (L_74_0 m) some p0 p1 p2 p3
noncomputable def l_74_0 (m : Nat) (a : T_74_0.E) : Option E_74_0 := L_74_0 m a.1 a.2.1 a.2.2.1 a.2.2.2.1
noncomputable def O_74_0 {R : Type} : Orc R := orL T_74_0 (l_74_0 FU) Y_74_0
theorem OK_74_0 {R : Type} : okF (R := R) sm_74 0 (nf 74 0) O_74_0 := lp noO_ok (os := [O_74_1]) ⟨OK_74_1, trivial⟩ T_74_0 l_74_0 (fun R K k a => S_74_0 (fun p0 p1 p2 p3 => K (p0, p1, p2, p3, ())) k a.1 a.2.1 a.2.2.1 a.2.2.2.1) Y_74_0 (fun _ => rfl) (fun _ _ => rfl) (fun k K a => by kernel_rfl) (fun Y K a => by
 unfold S_74_0
 repeat' first | apply gdN | apply condN | (apply Bn_74_1 <;> intros) | rfl) (ok0 _)
noncomputable def F_74 (a0 : (Int × ((List (List Int)) × ((List (List Int)) × Unit)))) : Option ((List Int) × Int × Unit) :=
 gd (p_85 a0) (bif !(v_85 a0).1 then some ([], 1, PUnit.unit) else B_74_0 (L_74_0 4611686018427387904 (↑(2 : Nat) : Int) 0 [wrap u32 (a0.1)] [a0.2.1, a0.2.2.1]) fun y1 => some (y1, 0, PUnit.unit))
noncomputable def Sp.p_74 (a0 : (Int × ((List (List Int)) × ((List (List Int)) × Unit)))) : Bool := (F_74 a0).isSome
noncomputable def Sp.v_74 (a0 : (Int × ((List (List Int)) × ((List (List Int)) × Unit)))) : (List Int) × Int × Unit := (F_74 a0).getD (dfH R_74)
noncomputable def s_74 : Summ := shS A_74 R_74 (fun x => p_74 x.1) (fun x => v_74 x.1)
theorem pv_74 (a0 : (Int × ((List (List Int)) × ((List (List Int)) × Unit)))) {y : (List Int) × Int × Unit} (h : F_74 a0 = some y) : p_74 a0 = true ∧ v_74 a0 = y := pvG h
theorem run_74 (x : HDen A_74) (y : HDen R_74) (h : F_74 x.1 = some y) : rnF sm_74 1 74 A_74 R_74 x y := runG noO_ok (os := [O_74_0]) ⟨OK_74_0, trivial⟩ (Eq.trans (by kernel_rfl) h)
end
noncomputable section
abbrev A_38 : List Ty := [(.pair (.int .i64) (.pair (.int .i64) (.pair (.arr 32 (.int .u8)) (.pair (.pair (.int .i64) (.pair (.slice (.arr 32 (.int .u8))) (.pair (.slice (.arr 32 (.int .u8))) .unit))) .unit)))), (.int .i64)]
abbrev R_38 : List Ty := [.bool]
noncomputable def sm_38 : Nat → Option Summ := smL [(74, s_74)]
noncomputable def F_38 (a0 : (Int × (Int × ((List Int) × ((Int × ((List (List Int)) × ((List (List Int)) × Unit))) × Unit))))) (a1 : Int) : Option (Bool × Unit) :=
 gd (p_74 (a0.2.2.2.1)) (bif decide (a0.1 ≥ 1) then bif decide (a0.1 ≤ 2147483647) then bif decide (a0.2.1 ≥ 1) then bif decide (a0.2.1 ≤ a1) then some ((v_74 (a0.2.2.2.1)).2.1 == 0, PUnit.unit) else some (false, PUnit.unit) else some (false, PUnit.unit) else some (false, PUnit.unit) else some (false, PUnit.unit))
noncomputable def Sp.p_38 (a0 : (Int × (Int × ((List Int) × ((Int × ((List (List Int)) × ((List (List Int)) × Unit))) × Unit))))) (a1 : Int) : Bool := (F_38 a0 a1).isSome
noncomputable def Sp.v_38 (a0 : (Int × (Int × ((List Int) × ((Int × ((List (List Int)) × ((List (List Int)) × Unit))) × Unit))))) (a1 : Int) : Bool × Unit := (F_38 a0 a1).getD (dfH R_38)
noncomputable def s_38 : Summ := shN A_38 R_38 (fun x => p_38 x.1 x.2.1) (fun x => v_38 x.1 x.2.1)
theorem pv_38 (a0 : (Int × (Int × ((List Int) × ((Int × ((List (List Int)) × ((List (List Int)) × Unit))) × Unit))))) (a1 : Int) {y : Bool × Unit} (h : F_38 a0 a1 = some y) : p_38 a0 a1 = true ∧ v_38 a0 a1 = y := pvG h
theorem run_38 (x : HDen A_38) (y : HDen R_38) (h : F_38 x.1 x.2.1 = some y) : rnF sm_38 1 38 A_38 R_38 x y := runG noO_ok (os := []) trivial (Eq.trans (by kernel_rfl) h)
end
noncomputable section
abbrev A_13 : List Ty := [(.pair (.int .i64) (.pair (.int .i64) (.pair (.int .i64) (.pair (.pair (.int .i64) (.pair (.int .i64) (.pair (.arr 32 (.int .u8)) (.pair (.pair (.int .i64) (.pair (.slice (.arr 32 (.int .u8))) (.pair (.slice (.arr 32 (.int .u8))) .unit))) .unit)))) .unit))))]
abbrev R_13 : List Ty := [.bool]
noncomputable def sm_13 : Nat → Option Summ := smL [(37, s_37), (38, s_38)]
noncomputable def T_13_0 : PS := ⟨48, [(1, .kc (.ptr 0 []))], [.mem (.hv (.pair (.int .i64) (.pair (.int .i64) (.pair (.int .i64) (.pair (.pair (.int .i64) (.pair (.int .i64) (.pair (.arr 32 (.int .u8)) (.pair (.pair (.int .i64) (.pair (.slice (.arr 32 (.int .u8))) (.pair (.slice (.arr 32 (.int .u8))) .unit))) .unit)))) .unit)))))], 0⟩
inductive Sp.E_13_0 where
 | e0 (p0 : Int × Int × Int × (Int × Int × List Int × (Int × List (List Int) × List (List Int) × Unit) × Unit) × Unit)
 | e1
 | e2 (p0 : Int × Int × Int × (Int × Int × List Int × (Int × List (List Int) × List (List Int) × Unit) × Unit) × Unit)
noncomputable def Sp.B_13_0 {R : Type} (r : Option E_13_0) (k0 : (Int × Int × Int × (Int × Int × List Int × (Int × List (List Int) × List (List Int) × Unit) × Unit) × Unit) → Option R) (k1 : Option R) (k2 : (Int × Int × Int × (Int × Int × List Int × (Int × List (List Int) × List (List Int) × Unit) × Unit) × Unit) → Option R) : Option R := match r with
 | none => none
 | some (.e0 p0) => k0 p0
 | some (.e1) => k1
 | some (.e2 p0) => k2 p0
noncomputable def Y_13_0 {R : Type} (k : Ex → St → Option R) : E_13_0 → Option R
 | .e0 p0 => k Ex.ret (sx 48 [(2, CV.bool (Int.tmod (p0.2.2.1) (32 :Int) == (0 :Int)))] [])
 | .e1 => k Ex.ret (sx 48 [(2, CV.bool false)] [])
 | .e2 p0 => k Ex.ret (sx 48 [(2, CV.bool (p0.2.2.1 == p0.2.2.2.1.2.1))] [])
noncomputable def Sp.S_13_0 {R : Type} (k : E_13_0 → Option R) (p0 : Int × Int × Int × (Int × Int × List Int × (Int × List (List Int) × List (List Int) × Unit) × Unit) × Unit) : Option R :=
 bif p0.1 == 1 then bif decide (p0.2.2.1 ≥ 0) then bif decide (p0.2.2.1 < p0.2.2.2.1.2.1) then k (E_13_0.e0 p0) else k (E_13_0.e1) else k (E_13_0.e1) else bif p0.1 == 2 then k (E_13_0.e2 p0) else k (E_13_0.e1)
noncomputable def Sp.J_13_0 (p0 : Int × Int × Int × (Int × Int × List Int × (Int × List (List Int) × List (List Int) × Unit) × Unit) × Unit) : Option E_13_0 := S_13_0 some p0
noncomputable def O_13_0 {R : Type} : Orc R := orL T_13_0 (fun a => J_13_0 a.1) Y_13_0
theorem OK_13_0 {R : Type} : okF (R := R) sm_13 0 (nf 13 0) O_13_0 := jp noO_ok (os := []) trivial T_13_0 (fun R k a => S_13_0 k a.1) Y_13_0 (fun k a => by kernel_rfl) (fun Y a => by
 unfold S_13_0
 repeat' first | apply gdN | apply condN | rfl) (ok0 _)
noncomputable def F_13 (a0 : (Int × (Int × (Int × ((Int × (Int × ((List Int) × ((Int × ((List (List Int)) × ((List (List Int)) × Unit))) × Unit)))) × Unit))))) : Option (Bool × Unit) :=
 gd (p_37 a0) (bif (v_37 a0).1 then some (true, PUnit.unit) else bif a0.2.1 != 0 then bif a0.2.1 != 1 then some (false, PUnit.unit) else gd (p_38 (a0.2.2.2.1) 1484) (bif !(v_38 (a0.2.2.2.1) 1484).1 then some (false, PUnit.unit) else B_13_0 (J_13_0 a0) (fun y4 => some (Int.tmod (y4.2.2.1) (32 :Int) == (0 :Int), PUnit.unit)) (some (false, PUnit.unit)) fun y5 => some (y5.2.2.1 == y5.2.2.2.1.2.1, PUnit.unit)) else gd (p_38 (a0.2.2.2.1) 1484) (bif !(v_38 (a0.2.2.2.1) 1484).1 then some (false, PUnit.unit) else B_13_0 (J_13_0 a0) (fun y6 => some (Int.tmod (y6.2.2.1) (32 :Int) == (0 :Int), PUnit.unit)) (some (false, PUnit.unit)) fun y7 => some (y7.2.2.1 == y7.2.2.2.1.2.1, PUnit.unit)))
noncomputable def Sp.p_13 (a0 : (Int × (Int × (Int × ((Int × (Int × ((List Int) × ((Int × ((List (List Int)) × ((List (List Int)) × Unit))) × Unit)))) × Unit))))) : Bool := (F_13 a0).isSome
noncomputable def Sp.v_13 (a0 : (Int × (Int × (Int × ((Int × (Int × ((List Int) × ((Int × ((List (List Int)) × ((List (List Int)) × Unit))) × Unit)))) × Unit))))) : Bool × Unit := (F_13 a0).getD (dfH R_13)
noncomputable def s_13 : Summ := shN A_13 R_13 (fun x => p_13 x.1) (fun x => v_13 x.1)
theorem pv_13 (a0 : (Int × (Int × (Int × ((Int × (Int × ((List Int) × ((Int × ((List (List Int)) × ((List (List Int)) × Unit))) × Unit)))) × Unit))))) {y : Bool × Unit} (h : F_13 a0 = some y) : p_13 a0 = true ∧ v_13 a0 = y := pvG h
theorem run_13 (x : HDen A_13) (y : HDen R_13) (h : F_13 x.1 = some y) : rnF sm_13 1 13 A_13 R_13 x y := runG noO_ok (os := [O_13_0]) ⟨OK_13_0, trivial⟩ (Eq.trans (by kernel_rfl) h)
end
noncomputable section
abbrev A_69 : List Ty := [(.pair (.slice (.int .u32)) (.pair (.slice (.int .i64)) (.pair (.int .i64) .unit)))]
abbrev R_69 : List Ty := [.bool]
noncomputable def sm_69 : Nat → Option Summ := smL []
noncomputable def T_69_114_0_0 : PS := ⟨19, [(0, .hv (.slice (.int .i64))), (1, .kc (.clo 96 (.pair (.ptr 0 []) (.pure .unit PUnit.unit)))), (7, .hv (.int .i64)), (8, .hv (.int .i64))], [.mem (.hv (.pair (.slice (.int .u32)) (.pair (.slice (.int .i64)) (.pair (.int .i64) .unit))))], 1⟩
inductive Sp.E_69_114_0_0 where
 | e0 (p2 : Int) (p3 : List Int × List Int × Int × Unit)
 | e1 (p3 : List Int × List Int × Int × Unit)
noncomputable def Sp.B_69_114_0_0 {R : Type} (r : Option E_69_114_0_0) (k0 : Int → (List Int × List Int × Int × Unit) → Option R) (k1 : (List Int × List Int × Int × Unit) → Option R) : Option R := match r with
 | none => none
 | some (.e0 p2 p3) => k0 p2 p3
 | some (.e1 p3) => k1 p3
noncomputable def Y_69_114_0_0 {R : Type} (k : Ex → St → Option R) : E_69_114_0_0 → Option R
 | .e0 p2 p3 => k Ex.ret (sx 19 [(4, CV.int i64 p2)] [Blk.mem (CV.pure (Ty.pair (Ty.slice (Ty.int u32)) (Ty.pair (Ty.slice (Ty.int i64)) (Ty.pair (Ty.int i64) Ty.unit))) p3)] 1)
 | .e1 p3 => k (Ex.exit 0) (sx 19 [] [Blk.mem (CV.pure (Ty.pair (Ty.slice (Ty.int u32)) (Ty.pair (Ty.slice (Ty.int i64)) (Ty.pair (Ty.int i64) Ty.unit))) p3)] 1)
noncomputable def Sp.S_69_114_0_0 {R : Type} (K : List Int → Int → Int → (List Int × List Int × Int × Unit) → Option R) (k : E_69_114_0_0 → Option R) (p0 : List Int) (p1 p2 : Int) (p3 : List Int × List Int × Int × Unit) : Option R :=
 bif decide (p2 < p1) then gd (inB p2 (length p0)) (bif decide (getD p0 (toNat p2) (0 :Int) < (0 :Int)) then k (E_69_114_0_0.e0 p2 p3) else bif decide (getD p0 (toNat p2) 0 > p3.2.2.1) then k (E_69_114_0_0.e0 p2 p3) else K p0 p1 (wrap i64 (p2 + 1)) p3) else k (E_69_114_0_0.e1 p3)
noncomputable def Sp.L_69_114_0_0 : Nat → List Int → Int → Int → (List Int × List Int × Int × Unit) → Option E_69_114_0_0
 | 0, _, _, _, _ => none
 | m + 1, p0, p1, p2, p3 => S_69_114_0_0 (L_69_114_0_0 m) some p0 p1 p2 p3
noncomputable def l_69_114_0_0 (m : Nat) (a : T_69_114_0_0.E) : Option E_69_114_0_0 := L_69_114_0_0 m a.1 a.2.1 a.2.2.1 a.2.2.2.1
noncomputable def O_69_114_0_0 {R : Type} : Orc R := orL T_69_114_0_0 (l_69_114_0_0 FU) Y_69_114_0_0
theorem OK_69_114_0_0 {R : Type} : okF (R := R) sm_69 1 (nf 114 0) O_69_114_0_0 := lp0 T_69_114_0_0 l_69_114_0_0 (fun R K k a => S_69_114_0_0 (fun p0 p1 p2 p3 => K (p0, p1, p2, p3, ())) k a.1 a.2.1 a.2.2.1 a.2.2.2.1) Y_69_114_0_0 (fun _ _ _ => by kernel_rfl) (fun _ _ _ => by
 unfold S_69_114_0_0
 repeat' first | apply gdN | apply condN | rfl) (ok0 _)
noncomputable def g_69_114 {R : Type} : List CV → List Blk → (CV → List Blk → Option R) → Option R := evFnL sm_69 FU (ovr noO (evFn sm_69 fns FU 1)) (mkT (fB fns 114) [O_69_114_0_0]) (fO fns 114)
theorem g_69_114_ok {R : Type} (args : List CV) (hp : List Blk) (k : CV → List Blk → Option R) (r : R) (h : g_69_114 args hp k = some r) : evFn sm_69 fns FU 2 114 args hp k = some r := runG noO_ok (os := [O_69_114_0_0]) ⟨OK_69_114_0_0, trivial⟩ h
noncomputable def ov_69_95 {R : Type} : Nat → Option (List CV → List Blk → (CV → List Blk → Option R) → Option R) := fun f' => bif Nat.beq f' 114 then some g_69_114 else none
theorem ov_69_95_ok {R : Type} : OvrOK (R := R) ov_69_95 (evFn sm_69 fns FU 2) := by
 intro f' g h args hp k r hg
 dsimp only [ov_69_95] at h
 by_cases h114 : f' = 114
 · subst h114
   injection h with h
   subst h
   exact evFn_le 0 (g_69_114_ok _ _ _ _ hg)
 rw [nbeq_ne h114, cond_false] at h
 cases h
noncomputable def g_69_95 {R : Type} : List CV → List Blk → (CV → List Blk → Option R) → Option R := evFnL sm_69 FU (ovr ov_69_95 (evFn sm_69 fns FU 2)) (mkT (fB fns 95) []) (fO fns 95)
theorem g_69_95_ok {R : Type} (args : List CV) (hp : List Blk) (k : CV → List Blk → Option R) (r : R) (h : g_69_95 args hp k = some r) : evFn sm_69 fns FU 3 95 args hp k = some r := runG ov_69_95_ok (os := []) trivial h
noncomputable def ov_69_69 {R : Type} : Nat → Option (List CV → List Blk → (CV → List Blk → Option R) → Option R) := fun f' => bif Nat.beq f' 95 then some g_69_95 else none
theorem ov_69_69_ok {R : Type} : OvrOK (R := R) ov_69_69 (evFn sm_69 fns FU 3) := by
 intro f' g h args hp k r hg
 dsimp only [ov_69_69] at h
 by_cases h95 : f' = 95
 · subst h95
   injection h with h
   subst h
   exact evFn_le 0 (g_69_95_ok _ _ _ _ hg)
 rw [nbeq_ne h95, cond_false] at h
 cases h
noncomputable def F_69 (a0 : ((List Int) × ((List Int) × (Int × Unit)))) : Option (Bool × Unit) :=
 bif decide ((↑(length (a0.2.1)) : Int) < 1) then some (false, PUnit.unit) else bif decide ((↑(length (a0.2.1)) : Int) > 64) then some (false, PUnit.unit) else bif (↑(length (a0.1)) : Int) != wrap i64 ((↑(length (a0.2.1)) : Int) * 64) then some (false, PUnit.unit) else bif decide (a0.2.2.1 < 1) then some (false, PUnit.unit) else bif decide (a0.2.2.1 > 1000000) then some (false, PUnit.unit) else B_69_114_0_0 (L_69_114_0_0 4611686018427387904 (a0.2.1) (↑(length (a0.2.1)) : Int) 0 a0) (fun y23 y24 => some (!decide (y23 ≥ 0), PUnit.unit)) fun y25 => some (true, PUnit.unit)
noncomputable def Sp.p_69 (a0 : ((List Int) × ((List Int) × (Int × Unit)))) : Bool := (F_69 a0).isSome
noncomputable def Sp.v_69 (a0 : ((List Int) × ((List Int) × (Int × Unit)))) : Bool × Unit := (F_69 a0).getD (dfH R_69)
noncomputable def s_69 : Summ := shN A_69 R_69 (fun x => p_69 x.1) (fun x => v_69 x.1)
theorem pv_69 (a0 : ((List Int) × ((List Int) × (Int × Unit)))) {y : Bool × Unit} (h : F_69 a0 = some y) : p_69 a0 = true ∧ v_69 a0 = y := pvG h
theorem run_69 (x : HDen A_69) (y : HDen R_69) (h : F_69 x.1 = some y) : rnF sm_69 4 69 A_69 R_69 x y := runG ov_69_69_ok (os := []) trivial (Eq.trans (by kernel_rfl) h)
end
noncomputable section
abbrev A_70 : List Ty := [(.int .i64)]
abbrev R_70 : List Ty := [.bool]
noncomputable def sm_70 : Nat → Option Summ := smL []
noncomputable def F_70 (a0 : Int) : Option (Bool × Unit) :=
 bif Int.tmod a0 (2 :Int) == (0 :Int) then bif decide (a0 ≥ 18) then some (decide (a0 ≤ 64), PUnit.unit) else some (false, PUnit.unit) else some (false, PUnit.unit)
noncomputable def Sp.p_70 (a0 : Int) : Bool := (F_70 a0).isSome
noncomputable def Sp.v_70 (a0 : Int) : Bool × Unit := (F_70 a0).getD (dfH R_70)
noncomputable def s_70 : Summ := shN A_70 R_70 (fun x => p_70 x.1) (fun x => v_70 x.1)
theorem pv_70 (a0 : Int) {y : Bool × Unit} (h : F_70 a0 = some y) : p_70 a0 = true ∧ v_70 a0 = y := pvG h
theorem run_70 (x : HDen A_70) (y : HDen R_70) (h : F_70 x.1 = some y) : rnF sm_70 1 70 A_70 R_70 x y := runG noO_ok (os := []) trivial (Eq.trans (by kernel_rfl) h)
end
noncomputable section
abbrev A_33 : List Ty := [(.pair (.pair (.slice (.int .u32)) (.pair (.slice (.int .i64)) (.pair (.int .i64) .unit))) (.pair (.arr 32 (.int .u8)) .unit))]
abbrev R_33 : List Ty := [.bool]
noncomputable def sm_33 : Nat → Option Summ := smL [(69, s_69), (70, s_70)]
noncomputable def F_33 (a0 : (((List Int) × ((List Int) × (Int × Unit))) × ((List Int) × Unit))) : Option (Bool × Unit) :=
 gd (p_69 (a0.1)) (bif (v_69 (a0.1)).1 then gd (p_70 (↑(length (a0.1.2.1)) : Int)) (some ((v_70 (↑(length (a0.1.2.1)) : Int)).1, PUnit.unit)) else some (false, PUnit.unit))
noncomputable def Sp.p_33 (a0 : (((List Int) × ((List Int) × (Int × Unit))) × ((List Int) × Unit))) : Bool := (F_33 a0).isSome
noncomputable def Sp.v_33 (a0 : (((List Int) × ((List Int) × (Int × Unit))) × ((List Int) × Unit))) : Bool × Unit := (F_33 a0).getD (dfH R_33)
noncomputable def s_33 : Summ := shN A_33 R_33 (fun x => p_33 x.1) (fun x => v_33 x.1)
theorem pv_33 (a0 : (((List Int) × ((List Int) × (Int × Unit))) × ((List Int) × Unit))) {y : Bool × Unit} (h : F_33 a0 = some y) : p_33 a0 = true ∧ v_33 a0 = y := pvG h
theorem run_33 (x : HDen A_33) (y : HDen R_33) (h : F_33 x.1 = some y) : rnF sm_33 1 33 A_33 R_33 x y := runG noO_ok (os := []) trivial (Eq.trans (by kernel_rfl) h)
end
noncomputable section
abbrev A_41 : List Ty := [(.int .i64)]
abbrev R_41 : List Ty := [(.pair (.int .i64) (.pair (.int .i64) (.pair (.int .i64) (.pair (.pair (.int .i64) (.pair (.int .i64) (.pair (.arr 32 (.int .u8)) (.pair (.pair (.int .i64) (.pair (.slice (.arr 32 (.int .u8))) (.pair (.slice (.arr 32 (.int .u8))) .unit))) .unit)))) .unit)))), (.pair (.pair (.slice (.int .u32)) (.pair (.slice (.int .i64)) (.pair (.int .i64) .unit))) (.pair (.arr 32 (.int .u8)) .unit)), (.pair (.int .i64) (.pair (.int .u32) .unit)), (.int .i64)]
noncomputable def sm_41 : Nat → Option Summ := smL []
noncomputable def F_41 (a0 : Int) : Option ((Int × (Int × (Int × ((Int × (Int × ((List Int) × ((Int × ((List (List Int)) × ((List (List Int)) × Unit))) × Unit)))) × Unit)))) × (((List Int) × ((List Int) × (Int × Unit))) × ((List Int) × Unit)) × (Int × (Int × Unit)) × Int × Unit) :=
 some ((0, 0, 0, (0, 0, replicate 32 (0 :Int), (0, [], [], PUnit.unit), PUnit.unit), PUnit.unit), (([], [], 0, PUnit.unit), replicate 32 (0 :Int), PUnit.unit), (0, 0, PUnit.unit), a0, PUnit.unit)
noncomputable def Sp.p_41 (a0 : Int) : Bool := (F_41 a0).isSome
noncomputable def Sp.v_41 (a0 : Int) : (Int × (Int × (Int × ((Int × (Int × ((List Int) × ((Int × ((List (List Int)) × ((List (List Int)) × Unit))) × Unit)))) × Unit)))) × (((List Int) × ((List Int) × (Int × Unit))) × ((List Int) × Unit)) × (Int × (Int × Unit)) × Int × Unit := (F_41 a0).getD (dfH R_41)
noncomputable def s_41 : Summ := shS A_41 R_41 (fun x => p_41 x.1) (fun x => v_41 x.1)
theorem pv_41 (a0 : Int) {y : (Int × (Int × (Int × ((Int × (Int × ((List Int) × ((Int × ((List (List Int)) × ((List (List Int)) × Unit))) × Unit)))) × Unit)))) × (((List Int) × ((List Int) × (Int × Unit))) × ((List Int) × Unit)) × (Int × (Int × Unit)) × Int × Unit} (h : F_41 a0 = some y) : p_41 a0 = true ∧ v_41 a0 = y := pvG h
theorem run_41 (x : HDen A_41) (y : HDen R_41) (h : F_41 x.1 = some y) : rnF sm_41 1 41 A_41 R_41 x y := runG noO_ok (os := []) trivial (Eq.trans (by kernel_rfl) h)
end
noncomputable section
abbrev A_44 : List Ty := [(.pair (.pair (.slice (.int .u32)) (.pair (.slice (.int .i64)) (.pair (.int .i64) .unit))) (.pair (.arr 32 (.int .u8)) .unit))]
abbrev R_44 : List Ty := [(.int .i64)]
noncomputable def sm_44 : Nat → Option Summ := smL []
noncomputable def F_44 (a0 : (((List Int) × ((List Int) × (Int × Unit))) × ((List Int) × Unit))) : Option (Int × Unit) :=
 some (wrap i64 (Int.tdiv (↑(length (a0.1.1)) : Int) 2), PUnit.unit)
noncomputable def Sp.p_44 (a0 : (((List Int) × ((List Int) × (Int × Unit))) × ((List Int) × Unit))) : Bool := (F_44 a0).isSome
noncomputable def Sp.v_44 (a0 : (((List Int) × ((List Int) × (Int × Unit))) × ((List Int) × Unit))) : Int × Unit := (F_44 a0).getD (dfH R_44)
noncomputable def s_44 : Summ := shN A_44 R_44 (fun x => p_44 x.1) (fun x => v_44 x.1)
theorem pv_44 (a0 : (((List Int) × ((List Int) × (Int × Unit))) × ((List Int) × Unit))) {y : Int × Unit} (h : F_44 a0 = some y) : p_44 a0 = true ∧ v_44 a0 = y := pvG h
theorem run_44 (x : HDen A_44) (y : HDen R_44) (h : F_44 x.1 = some y) : rnF sm_44 1 44 A_44 R_44 x y := runG noO_ok (os := []) trivial (Eq.trans (by kernel_rfl) h)
end
noncomputable section
abbrev A_61 : List Ty := [(.pair (.int .i64) (.pair (.int .u32) .unit))]
abbrev R_61 : List Ty := [.bool]
noncomputable def sm_61 : Nat → Option Summ := smL []
noncomputable def F_61 (a0 : (Int × (Int × Unit))) : Option (Bool × Unit) :=
 bif decide (a0.1 ≥ 0) then some (decide (a0.1 ≤ 1099511627776), PUnit.unit) else some (false, PUnit.unit)
noncomputable def Sp.p_61 (a0 : (Int × (Int × Unit))) : Bool := (F_61 a0).isSome
noncomputable def Sp.v_61 (a0 : (Int × (Int × Unit))) : Bool × Unit := (F_61 a0).getD (dfH R_61)
noncomputable def s_61 : Summ := shN A_61 R_61 (fun x => p_61 x.1) (fun x => v_61 x.1)
theorem pv_61 (a0 : (Int × (Int × Unit))) {y : Bool × Unit} (h : F_61 a0 = some y) : p_61 a0 = true ∧ v_61 a0 = y := pvG h
theorem run_61 (x : HDen A_61) (y : HDen R_61) (h : F_61 x.1 = some y) : rnF sm_61 1 61 A_61 R_61 x y := runG noO_ok (os := []) trivial (Eq.trans (by kernel_rfl) h)
end
noncomputable section
abbrev A_101 : List Ty := [(.pair (.slice (.int .u32)) (.pair (.slice (.int .i64)) (.pair (.int .i64) .unit))), (.pair (.int .i64) (.pair (.int .u32) .unit)), (.int .i64), (.int .i64)]
abbrev R_101 : List Ty := [(.int .i64)]
noncomputable def sm_101 : Nat → Option Summ := smL [(69, s_69)]
noncomputable def F_101 (a0 : ((List Int) × ((List Int) × (Int × Unit)))) (a1 : (Int × (Int × Unit))) (a2 a3 : Int) : Option (Int × Unit) :=
 gd (p_69 a0) (bif !(v_69 a0).1 then some (1, PUnit.unit) else bif decide (a1.1 < 0) then some (1, PUnit.unit) else bif decide (a1.1 > 1099511627776) then some (1, PUnit.unit) else bif decide (a2 < 0) then some (2, PUnit.unit) else bif decide (a2 ≥ a3) then some (2, PUnit.unit) else some (0, PUnit.unit))
noncomputable def Sp.p_101 (a0 : ((List Int) × ((List Int) × (Int × Unit)))) (a1 : (Int × (Int × Unit))) (a2 a3 : Int) : Bool := (F_101 a0 a1 a2 a3).isSome
noncomputable def Sp.v_101 (a0 : ((List Int) × ((List Int) × (Int × Unit)))) (a1 : (Int × (Int × Unit))) (a2 a3 : Int) : Int × Unit := (F_101 a0 a1 a2 a3).getD (dfH R_101)
noncomputable def s_101 : Summ := shN A_101 R_101 (fun x => p_101 x.1 x.2.1 x.2.2.1 x.2.2.2.1) (fun x => v_101 x.1 x.2.1 x.2.2.1 x.2.2.2.1)
theorem pv_101 (a0 : ((List Int) × ((List Int) × (Int × Unit)))) (a1 : (Int × (Int × Unit))) (a2 a3 : Int) {y : Int × Unit} (h : F_101 a0 a1 a2 a3 = some y) : p_101 a0 a1 a2 a3 = true ∧ v_101 a0 a1 a2 a3 = y := pvG h
theorem run_101 (x : HDen A_101) (y : HDen R_101) (h : F_101 x.1 x.2.1 x.2.2.1 x.2.2.2.1 = some y) : rnF sm_101 1 101 A_101 R_101 x y := runG noO_ok (os := []) trivial (Eq.trans (by kernel_rfl) h)
end
noncomputable section
abbrev A_76 : List Ty := [(.pair (.slice (.int .u32)) (.pair (.slice (.int .i64)) (.pair (.int .i64) .unit))), (.int .i64), (.int .u32), (.pair (.int .i64) (.pair (.int .u32) .unit))]
abbrev R_76 : List Ty := [(.pair (.slice (.int .u32)) (.pair (.slice (.int .i64)) (.pair (.int .i64) .unit))), (.pair (.int .i64) (.pair (.int .u32) .unit)), (.int .i64)]
noncomputable def sm_76 : Nat → Option Summ := smL [(25, s_25), (75, s_75), (101, s_101)]
noncomputable def F_76 (a0 : ((List Int) × ((List Int) × (Int × Unit)))) (a1 a2 : Int) (a3 : (Int × (Int × Unit))) : Option (((List Int) × ((List Int) × (Int × Unit))) × (Int × (Int × Unit)) × Int × Unit) :=
 gd (p_101 a0 a3 a1 (↑(length (a0.1)) : Int)) (bif (v_101 a0 a3 a1 (↑(length (a0.1)) : Int)).1 != 0 then some (([], [], 0, PUnit.unit), (0, 0, PUnit.unit), (v_101 a0 a3 a1 (↑(length (a0.1)) : Int)).1, PUnit.unit) else gd (room (length (a0.1)) 4) (gd (room (length (a0.2.1)) 8) (bif a3.1 == 0 then some ((a0.1, a0.2.1, a0.2.2.1, PUnit.unit), a3, 18, PUnit.unit) else bif a3.1 == 1 then gd (inB a1 (length (a0.1))) (gd (decide (toNat a1 < length (a0.1)) && true) (gd (inB a1 (length (a0.1))) (gd (decide (toNat a1 < length (a0.1)) && true && true) (some ((List.set (a0.1) (toNat a1) (Sp.andnI u32 (getD (a0.1) (toNat a1) 0) (Sp.andnI u32 (a3.2.1) a2)), a0.2.1, a0.2.2.1, PUnit.unit), (0, a3.2), 18, PUnit.unit))))) else gd (inB a1 (length (a0.1))) (gd (decide (toNat a1 < length (a0.1)) && true) (gd (inB a1 (length (a0.1))) (gd (decide (toNat a1 < length (a0.1)) && true && true) (some ((List.set (a0.1) (toNat a1) (Sp.andnI u32 (getD (a0.1) (toNat a1) 0) (Sp.andnI u32 4294967295 a2)), a0.2.1, a0.2.2.1, PUnit.unit), (wrap i64 (a3.1 - 1), a3.2), 0, PUnit.unit))))))))
noncomputable def Sp.p_76 (a0 : ((List Int) × ((List Int) × (Int × Unit)))) (a1 a2 : Int) (a3 : (Int × (Int × Unit))) : Bool := (F_76 a0 a1 a2 a3).isSome
noncomputable def Sp.v_76 (a0 : ((List Int) × ((List Int) × (Int × Unit)))) (a1 a2 : Int) (a3 : (Int × (Int × Unit))) : ((List Int) × ((List Int) × (Int × Unit))) × (Int × (Int × Unit)) × Int × Unit := (F_76 a0 a1 a2 a3).getD (dfH R_76)
noncomputable def s_76 : Summ := shS A_76 R_76 (fun x => p_76 x.1 x.2.1 x.2.2.1 x.2.2.2.1) (fun x => v_76 x.1 x.2.1 x.2.2.1 x.2.2.2.1)
theorem pv_76 (a0 : ((List Int) × ((List Int) × (Int × Unit)))) (a1 a2 : Int) (a3 : (Int × (Int × Unit))) {y : ((List Int) × ((List Int) × (Int × Unit))) × (Int × (Int × Unit)) × Int × Unit} (h : F_76 a0 a1 a2 a3 = some y) : p_76 a0 a1 a2 a3 = true ∧ v_76 a0 a1 a2 a3 = y := pvG h
theorem run_76 (x : HDen A_76) (y : HDen R_76) (h : F_76 x.1 x.2.1 x.2.2.1 x.2.2.2.1 = some y) : rnF sm_76 3 76 A_76 R_76 x y := runG noO_ok (os := []) trivial (Eq.trans (by kernel_rfl) h)
end
noncomputable section
abbrev A_27 : List Ty := [(.pair (.int .i64) (.pair (.int .i64) (.pair (.int .i64) (.pair (.pair (.int .i64) (.pair (.int .i64) (.pair (.arr 32 (.int .u8)) (.pair (.pair (.int .i64) (.pair (.slice (.arr 32 (.int .u8))) (.pair (.slice (.arr 32 (.int .u8))) .unit))) .unit)))) .unit)))), (.pair (.pair (.slice (.int .u32)) (.pair (.slice (.int .i64)) (.pair (.int .i64) .unit))) (.pair (.arr 32 (.int .u8)) .unit)), (.pair (.int .i64) (.pair (.int .i64) (.pair (.arr 32 (.int .u8)) (.pair (.pair (.int .i64) (.pair (.slice (.arr 32 (.int .u8))) (.pair (.slice (.arr 32 (.int .u8))) .unit))) .unit)))), (.pair (.int .i64) (.pair (.int .u32) .unit))]
abbrev R_27 : List Ty := [(.pair (.int .i64) (.pair (.int .i64) (.pair (.int .i64) (.pair (.pair (.int .i64) (.pair (.int .i64) (.pair (.arr 32 (.int .u8)) (.pair (.pair (.int .i64) (.pair (.slice (.arr 32 (.int .u8))) (.pair (.slice (.arr 32 (.int .u8))) .unit))) .unit)))) .unit)))), (.pair (.pair (.slice (.int .u32)) (.pair (.slice (.int .i64)) (.pair (.int .i64) .unit))) (.pair (.arr 32 (.int .u8)) .unit)), (.pair (.int .i64) (.pair (.int .u32) .unit)), (.int .i64)]
noncomputable def sm_27 : Nat → Option Summ := smL [(13, s_13), (25, s_25), (33, s_33), (37, s_37), (38, s_38), (41, s_41), (44, s_44), (61, s_61), (75, s_75), (76, s_76)]
noncomputable def g_27_43 {R : Type} : List CV → List Blk → (CV → List Blk → Option R) → Option R := evFnL sm_27 FU (ovr noO (evFn sm_27 fns FU 0)) (mkT (fB fns 43) [(fun _ _ => none)]) (fO fns 43)
theorem g_27_43_ok {R : Type} (args : List CV) (hp : List Blk) (k : CV → List Blk → Option R) (r : R) (h : g_27_43 args hp k = some r) : evFn sm_27 fns FU 1 43 args hp k = some r := runG noO_ok (os := [(fun _ _ => none)]) ⟨ok0 _, trivial⟩ h
noncomputable def ov_27_27 {R : Type} : Nat → Option (List CV → List Blk → (CV → List Blk → Option R) → Option R) := fun f' => bif Nat.beq f' 43 then some g_27_43 else none
theorem ov_27_27_ok {R : Type} : OvrOK (R := R) ov_27_27 (evFn sm_27 fns FU 1) := by
 intro f' g h args hp k r hg
 dsimp only [ov_27_27] at h
 by_cases h43 : f' = 43
 · subst h43
   injection h with h
   subst h
   exact evFn_le 0 (g_27_43_ok _ _ _ _ hg)
 rw [nbeq_ne h43, cond_false] at h
 cases h
noncomputable def F_27 (a0 : (Int × (Int × (Int × ((Int × (Int × ((List Int) × ((Int × ((List (List Int)) × ((List (List Int)) × Unit))) × Unit)))) × Unit))))) (a1 : (((List Int) × ((List Int) × (Int × Unit))) × ((List Int) × Unit))) (a2 : (Int × (Int × ((List Int) × ((Int × ((List (List Int)) × ((List (List Int)) × Unit))) × Unit))))) (a3 : (Int × (Int × Unit))) : Option ((Int × (Int × (Int × ((Int × (Int × ((List Int) × ((Int × ((List (List Int)) × ((List (List Int)) × Unit))) × Unit)))) × Unit)))) × (((List Int) × ((List Int) × (Int × Unit))) × ((List Int) × Unit)) × (Int × (Int × Unit)) × Int × Unit) :=
 gd (p_13 a0) (bif !(v_13 a0).1 then gd (p_41 1) (some ((v_41 1).1, (v_41 1).2.1, (v_41 1).2.2.1, (v_41 1).2.2.2.1, PUnit.unit)) else gd (p_33 a1) (bif !(v_33 a1).1 then gd (p_41 1) (some ((v_41 1).1, (v_41 1).2.1, (v_41 1).2.2.1, (v_41 1).2.2.2.1, PUnit.unit)) else gd (p_61 a3) (bif !(v_61 a3).1 then gd (p_41 1) (some ((v_41 1).1, (v_41 1).2.1, (v_41 1).2.2.1, (v_41 1).2.2.2.1, PUnit.unit)) else gd (p_44 a1) (gd (p_38 a2 (wrap i64 ((v_44 a1).1 - 564))) (bif !(v_38 a2 (wrap i64 ((v_44 a1).1 - 564))).1 then gd (p_41 1) (some ((v_41 1).1, (v_41 1).2.1, (v_41 1).2.2.1, (v_41 1).2.2.2.1, PUnit.unit)) else gd (p_37 a0) (gd (!(v_37 a0).1) (gd (p_41 6) (some ((v_41 6).1, (v_41 6).2.1, (v_41 6).2.2.1, (v_41 6).2.2.2.1, PUnit.unit)))))))))
noncomputable def Sp.p_27 (a0 : (Int × (Int × (Int × ((Int × (Int × ((List Int) × ((Int × ((List (List Int)) × ((List (List Int)) × Unit))) × Unit)))) × Unit))))) (a1 : (((List Int) × ((List Int) × (Int × Unit))) × ((List Int) × Unit))) (a2 : (Int × (Int × ((List Int) × ((Int × ((List (List Int)) × ((List (List Int)) × Unit))) × Unit))))) (a3 : (Int × (Int × Unit))) : Bool := (F_27 a0 a1 a2 a3).isSome
noncomputable def Sp.v_27 (a0 : (Int × (Int × (Int × ((Int × (Int × ((List Int) × ((Int × ((List (List Int)) × ((List (List Int)) × Unit))) × Unit)))) × Unit))))) (a1 : (((List Int) × ((List Int) × (Int × Unit))) × ((List Int) × Unit))) (a2 : (Int × (Int × ((List Int) × ((Int × ((List (List Int)) × ((List (List Int)) × Unit))) × Unit))))) (a3 : (Int × (Int × Unit))) : (Int × (Int × (Int × ((Int × (Int × ((List Int) × ((Int × ((List (List Int)) × ((List (List Int)) × Unit))) × Unit)))) × Unit)))) × (((List Int) × ((List Int) × (Int × Unit))) × ((List Int) × Unit)) × (Int × (Int × Unit)) × Int × Unit := (F_27 a0 a1 a2 a3).getD (dfH R_27)
noncomputable def s_27 : Summ := shS A_27 R_27 (fun x => p_27 x.1 x.2.1 x.2.2.1 x.2.2.2.1) (fun x => v_27 x.1 x.2.1 x.2.2.1 x.2.2.2.1)
theorem run_27 (x : HDen A_27) (y : HDen R_27) (h : F_27 x.1 x.2.1 x.2.2.1 x.2.2.2.1 = some y) : rnF sm_27 2 27 A_27 R_27 x y := runG ov_27_27_ok (os := [(fun _ _ => none)]) ⟨ok0 _, trivial⟩ (Eq.trans (by kernel_rfl) h)
end
noncomputable section
abbrev A_28 : List Ty := []
abbrev R_28 : List Ty := [(.pair (.int .i64) (.pair (.int .u32) .unit))]
noncomputable def sm_28 : Nat → Option Summ := smL []
noncomputable def F_28  : Option ((Int × (Int × Unit)) × Unit) :=
 some ((1099511627776, 0, PUnit.unit), PUnit.unit)
noncomputable def Sp.p_28  : Bool := (F_28 ).isSome
noncomputable def Sp.v_28  : (Int × (Int × Unit)) × Unit := (F_28 ).getD (dfH R_28)
noncomputable def s_28 : Summ := shN A_28 R_28 (fun x => p_28 ) (fun x => v_28 )
theorem run_28 (x : HDen A_28) (y : HDen R_28) (h : F_28  = some y) : rnF sm_28 1 28 A_28 R_28 x y := runG noO_ok (os := []) trivial (Eq.trans (by kernel_rfl) h)
end
noncomputable section
abbrev A_68 : List Ty := [(.pair (.slice (.int .u32)) (.pair (.slice (.int .i64)) (.pair (.int .i64) .unit))), (.pair (.slice (.int .u32)) (.pair (.slice (.int .i64)) (.pair (.int .i64) .unit)))]
abbrev R_68 : List Ty := [.bool]
noncomputable def sm_68 : Nat → Option Summ := smL []
noncomputable def T_68_0 : PS := ⟨66, [(2, .kc (.ptr 0 [])), (3, .kc (.ptr 1 [])), (5, .hv (.int .i64))], [.mem (.hv (.pair (.slice (.int .u32)) (.pair (.slice (.int .i64)) (.pair (.int .i64) .unit)))), .mem (.hv (.pair (.slice (.int .u32)) (.pair (.slice (.int .i64)) (.pair (.int .i64) .unit))))], 0⟩
inductive Sp.E_68_0 where
 | e0
 | e1 (p1 p2 : List Int × List Int × Int × Unit)
noncomputable def Sp.B_68_0 {R : Type} (r : Option E_68_0) (k0 : Option R) (k1 : (List Int × List Int × Int × Unit) → (List Int × List Int × Int × Unit) → Option R) : Option R := match r with
 | none => none
 | some (.e0) => k0
 | some (.e1 p1 p2) => k1 p1 p2
noncomputable def Y_68_0 {R : Type} (k : Ex → St → Option R) : E_68_0 → Option R
 | .e0 => k Ex.ret (sx 66 [(4, CV.bool false)] [])
 | .e1 p1 p2 => k (Ex.exit 0) (sx 66 [(2, CV.ptr 0 []), (3, CV.ptr 1 [])] [Blk.mem (CV.pure (Ty.pair (Ty.slice (Ty.int u32)) (Ty.pair (Ty.slice (Ty.int i64)) (Ty.pair (Ty.int i64) Ty.unit))) p1), Blk.mem (CV.pure (Ty.pair (Ty.slice (Ty.int u32)) (Ty.pair (Ty.slice (Ty.int i64)) (Ty.pair (Ty.int i64) Ty.unit))) p2)])
noncomputable def Sp.S_68_0 {R : Type} (K : Int → (List Int × List Int × Int × Unit) → (List Int × List Int × Int × Unit) → Option R) (k : E_68_0 → Option R) (p0 : Int) (p1 p2 : List Int × List Int × Int × Unit) : Option R :=
 bif decide (p0 < (↑(length (p1.1)) : Int)) then gd (inB p0 (length (p1.1))) (gd (inB p0 (length (p2.1))) (bif getD (p1.1) (toNat p0) 0 != getD (p2.1) (toNat p0) 0 then k (E_68_0.e0) else K (wrap i64 (p0 + 1)) p1 p2)) else k (E_68_0.e1 p1 p2)
noncomputable def Sp.L_68_0 : Nat → Int → (List Int × List Int × Int × Unit) → (List Int × List Int × Int × Unit) → Option E_68_0
 | 0, _, _, _ => none
 | m + 1, p0, p1, p2 => S_68_0 (L_68_0 m) some p0 p1 p2
noncomputable def l_68_0 (m : Nat) (a : T_68_0.E) : Option E_68_0 := L_68_0 m a.1 a.2.1 a.2.2.1
noncomputable def O_68_0 {R : Type} : Orc R := orL T_68_0 (l_68_0 FU) Y_68_0
theorem OK_68_0 {R : Type} : okF (R := R) sm_68 0 (nf 68 0) O_68_0 := lp0 T_68_0 l_68_0 (fun R K k a => S_68_0 (fun p0 p1 p2 => K (p0, p1, p2, ())) k a.1 a.2.1 a.2.2.1) Y_68_0 (fun _ _ _ => by kernel_rfl) (fun _ _ _ => by
 unfold S_68_0
 repeat' first | apply gdN | apply condN | rfl) (ok0 _)
noncomputable def T_68_1 : PS := ⟨66, [(2, .kc (.ptr 0 [])), (3, .kc (.ptr 1 [])), (6, .hv (.int .i64))], [.mem (.hv (.pair (.slice (.int .u32)) (.pair (.slice (.int .i64)) (.pair (.int .i64) .unit)))), .mem (.hv (.pair (.slice (.int .u32)) (.pair (.slice (.int .i64)) (.pair (.int .i64) .unit))))], 0⟩
inductive Sp.E_68_1 where
 | e0
 | e1
noncomputable def Sp.B_68_1 {R : Type} (r : Option E_68_1) (k0 k1 : Option R) : Option R := match r with
 | none => none
 | some (.e0) => k0
 | some (.e1) => k1
noncomputable def Y_68_1 {R : Type} (k : Ex → St → Option R) : E_68_1 → Option R
 | .e0 => k Ex.ret (sx 66 [(4, CV.bool false)] [])
 | .e1 => k (Ex.exit 2) (sx 66 [] [])
noncomputable def Sp.S_68_1 {R : Type} (K : Int → (List Int × List Int × Int × Unit) → (List Int × List Int × Int × Unit) → Option R) (k : E_68_1 → Option R) (p0 : Int) (p1 p2 : List Int × List Int × Int × Unit) : Option R :=
 bif decide (p0 < (↑(length (p1.2.1)) : Int)) then gd (inB p0 (length (p1.2.1))) (gd (inB p0 (length (p2.2.1))) (bif getD (p1.2.1) (toNat p0) 0 != getD (p2.2.1) (toNat p0) 0 then k (E_68_1.e0) else K (wrap i64 (p0 + 1)) p1 p2)) else k (E_68_1.e1)
noncomputable def Sp.L_68_1 : Nat → Int → (List Int × List Int × Int × Unit) → (List Int × List Int × Int × Unit) → Option E_68_1
 | 0, _, _, _ => none
 | m + 1, p0, p1, p2 => S_68_1 (L_68_1 m) some p0 p1 p2
noncomputable def l_68_1 (m : Nat) (a : T_68_1.E) : Option E_68_1 := L_68_1 m a.1 a.2.1 a.2.2.1
noncomputable def O_68_1 {R : Type} : Orc R := orL T_68_1 (l_68_1 FU) Y_68_1
theorem OK_68_1 {R : Type} : okF (R := R) sm_68 0 (nf 68 1) O_68_1 := lp0 T_68_1 l_68_1 (fun R K k a => S_68_1 (fun p0 p1 p2 => K (p0, p1, p2, ())) k a.1 a.2.1 a.2.2.1) Y_68_1 (fun _ _ _ => by kernel_rfl) (fun _ _ _ => by
 unfold S_68_1
 repeat' first | apply gdN | apply condN | rfl) (ok0 _)
noncomputable def F_68 (a0 : ((List Int) × ((List Int) × (Int × Unit)))) (a1 : ((List Int) × ((List Int) × (Int × Unit)))) : Option (Bool × Unit) :=
 bif a0.2.2.1 != a1.2.2.1 then some (false, PUnit.unit) else bif (↑(length (a0.1)) : Int) != (↑(length (a1.1)) : Int) then some (false, PUnit.unit) else bif (↑(length (a0.2.1)) : Int) != (↑(length (a1.2.1)) : Int) then some (false, PUnit.unit) else B_68_0 (L_68_0 4611686018427387904 0 a0 a1) (some (false, PUnit.unit)) fun y2 y3 => B_68_1 (L_68_1 4611686018427387904 0 y2 y3) (some (false, PUnit.unit)) (some (true, PUnit.unit))
noncomputable def Sp.p_68 (a0 : ((List Int) × ((List Int) × (Int × Unit)))) (a1 : ((List Int) × ((List Int) × (Int × Unit)))) : Bool := (F_68 a0 a1).isSome
noncomputable def Sp.v_68 (a0 : ((List Int) × ((List Int) × (Int × Unit)))) (a1 : ((List Int) × ((List Int) × (Int × Unit)))) : Bool × Unit := (F_68 a0 a1).getD (dfH R_68)
noncomputable def s_68 : Summ := shN A_68 R_68 (fun x => p_68 x.1 x.2.1) (fun x => v_68 x.1 x.2.1)
theorem pv_68 (a0 : ((List Int) × ((List Int) × (Int × Unit)))) (a1 : ((List Int) × ((List Int) × (Int × Unit)))) {y : Bool × Unit} (h : F_68 a0 a1 = some y) : p_68 a0 a1 = true ∧ v_68 a0 a1 = y := pvG h
theorem run_68 (x : HDen A_68) (y : HDen R_68) (h : F_68 x.1 x.2.1 = some y) : rnF sm_68 1 68 A_68 R_68 x y := runG noO_ok (os := [O_68_0, O_68_1]) ⟨OK_68_0, OK_68_1, trivial⟩ (Eq.trans (by kernel_rfl) h)
end
noncomputable section
abbrev A_32 : List Ty := [(.pair (.pair (.slice (.int .u32)) (.pair (.slice (.int .i64)) (.pair (.int .i64) .unit))) (.pair (.arr 32 (.int .u8)) .unit)), (.pair (.pair (.slice (.int .u32)) (.pair (.slice (.int .i64)) (.pair (.int .i64) .unit))) (.pair (.arr 32 (.int .u8)) .unit))]
abbrev R_32 : List Ty := [.bool]
noncomputable def sm_32 : Nat → Option Summ := smL [(68, s_68)]
noncomputable def F_32 (a0 : (((List Int) × ((List Int) × (Int × Unit))) × ((List Int) × Unit))) (a1 : (((List Int) × ((List Int) × (Int × Unit))) × ((List Int) × Unit))) : Option (Bool × Unit) :=
 bif Ty.beq (Ty.arr 32 (Ty.int u8)) (a0.2.1) (a1.2.1) then gd (p_68 (a0.1) (a1.1)) (some ((v_68 (a0.1) (a1.1)).1, PUnit.unit)) else some (false, PUnit.unit)
noncomputable def Sp.p_32 (a0 : (((List Int) × ((List Int) × (Int × Unit))) × ((List Int) × Unit))) (a1 : (((List Int) × ((List Int) × (Int × Unit))) × ((List Int) × Unit))) : Bool := (F_32 a0 a1).isSome
noncomputable def Sp.v_32 (a0 : (((List Int) × ((List Int) × (Int × Unit))) × ((List Int) × Unit))) (a1 : (((List Int) × ((List Int) × (Int × Unit))) × ((List Int) × Unit))) : Bool × Unit := (F_32 a0 a1).getD (dfH R_32)
noncomputable def s_32 : Summ := shN A_32 R_32 (fun x => p_32 x.1 x.2.1) (fun x => v_32 x.1 x.2.1)
theorem pv_32 (a0 : (((List Int) × ((List Int) × (Int × Unit))) × ((List Int) × Unit))) (a1 : (((List Int) × ((List Int) × (Int × Unit))) × ((List Int) × Unit))) {y : Bool × Unit} (h : F_32 a0 a1 = some y) : p_32 a0 a1 = true ∧ v_32 a0 a1 = y := pvG h
theorem run_32 (x : HDen A_32) (y : HDen R_32) (h : F_32 x.1 x.2.1 = some y) : rnF sm_32 1 32 A_32 R_32 x y := runG noO_ok (os := []) trivial (Eq.trans (by kernel_rfl) h)
end
noncomputable section
abbrev A_124 : List Ty := [(.int .u32), (.int .u32)]
abbrev R_124 : List Ty := [(.int .u32), (.int .u32)]
noncomputable def sm_124 : Nat → Option Summ := smL []
noncomputable def F_124 (a0 a1 : Int) : Option (Int × Int × Unit) :=
 some (wrap u32 (Int.fdiv (wrap u64 (wrap u64 a0 * wrap u64 a1)) 4294967296), wrap u32 (wrap u64 (wrap u64 a0 * wrap u64 a1)), PUnit.unit)
noncomputable def Sp.p_124 (a0 a1 : Int) : Bool := (F_124 a0 a1).isSome
noncomputable def Sp.v_124 (a0 a1 : Int) : Int × Int × Unit := (F_124 a0 a1).getD (dfH R_124)
noncomputable def s_124 : Summ := shN A_124 R_124 (fun x => p_124 x.1 x.2.1) (fun x => v_124 x.1 x.2.1)
theorem run_124 (x : HDen A_124) (y : HDen R_124) (h : F_124 x.1 x.2.1 = some y) : rnF sm_124 1 124 A_124 R_124 x y := runG noO_ok (os := []) trivial (Eq.trans (by kernel_rfl) h)
end
noncomputable section
abbrev A_125 : List Ty := [(.int .u64), (.int .u64)]
abbrev R_125 : List Ty := [(.int .u64), (.int .u64)]
noncomputable def sm_125 : Nat → Option Summ := smL []
noncomputable def F_125 (a0 a1 : Int) : Option (Int × Int × Unit) :=
 some (wrap u64 (wrap u64 (wrap u64 (Int.fdiv a0 4294967296 * Int.fdiv a1 4294967296) + Int.fdiv (wrap u64 (wrap u64 (Int.fdiv a0 4294967296 * Sp.andI u64 a1 4294967295) + Int.fdiv (wrap u64 (Sp.andI u64 a0 4294967295 * Sp.andI u64 a1 4294967295)) 4294967296)) 4294967296) + Int.fdiv (wrap u64 (Sp.andI u64 (wrap u64 (wrap u64 (Int.fdiv a0 4294967296 * Sp.andI u64 a1 4294967295) + Int.fdiv (wrap u64 (Sp.andI u64 a0 4294967295 * Sp.andI u64 a1 4294967295)) 4294967296)) 4294967295 + wrap u64 (Sp.andI u64 a0 4294967295 * Int.fdiv a1 4294967296))) 4294967296), wrap u64 (a0 * a1), PUnit.unit)
noncomputable def Sp.p_125 (a0 a1 : Int) : Bool := (F_125 a0 a1).isSome
noncomputable def Sp.v_125 (a0 a1 : Int) : Int × Int × Unit := (F_125 a0 a1).getD (dfH R_125)
noncomputable def s_125 : Summ := shN A_125 R_125 (fun x => p_125 x.1 x.2.1) (fun x => v_125 x.1 x.2.1)
theorem run_125 (x : HDen A_125) (y : HDen R_125) (h : F_125 x.1 x.2.1 = some y) : rnF sm_125 1 125 A_125 R_125 x y := runG noO_ok (os := []) trivial (Eq.trans (by kernel_rfl) h)
end
noncomputable section
abbrev A_118 : List Ty := [(.int .u64), (.int .u64)]
abbrev R_118 : List Ty := [(.int .u64), (.int .u64)]
noncomputable def sm_118 : Nat → Option Summ := smL [(124, s_124), (125, s_125)]
noncomputable def F_118 (a0 a1 : Int) : Option (Int × Int × Unit) :=
 gd (p_125 a0 a1) (some ((v_125 a0 a1).1, (v_125 a0 a1).2.1, PUnit.unit))
noncomputable def Sp.p_118 (a0 a1 : Int) : Bool := (F_118 a0 a1).isSome
noncomputable def Sp.v_118 (a0 a1 : Int) : Int × Int × Unit := (F_118 a0 a1).getD (dfH R_118)
noncomputable def s_118 : Summ := shN A_118 R_118 (fun x => p_118 x.1 x.2.1) (fun x => v_118 x.1 x.2.1)
theorem run_118 (x : HDen A_118) (y : HDen R_118) (h : F_118 x.1 x.2.1 = some y) : rnF sm_118 1 118 A_118 R_118 x y := runG noO_ok (os := []) trivial (Eq.trans (by kernel_rfl) h)
end
noncomputable section
abbrev A_99 : List Ty := [(.slice (.int .u32)), (.int .i64)]
abbrev R_99 : List Ty := [(.slice (.int .u32))]
noncomputable def sm_99 : Nat → Option Summ := smL [(118, s_118)]
noncomputable def T_99_2 : PS := ⟨48, [(7, .kc (.whole 0)), (8, .hv (.int .i64))], [.vec 42 (.int .u32)], 0⟩
inductive Sp.E_99_2 where
 | e0 (p1 : List Int)
noncomputable def Sp.B_99_2 {R : Type} (r : Option E_99_2) (k0 : List Int → Option R) : Option R := match r with
 | none => none
 | some (.e0 p1) => k0 p1
theorem Bn_99_2 {A R : Type} {r : Option E_99_2} {f : A → Option R} {k0 : List Int → Option A} {l0 : List Int → Option R} (h0 : ∀ p1, (k0 p1).bind f = l0 p1) : (B_99_2 r k0).bind f = B_99_2 r l0 := by
 cases r with
 | none => rfl
 | some e => cases e <;> first | apply h0
noncomputable def Y_99_2 {R : Type} (k : Ex → St → Option R) : E_99_2 → Option R
 | .e0 p1 => k (Ex.exit 0) (sx 48 [(7, CV.whole 0)] [Blk.vec 42 (Ty.int u32) p1])
noncomputable def Sp.S_99_2 {R : Type} (K : Int → List Int → Option R) (k : E_99_2 → Option R) (p0 : Int) (p1 : List Int) : Option R :=
 bif decide (p0 < (↑(length p1) : Int)) then gd (sl3 p0 (↑(length p1) : Int) (↑(length p1) : Int)) (gd (sl3 0 p0 (↑(length p1) : Int)) (gd (decide (0 + (toNat p0 - 0) ≤ length p1) && (decide (toNat p0 + (toNat (↑(length p1) : Int) - toNat p0) ≤ length p1) && decide (0 < length p1))) (K (wrap i64 (p0 + (↑(Nat.min (length (take (toNat p0 - 0) (drop 0 p1))) (toNat (↑(length p1) : Int) - toNat p0)) : Int))) (over p1 (toNat p0) (take (toNat (↑(length p1) : Int) - toNat p0) (take (toNat p0 - 0) (drop 0 p1))))))) else k (E_99_2.e0 p1)
noncomputable def Sp.L_99_2 : Nat → Int → List Int → Option E_99_2
 | 0, _, _ => none
 | m + 1, p0, p1 => S_99_2 (L_99_2 m) some p0 p1
noncomputable def l_99_2 (m : Nat) (a : T_99_2.E) : Option E_99_2 := L_99_2 m a.1 a.2.1
noncomputable def O_99_2 {R : Type} : Orc R := orL T_99_2 (l_99_2 FU) Y_99_2
theorem OK_99_2 {R : Type} : okF (R := R) sm_99 0 (ni (ni (nf 99 0) 0) 0) O_99_2 := lp0 T_99_2 l_99_2 (fun R K k a => S_99_2 (fun p0 p1 => K (p0, p1, ())) k a.1 a.2.1) Y_99_2 (fun _ _ _ => by kernel_rfl) (fun _ _ _ => by
 unfold S_99_2
 repeat' first | apply gdN | apply condN | rfl) (ok0 _)
noncomputable def T_99_1 : PS := ⟨48, [(0, .hv (.slice (.int .u32))), (6, .hv (.int .u64))], [], 0⟩
inductive Sp.E_99_1 where
 | e0 (y5 : List Int)
noncomputable def Sp.B_99_1 {R : Type} (r : Option E_99_1) (k0 : List Int → Option R) : Option R := match r with
 | none => none
 | some (.e0 y5) => k0 y5
theorem Bn_99_1 {A R : Type} {r : Option E_99_1} {f : A → Option R} {k0 : List Int → Option A} {l0 : List Int → Option R} (h0 : ∀ y5, (k0 y5).bind f = l0 y5) : (B_99_1 r k0).bind f = B_99_1 r l0 := by
 cases r with
 | none => rfl
 | some e => cases e <;> first | apply h0
noncomputable def Y_99_1 {R : Type} (k : Ex → St → Option R) : E_99_1 → Option R
 | .e0 y5 => k Ex.ret (sx 48 [(4, CV.whole 0)] [Blk.vec 42 (Ty.int u32) y5])
noncomputable def Sp.S_99_1 {R : Type} (k : E_99_1 → Option R) (p0 : List Int) (p1 : Int) : Option R :=
 gd (decide (0 ≤ wrap i64 p1) && (wrap i64 p1 == wrap i64 p1 && room (toNat (wrap i64 p1)) 4)) (gd (decide (0 + length (replicate (toNat (wrap i64 p1)) (0 :Int)) ≤ length (replicate (toNat (wrap i64 p1)) (0 :Int))) && decide (0 < length (replicate (toNat (wrap i64 p1)) (0 :Int)))) (B_99_2 (L_99_2 4611686018427387904 (↑(Nat.min (length p0) (length (replicate (toNat (wrap i64 p1)) (0 :Int)))) : Int) (over (replicate (toNat (wrap i64 p1)) (0 :Int)) 0 (take (length (replicate (toNat (wrap i64 p1)) (0 :Int))) p0))) fun y5 => k (E_99_1.e0 y5)))
noncomputable def Sp.J_99_1 (p0 : List Int) (p1 : Int) : Option E_99_1 := S_99_1 some p0 p1
noncomputable def O_99_1 {R : Type} : Orc R := orL T_99_1 (fun a => J_99_1 a.1 a.2.1) Y_99_1
theorem OK_99_1 {R : Type} : okF (R := R) sm_99 0 (ni (nf 99 0) 0) O_99_1 := jp noO_ok (os := [O_99_2]) ⟨OK_99_2, trivial⟩ T_99_1 (fun R k a => S_99_1 k a.1 a.2.1) Y_99_1 (fun k a => by kernel_rfl) (fun Y a => by
 unfold S_99_1
 repeat' first | apply gdN | apply condN | (apply Bn_99_2 <;> intros) | rfl) (ok0 _)
noncomputable def T_99_0 : PS := ⟨48, [(0, .hv (.slice (.int .u32))), (1, .hv (.int .i64))], [], 0⟩
inductive Sp.E_99_0 where
 | e0 (y1 : List Int)
noncomputable def Sp.B_99_0 {R : Type} (r : Option E_99_0) (k0 : List Int → Option R) : Option R := match r with
 | none => none
 | some (.e0 y1) => k0 y1
noncomputable def Y_99_0 {R : Type} (k : Ex → St → Option R) : E_99_0 → Option R
 | .e0 y1 => k Ex.ret (sx 48 [(4, CV.whole 0)] [Blk.vec 42 (Ty.int u32) y1])
noncomputable def Sp.S_99_0 {R : Type} (k : E_99_0 → Option R) (p0 : List Int) (p1 : Int) : Option R :=
 gd (p_118 (wrap u64 (↑(length p0) : Int)) (wrap u64 p1)) (bif decide ((v_118 (wrap u64 (↑(length p0) : Int)) (wrap u64 p1)).1 > 0) then none else bif decide ((v_118 (wrap u64 (↑(length p0) : Int)) (wrap u64 p1)).2.1 > 9223372036854775807) then none else B_99_1 (J_99_1 p0 ((v_118 (wrap u64 (↑(length p0) : Int)) (wrap u64 p1)).2.1)) fun y1 => k (E_99_0.e0 y1))
noncomputable def Sp.J_99_0 (p0 : List Int) (p1 : Int) : Option E_99_0 := S_99_0 some p0 p1
noncomputable def O_99_0 {R : Type} : Orc R := orL T_99_0 (fun a => J_99_0 a.1 a.2.1) Y_99_0
theorem OK_99_0 {R : Type} : okF (R := R) sm_99 0 (nf 99 0) O_99_0 := jp noO_ok (os := [O_99_1]) ⟨OK_99_1, trivial⟩ T_99_0 (fun R k a => S_99_0 k a.1 a.2.1) Y_99_0 (fun k a => by kernel_rfl) (fun Y a => by
 unfold S_99_0
 repeat' first | apply gdN | apply condN | (apply Bn_99_1 <;> intros) | rfl) (ok0 _)
noncomputable def F_99 (a0 : (List Int)) (a1 : Int) : Option ((List Int) × Unit) :=
 bif decide (a1 < 0) then none else B_99_0 (J_99_0 a0 a1) fun y1 => some (y1, PUnit.unit)
noncomputable def Sp.p_99 (a0 : (List Int)) (a1 : Int) : Bool := (F_99 a0 a1).isSome
noncomputable def Sp.v_99 (a0 : (List Int)) (a1 : Int) : (List Int) × Unit := (F_99 a0 a1).getD (dfH R_99)
noncomputable def s_99 : Summ := shS A_99 R_99 (fun x => p_99 x.1 x.2.1) (fun x => v_99 x.1 x.2.1)
theorem run_99 (x : HDen A_99) (y : HDen R_99) (h : F_99 x.1 x.2.1 = some y) : rnF sm_99 1 99 A_99 R_99 x y := runG noO_ok (os := [O_99_0]) ⟨OK_99_0, trivial⟩ (Eq.trans (by kernel_rfl) h)
end
noncomputable section
abbrev A_72 : List Ty := [(.int .i64), (.int .i64)]
abbrev R_72 : List Ty := [(.pair (.slice (.int .u32)) (.pair (.slice (.int .i64)) (.pair (.int .i64) .unit))), (.int .i64)]
noncomputable def sm_72 : Nat → Option Summ := smL [(99, s_99)]
noncomputable def F_72 (a0 a1 : Int) : Option (((List Int) × ((List Int) × (Int × Unit))) × Int × Unit) :=
 bif decide (a0 < 1) then some (([], [], 0, PUnit.unit), 2, PUnit.unit) else bif decide (a0 > 64) then some (([], [], 0, PUnit.unit), 2, PUnit.unit) else bif decide (a1 < 1) then some (([], [], 0, PUnit.unit), 2, PUnit.unit) else bif decide (a1 > 1000000) then some (([], [], 0, PUnit.unit), 2, PUnit.unit) else gd (p_99 [4294967295] (wrap i64 (a0 * 64))) (gd (decide (0 ≤ a0) && (a0 == a0 && room (toNat a0) 8)) (some (((v_99 [4294967295] (wrap i64 (a0 * 64))).1, replicate (toNat a0) (0 :Int), a1, PUnit.unit), 0, PUnit.unit)))
noncomputable def Sp.p_72 (a0 a1 : Int) : Bool := (F_72 a0 a1).isSome
noncomputable def Sp.v_72 (a0 a1 : Int) : ((List Int) × ((List Int) × (Int × Unit))) × Int × Unit := (F_72 a0 a1).getD (dfH R_72)
noncomputable def s_72 : Summ := shS A_72 R_72 (fun x => p_72 x.1 x.2.1) (fun x => v_72 x.1 x.2.1)
theorem run_72 (x : HDen A_72) (y : HDen R_72) (h : F_72 x.1 x.2.1 = some y) : rnF sm_72 1 72 A_72 R_72 x y := runG noO_ok (os := []) trivial (Eq.trans (by kernel_rfl) h)
end
noncomputable section
abbrev A_35 : List Ty := [(.int .i64), (.int .i64), (.arr 32 (.int .u8))]
abbrev R_35 : List Ty := [(.pair (.pair (.slice (.int .u32)) (.pair (.slice (.int .i64)) (.pair (.int .i64) .unit))) (.pair (.arr 32 (.int .u8)) .unit)), (.int .i64)]
noncomputable def sm_35 : Nat → Option Summ := smL [(70, s_70), (72, s_72)]
noncomputable def F_35 (a0 a1 : Int) (a2 : (List Int)) : Option ((((List Int) × ((List Int) × (Int × Unit))) × ((List Int) × Unit)) × Int × Unit) :=
 gd (p_70 a0) (bif !(v_70 a0).1 then some ((([], [], 0, PUnit.unit), replicate 32 (0 :Int), PUnit.unit), 2, PUnit.unit) else gd (p_72 a0 a1) (bif (v_72 a0 a1).2.1 != 0 then some ((([], [], 0, PUnit.unit), replicate 32 (0 :Int), PUnit.unit), 2, PUnit.unit) else some (((v_72 a0 a1).1, a2, PUnit.unit), 0, PUnit.unit)))
noncomputable def Sp.p_35 (a0 a1 : Int) (a2 : (List Int)) : Bool := (F_35 a0 a1 a2).isSome
noncomputable def Sp.v_35 (a0 a1 : Int) (a2 : (List Int)) : (((List Int) × ((List Int) × (Int × Unit))) × ((List Int) × Unit)) × Int × Unit := (F_35 a0 a1 a2).getD (dfH R_35)
noncomputable def s_35 : Summ := shS A_35 R_35 (fun x => p_35 x.1 x.2.1 x.2.2.1) (fun x => v_35 x.1 x.2.1 x.2.2.1)
theorem run_35 (x : HDen A_35) (y : HDen R_35) (h : F_35 x.1 x.2.1 x.2.2.1 = some y) : rnF sm_35 1 35 A_35 R_35 x y := runG noO_ok (os := []) trivial (Eq.trans (by kernel_rfl) h)
end
noncomputable section
abbrev A_8 : List Ty := []
abbrev R_8 : List Ty := [.bool]
noncomputable def sm_8 : Nat → Option Summ := smL [(10, s_10), (11, s_11), (13, s_13), (27, s_27), (28, s_28), (32, s_32), (35, s_35)]
noncomputable def F_8  : Option (Bool × Unit) :=
 gd (p_35 18 10 (replicate 32 (0 :Int))) (gd p_11 (gd p_28 (gd (p_27 (v_11.1) ((v_35 18 10 (replicate 32 (0 :Int))).1) (1, 1, replicate 32 (0 :Int), (0, [], [], PUnit.unit), PUnit.unit) (v_28.1)) (bif (v_35 18 10 (replicate 32 (0 :Int))).2.1 == 0 then gd p_11 (gd (p_13 (v_11.1)) (bif (v_13 (v_11.1)).1 then bif (v_27 (v_11.1) ((v_35 18 10 (replicate 32 (0 :Int))).1) (1, 1, replicate 32 (0 :Int), (0, [], [], PUnit.unit), PUnit.unit) (v_28.1)).2.2.2.1 == 1 then gd (p_10 ((v_27 (v_11.1) ((v_35 18 10 (replicate 32 (0 :Int))).1) (1, 1, replicate 32 (0 :Int), (0, [], [], PUnit.unit), PUnit.unit) (v_28.1)).1)) (bif (v_10 ((v_27 (v_11.1) ((v_35 18 10 (replicate 32 (0 :Int))).1) (1, 1, replicate 32 (0 :Int), (0, [], [], PUnit.unit), PUnit.unit) (v_28.1)).1)).1 then gd (p_32 ((v_27 (v_11.1) ((v_35 18 10 (replicate 32 (0 :Int))).1) (1, 1, replicate 32 (0 :Int), (0, [], [], PUnit.unit), PUnit.unit) (v_28.1)).2.1) (([], [], 0, PUnit.unit), replicate 32 (0 :Int), PUnit.unit)) (bif (v_32 ((v_27 (v_11.1) ((v_35 18 10 (replicate 32 (0 :Int))).1) (1, 1, replicate 32 (0 :Int), (0, [], [], PUnit.unit), PUnit.unit) (v_28.1)).2.1) (([], [], 0, PUnit.unit), replicate 32 (0 :Int), PUnit.unit)).1 then some (Ty.beq (Ty.pair (Ty.int i64) (Ty.pair (Ty.int u32) Ty.unit)) ((v_27 (v_11.1) ((v_35 18 10 (replicate 32 (0 :Int))).1) (1, 1, replicate 32 (0 :Int), (0, [], [], PUnit.unit), PUnit.unit) (v_28.1)).2.2.1) (0, 0, PUnit.unit), PUnit.unit) else some (false, PUnit.unit)) else some (false, PUnit.unit)) else some (false, PUnit.unit) else some (false, PUnit.unit))) else some (false, PUnit.unit)))))
noncomputable def Sp.p_8  : Bool := (F_8 ).isSome
noncomputable def Sp.v_8  : Bool × Unit := (F_8 ).getD (dfH R_8)
noncomputable def s_8 : Summ := shN A_8 R_8 (fun x => p_8 ) (fun x => v_8 )
theorem pv_8  {y : Bool × Unit} (h : F_8  = some y) : p_8  = true ∧ v_8  = y := pvG h
theorem run_8 (x : HDen A_8) (y : HDen R_8) (h : F_8  = some y) : rnF sm_8 1 8 A_8 R_8 x y := runG noO_ok (os := []) trivial (Eq.trans (by kernel_rfl) h)
end
noncomputable section
abbrev A_9 : List Ty := [(.pair (.int .i64) (.pair (.int .i64) (.pair (.arr 32 (.int .u8)) (.pair (.pair (.int .i64) (.pair (.slice (.arr 32 (.int .u8))) (.pair (.slice (.arr 32 (.int .u8))) .unit))) .unit))))]
abbrev R_9 : List Ty := [.bool]
noncomputable def sm_9 : Nat → Option Summ := smL []
noncomputable def F_9 (a0 : (Int × (Int × ((List Int) × ((Int × ((List (List Int)) × ((List (List Int)) × Unit))) × Unit))))) : Option (Bool × Unit) :=
 bif decide ((↑(length (a0.2.2.2.1.2.1)) : Int) > 100) then some (true, PUnit.unit) else some (decide ((↑(length (a0.2.2.2.1.2.2.1)) : Int) > 100), PUnit.unit)
noncomputable def Sp.p_9 (a0 : (Int × (Int × ((List Int) × ((Int × ((List (List Int)) × ((List (List Int)) × Unit))) × Unit))))) : Bool := (F_9 a0).isSome
noncomputable def Sp.v_9 (a0 : (Int × (Int × ((List Int) × ((Int × ((List (List Int)) × ((List (List Int)) × Unit))) × Unit))))) : Bool × Unit := (F_9 a0).getD (dfH R_9)
noncomputable def s_9 : Summ := shN A_9 R_9 (fun x => p_9 x.1) (fun x => v_9 x.1)
theorem pv_9 (a0 : (Int × (Int × ((List Int) × ((Int × ((List (List Int)) × ((List (List Int)) × Unit))) × Unit))))) {y : Bool × Unit} (h : F_9 a0 = some y) : p_9 a0 = true ∧ v_9 a0 = y := pvG h
theorem run_9 (x : HDen A_9) (y : HDen R_9) (h : F_9 x.1 = some y) : rnF sm_9 1 9 A_9 R_9 x y := runG noO_ok (os := []) trivial (Eq.trans (by kernel_rfl) h)
end
noncomputable section
abbrev A_15 : List Ty := [(.pair (.pair (.slice (.int .u32)) (.pair (.slice (.int .i64)) (.pair (.int .i64) .unit))) (.pair (.arr 32 (.int .u8)) .unit))]
abbrev R_15 : List Ty := [.bool]
noncomputable def sm_15 : Nat → Option Summ := smL []
noncomputable def F_15 (a0 : (((List Int) × ((List Int) × (Int × Unit))) × ((List Int) × Unit))) : Option (Bool × Unit) :=
 bif decide ((↑(length (a0.1.2.1)) : Int) > 20) then some (decide ((↑(length (a0.1.2.1)) : Int) ≤ 64), PUnit.unit) else some (false, PUnit.unit)
noncomputable def Sp.p_15 (a0 : (((List Int) × ((List Int) × (Int × Unit))) × ((List Int) × Unit))) : Bool := (F_15 a0).isSome
noncomputable def Sp.v_15 (a0 : (((List Int) × ((List Int) × (Int × Unit))) × ((List Int) × Unit))) : Bool × Unit := (F_15 a0).getD (dfH R_15)
noncomputable def s_15 : Summ := shN A_15 R_15 (fun x => p_15 x.1) (fun x => v_15 x.1)
theorem pv_15 (a0 : (((List Int) × ((List Int) × (Int × Unit))) × ((List Int) × Unit))) {y : Bool × Unit} (h : F_15 a0 = some y) : p_15 a0 = true ∧ v_15 a0 = y := pvG h
theorem run_15 (x : HDen A_15) (y : HDen R_15) (h : F_15 x.1 = some y) : rnF sm_15 1 15 A_15 R_15 x y := runG noO_ok (os := []) trivial (Eq.trans (by kernel_rfl) h)
end
noncomputable section
abbrev A_40 : List Ty := [(.pair (.int .i64) (.pair (.int .i64) (.pair (.int .i64) (.pair (.pair (.int .i64) (.pair (.int .i64) (.pair (.arr 32 (.int .u8)) (.pair (.pair (.int .i64) (.pair (.slice (.arr 32 (.int .u8))) (.pair (.slice (.arr 32 (.int .u8))) .unit))) .unit)))) .unit)))), (.pair (.pair (.slice (.int .u32)) (.pair (.slice (.int .i64)) (.pair (.int .i64) .unit))) (.pair (.arr 32 (.int .u8)) .unit)), (.pair (.int .i64) (.pair (.int .u32) .unit))]
abbrev R_40 : List Ty := [(.int .i64)]
noncomputable def sm_40 : Nat → Option Summ := smL [(13, s_13), (33, s_33), (37, s_37), (38, s_38), (44, s_44), (61, s_61)]
noncomputable def F_40 (a0 : (Int × (Int × (Int × ((Int × (Int × ((List Int) × ((Int × ((List (List Int)) × ((List (List Int)) × Unit))) × Unit)))) × Unit))))) (a1 : (((List Int) × ((List Int) × (Int × Unit))) × ((List Int) × Unit))) (a2 : (Int × (Int × Unit))) : Option (Int × Unit) :=
 gd (p_13 a0) (bif !(v_13 a0).1 then some (1, PUnit.unit) else gd (p_33 a1) (bif !(v_33 a1).1 then some (1, PUnit.unit) else gd (p_61 a2) (bif !(v_61 a2).1 then some (1, PUnit.unit) else gd (p_37 a0) (bif !(v_37 a0).1 then gd (p_44 a1) (gd (p_38 (a0.2.2.2.1) (wrap i64 ((v_44 a1).1 - 564))) (bif !(v_38 (a0.2.2.2.1) (wrap i64 ((v_44 a1).1 - 564))).1 then some (1, PUnit.unit) else some (0, PUnit.unit))) else some (0, PUnit.unit)))))
noncomputable def Sp.p_40 (a0 : (Int × (Int × (Int × ((Int × (Int × ((List Int) × ((Int × ((List (List Int)) × ((List (List Int)) × Unit))) × Unit)))) × Unit))))) (a1 : (((List Int) × ((List Int) × (Int × Unit))) × ((List Int) × Unit))) (a2 : (Int × (Int × Unit))) : Bool := (F_40 a0 a1 a2).isSome
noncomputable def Sp.v_40 (a0 : (Int × (Int × (Int × ((Int × (Int × ((List Int) × ((Int × ((List (List Int)) × ((List (List Int)) × Unit))) × Unit)))) × Unit))))) (a1 : (((List Int) × ((List Int) × (Int × Unit))) × ((List Int) × Unit))) (a2 : (Int × (Int × Unit))) : Int × Unit := (F_40 a0 a1 a2).getD (dfH R_40)
noncomputable def s_40 : Summ := shN A_40 R_40 (fun x => p_40 x.1 x.2.1 x.2.2.1) (fun x => v_40 x.1 x.2.1 x.2.2.1)
theorem pv_40 (a0 : (Int × (Int × (Int × ((Int × (Int × ((List Int) × ((Int × ((List (List Int)) × ((List (List Int)) × Unit))) × Unit)))) × Unit))))) (a1 : (((List Int) × ((List Int) × (Int × Unit))) × ((List Int) × Unit))) (a2 : (Int × (Int × Unit))) {y : Int × Unit} (h : F_40 a0 a1 a2 = some y) : p_40 a0 a1 a2 = true ∧ v_40 a0 a1 a2 = y := pvG h
theorem run_40 (x : HDen A_40) (y : HDen R_40) (h : F_40 x.1 x.2.1 x.2.2.1 = some y) : rnF sm_40 1 40 A_40 R_40 x y := runG noO_ok (os := []) trivial (Eq.trans (by kernel_rfl) h)
end
noncomputable section
abbrev Zt16_0 : Type := Int × Int × Int × (Int × Int × List Int × (Int × List (List Int) × List (List Int) × Unit) × Unit) × Unit
abbrev Zt16_1 : Type := ((List Int × List Int × Int × Unit) × List Int × Unit) × (Int × Int × Unit) × Int × Unit
abbrev Zy16_2 : Ty := (.pair (.int .i64) (.pair (.int .i64) (.pair (.int .i64) (.pair (.pair (.int .i64) (.pair (.int .i64) (.pair (.arr 32 (.int .u8)) (.pair (.pair (.int .i64) (.pair (.slice (.arr 32 (.int .u8))) (.pair (.slice (.arr 32 (.int .u8))) .unit))) .unit)))) .unit))))
abbrev Zt16_3 : Type := (List Int × List Int × Int × Unit) × List Int × Unit
abbrev Zt16_4 : Type := (Int × Int × Unit) × Int × Unit
abbrev Zy16_5 : Ty := (.pair (.pair (.pair (.slice (.int .u32)) (.pair (.slice (.int .i64)) (.pair (.int .i64) .unit))) (.pair (.arr 32 (.int .u8)) .unit)) (.pair (.pair (.int .i64) (.pair (.int .u32) .unit)) (.pair (.int .i64) .unit)))
abbrev Zt16_6 : Type := Int × Int × Unit
abbrev Zt16_7 : Type := List Int × Unit
abbrev Zy16_8 : Ty := (.pair (.int .i64) (.pair (.int .u32) .unit))
abbrev Zt16_9 : Type := (((List Int) × ((List Int) × (Int × Unit))) × ((List Int) × Unit))
abbrev Zt16_10 : Type := (Int × (Int × (Int × ((Int × (Int × ((List Int) × ((Int × ((List (List Int)) × ((List (List Int)) × Unit))) × Unit)))) × Unit))))
abbrev Zy16_11 : Ty := (.pair (.pair (.slice (.int .u32)) (.pair (.slice (.int .i64)) (.pair (.int .i64) .unit))) (.pair (.arr 32 (.int .u8)) .unit))
abbrev Zy16_12 : Ty := (.pair (.arr 32 (.int .u8)) .unit)
abbrev Zy16_13 : Ty := (.pair (.pair (.int .i64) (.pair (.int .u32) .unit)) (.pair (.int .i64) .unit))
abbrev Zt16_14 : Type := (Int × (Int × Unit))
abbrev A_16 : List Ty := [(.pair (.int .i64) (.pair (.int .i64) (.pair (.int .i64) (.pair (.pair (.int .i64) (.pair (.int .i64) (.pair (.arr 32 (.int .u8)) (.pair (.pair (.int .i64) (.pair (.slice (.arr 32 (.int .u8))) (.pair (.slice (.arr 32 (.int .u8))) .unit))) .unit)))) .unit)))), (.pair (.pair (.slice (.int .u32)) (.pair (.slice (.int .i64)) (.pair (.int .i64) .unit))) (.pair (.arr 32 (.int .u8)) .unit)), (.int .i64), (.slice (.int .u32)), (.pair (.int .i64) (.pair (.int .u32) .unit))]
abbrev R_16 : List Ty := [(.pair (.int .i64) (.pair (.int .i64) (.pair (.int .i64) (.pair (.pair (.int .i64) (.pair (.int .i64) (.pair (.arr 32 (.int .u8)) (.pair (.pair (.int .i64) (.pair (.slice (.arr 32 (.int .u8))) (.pair (.slice (.arr 32 (.int .u8))) .unit))) .unit)))) .unit)))), (.pair (.pair (.slice (.int .u32)) (.pair (.slice (.int .i64)) (.pair (.int .i64) .unit))) (.pair (.arr 32 (.int .u8)) .unit)), (.pair (.int .i64) (.pair (.int .u32) .unit)), (.int .i64)]
noncomputable def sm_16 : Nat → Option Summ := smL [(25, s_25), (40, s_40), (41, s_41), (44, s_44), (75, s_75), (76, s_76)]
noncomputable def T_16_43_0_1 : PS := ⟨49, [(0, .kc (.ptr 6 [])), (1, .hv (.int .i64)), (8, .hv (.slice (.int .u32))), (9, .hv (.int .i64)), (10, .hv (.int .i64))], [.mem (.hv Zy16_2), .mem (.hv Zy16_11), .mem (.hv Zy16_8), .mem (.pr (.hv (.int .i64)) (.pr (.hv (.int .i64)) (.pr (.hv (.int .i64)) (.pr (.pr (.hv (.int .i64)) (.pr (.hv (.int .i64)) (.pr (.hv (.arr 32 (.int .u8))) (.pr (.pr (.hv (.int .i64)) (.kc (.pair (.nil 23 (.arr 32 (.int .u8))) (.pair (.nil 23 (.arr 32 (.int .u8))) (.pure .unit PUnit.unit))))) (.kc (.pure .unit PUnit.unit)))))) (.kc (.pure .unit PUnit.unit)))))), .mem (.pr (.pr (.kc (.nil 42 (.int .u32))) (.pr (.kc (.nil 3 (.int .i64))) (.hv (.pair (.int .i64) .unit)))) (.hv Zy16_12)), .mem (.hv Zy16_8), .mem (.hv Zy16_5), .fvec 42 (.int .u32), .fvec 3 (.int .i64), .fresh], 10⟩
inductive Sp.E_16_43_0_1 where
 | e0 (p4 : Zt16_0) (p5 : Zt16_3) (p6 : Zt16_6) (p7 p8 p9 p10 p11 : Int) (p12 : List Int) (p13 : Int) (p14 : Int × Unit) (p15 : Zt16_7) (p16 : Zt16_6) (p17 : Zt16_1) (p18 p19 : List Int)
noncomputable def Sp.B_16_43_0_1 {R : Type} (r : Option E_16_43_0_1) (k0 : Zt16_0 → Zt16_3 → Zt16_6 → Int → Int → Int → Int → Int → List Int → Int → (Int × Unit) → Zt16_7 → Zt16_6 → Zt16_1 → List Int → List Int → Option R) : Option R := match r with
 | none => none
 | some (.e0 p4 p5 p6 p7 p8 p9 p10 p11 p12 p13 p14 p15 p16 p17 p18 p19) => k0 p4 p5 p6 p7 p8 p9 p10 p11 p12 p13 p14 p15 p16 p17 p18 p19
noncomputable def Y_16_43_0_1 {R : Type} (k : Ex → St → Option R) : E_16_43_0_1 → Option R
 | .e0 p4 p5 p6 p7 p8 p9 p10 p11 p12 p13 p14 p15 p16 p17 p18 p19 => k (Ex.exit 0) (sx 49 [] [Blk.mem (CV.pure (Ty.pair (Ty.int i64) (Ty.pair (Ty.int i64) (Ty.pair (Ty.int i64) (Ty.pair (Ty.pair (Ty.int i64) (Ty.pair (Ty.int i64) (Ty.pair (Ty.arr 32 (Ty.int u8)) (Ty.pair (Ty.pair (Ty.int i64) (Ty.pair (Ty.slice (Ty.arr 32 (Ty.int u8))) (Ty.pair (Ty.slice (Ty.arr 32 (Ty.int u8))) Ty.unit))) Ty.unit)))) Ty.unit)))) p4), Blk.mem (CV.pure (Ty.pair (Ty.pair (Ty.slice (Ty.int u32)) (Ty.pair (Ty.slice (Ty.int i64)) (Ty.pair (Ty.int i64) Ty.unit))) (Ty.pair (Ty.arr 32 (Ty.int u8)) Ty.unit)) p5), Blk.mem (CV.pure (Ty.pair (Ty.int i64) (Ty.pair (Ty.int u32) Ty.unit)) p6), Blk.mem (CV.pair (CV.int i64 p7) (CV.pair (CV.int i64 p8) (CV.pair (CV.int i64 p9) (CV.pair (CV.pair (CV.int i64 p10) (CV.pair (CV.int i64 p11) (CV.pair (CV.pure (Ty.arr 32 (Ty.int u8)) p12) (CV.pair (CV.pair (CV.int i64 p13) (CV.pair (CV.nil 23 (Ty.arr 32 (Ty.int u8))) (CV.pair (CV.nil 23 (Ty.arr 32 (Ty.int u8))) (CV.pure Ty.unit PUnit.unit)))) (CV.pure Ty.unit PUnit.unit))))) (CV.pure Ty.unit PUnit.unit))))), Blk.mem (CV.pair (CV.pair (CV.nil 42 (Ty.int u32)) (CV.pair (CV.nil 3 (Ty.int i64)) (CV.pure (Ty.pair (Ty.int i64) Ty.unit) p14))) (CV.pure (Ty.pair (Ty.arr 32 (Ty.int u8)) Ty.unit) p15)), Blk.mem (CV.pure (Ty.pair (Ty.int i64) (Ty.pair (Ty.int u32) Ty.unit)) p16), Blk.mem (CV.pure (Ty.pair (Ty.pair (Ty.pair (Ty.slice (Ty.int u32)) (Ty.pair (Ty.slice (Ty.int i64)) (Ty.pair (Ty.int i64) Ty.unit))) (Ty.pair (Ty.arr 32 (Ty.int u8)) Ty.unit)) (Ty.pair (Ty.pair (Ty.int i64) (Ty.pair (Ty.int u32) Ty.unit)) (Ty.pair (Ty.int i64) Ty.unit))) p17), Blk.fvec 42 (Ty.int u32) p18, Blk.fvec 3 (Ty.int i64) p19, Blk.fresh] 10)
noncomputable def Sp.S_16_43_0_1 {R : Type} (K : Int → List Int → Int → Int → (Int × Int × Int × (Int × Int × List Int × (Int × List (List Int) × List (List Int) × Unit) × Unit) × Unit) → ((List Int × List Int × Int × Unit) × List Int × Unit) → (Int × Int × Unit) → Int → Int → Int → Int → Int → List Int → Int → (Int × Unit) → (List Int × Unit) → (Int × Int × Unit) → (((List Int × List Int × Int × Unit) × List Int × Unit) × (Int × Int × Unit) × Int × Unit) → List Int → List Int → Option R) (k : E_16_43_0_1 → Option R) (p0 : Int) (p1 : List Int) (p2 p3 : Int) (p4 : Int × Int × Int × (Int × Int × List Int × (Int × List (List Int) × List (List Int) × Unit) × Unit) × Unit) (p5 : (List Int × List Int × Int × Unit) × List Int × Unit) (p6 : Int × Int × Unit) (p7 p8 p9 p10 p11 : Int) (p12 : List Int) (p13 : Int) (p14 : Int × Unit) (p15 : List Int × Unit) (p16 : Int × Int × Unit) (p17 : ((List Int × List Int × Int × Unit) × List Int × Unit) × (Int × Int × Unit) × Int × Unit) (p18 p19 : List Int) : Option R :=
 bif decide (p3 < p2) then gd (inB p3 (length p1)) (bif p17.2.2.1 == 0 then gd (p_76 (p17.1.1) (wrap i64 (p0 + p3)) (getD p1 (toNat p3) 0) (p17.2.1)) (K p0 p1 p2 (wrap i64 (p3 + 1)) p4 p5 p6 p7 p8 p9 p10 p11 p12 p13 p14 p15 p16 (((v_76 (p17.1.1) (wrap i64 (p0 + p3)) (getD p1 (toNat p3) 0) (p17.2.1)).1, p17.1.2), (v_76 (p17.1.1) (wrap i64 (p0 + p3)) (getD p1 (toNat p3) 0) (p17.2.1)).2.1, (v_76 (p17.1.1) (wrap i64 (p0 + p3)) (getD p1 (toNat p3) 0) (p17.2.1)).2.2.1, p17.2.2.2) p18 p19) else K p0 p1 p2 (wrap i64 (p3 + 1)) p4 p5 p6 p7 p8 p9 p10 p11 p12 p13 p14 p15 p16 p17 p18 p19) else k (E_16_43_0_1.e0 p4 p5 p6 p7 p8 p9 p10 p11 p12 p13 p14 p15 p16 p17 p18 p19)
noncomputable def Sp.L_16_43_0_1 : Nat → Int → List Int → Int → Int → (Int × Int × Int × (Int × Int × List Int × (Int × List (List Int) × List (List Int) × Unit) × Unit) × Unit) → ((List Int × List Int × Int × Unit) × List Int × Unit) → (Int × Int × Unit) → Int → Int → Int → Int → Int → List Int → Int → (Int × Unit) → (List Int × Unit) → (Int × Int × Unit) → (((List Int × List Int × Int × Unit) × List Int × Unit) × (Int × Int × Unit) × Int × Unit) → List Int → List Int → Option E_16_43_0_1
 | 0, _, _, _, _, _, _, _, _, _, _, _, _, _, _, _, _, _, _, _, _ => none
 | m + 1, p0, p1, p2, p3, p4, p5, p6, p7, p8, p9, p10, p11, p12, p13, p14, p15, p16, p17, p18, p19 => S_16_43_0_1 (L_16_43_0_1 m) some p0 p1 p2 p3 p4 p5 p6 p7 p8 p9 p10 p11 p12 p13 p14 p15 p16 p17 p18 p19
noncomputable def l_16_43_0_1 (m : Nat) (a : T_16_43_0_1.E) : Option E_16_43_0_1 := L_16_43_0_1 m a.1 a.2.1 a.2.2.1 a.2.2.2.1 a.2.2.2.2.1 a.2.2.2.2.2.1 a.2.2.2.2.2.2.1 a.2.2.2.2.2.2.2.1 a.2.2.2.2.2.2.2.2.1 a.2.2.2.2.2.2.2.2.2.1 a.2.2.2.2.2.2.2.2.2.2.1 a.2.2.2.2.2.2.2.2.2.2.2.1 a.2.2.2.2.2.2.2.2.2.2.2.2.1 a.2.2.2.2.2.2.2.2.2.2.2.2.2.1 a.2.2.2.2.2.2.2.2.2.2.2.2.2.2.1 a.2.2.2.2.2.2.2.2.2.2.2.2.2.2.2.1 a.2.2.2.2.2.2.2.2.2.2.2.2.2.2.2.2.1 a.2.2.2.2.2.2.2.2.2.2.2.2.2.2.2.2.2.1 a.2.2.2.2.2.2.2.2.2.2.2.2.2.2.2.2.2.2.1 a.2.2.2.2.2.2.2.2.2.2.2.2.2.2.2.2.2.2.2.1
noncomputable def O_16_43_0_1 {R : Type} : Orc R := orL T_16_43_0_1 (l_16_43_0_1 FU) Y_16_43_0_1
theorem loop_16_43_0_1 {R : Type} (k : Ex → St → Option R) : ∀ m a, evLoopN (evCodeL sm_16 FU (ovr noO (evFn sm_16 fns FU 0)) (mkT (inner (nf 43 0)) []) (inner (nf 43 0))) (St.norm (lv (nf 43 0))) m (T_16_43_0_1.inst a) k = (l_16_43_0_1 m a).bind (Y_16_43_0_1 k) := lpN l_16_43_0_1 (fun R K k a => S_16_43_0_1 (fun p0 p1 p2 p3 p4 p5 p6 p7 p8 p9 p10 p11 p12 p13 p14 p15 p16 p17 p18 p19 => K (p0, p1, p2, p3, p4, p5, p6, p7, p8, p9, p10, p11, p12, p13, p14, p15, p16, p17, p18, p19, ())) k a.1 a.2.1 a.2.2.1 a.2.2.2.1 a.2.2.2.2.1 a.2.2.2.2.2.1 a.2.2.2.2.2.2.1 a.2.2.2.2.2.2.2.1 a.2.2.2.2.2.2.2.2.1 a.2.2.2.2.2.2.2.2.2.1 a.2.2.2.2.2.2.2.2.2.2.1 a.2.2.2.2.2.2.2.2.2.2.2.1 a.2.2.2.2.2.2.2.2.2.2.2.2.1 a.2.2.2.2.2.2.2.2.2.2.2.2.2.1 a.2.2.2.2.2.2.2.2.2.2.2.2.2.2.1 a.2.2.2.2.2.2.2.2.2.2.2.2.2.2.2.1 a.2.2.2.2.2.2.2.2.2.2.2.2.2.2.2.2.1 a.2.2.2.2.2.2.2.2.2.2.2.2.2.2.2.2.2.1 a.2.2.2.2.2.2.2.2.2.2.2.2.2.2.2.2.2.2.1 a.2.2.2.2.2.2.2.2.2.2.2.2.2.2.2.2.2.2.2.1) (fun _ => rfl) (fun _ _ => rfl) (fun K a => by kernel_rfl) (fun K a => by
 unfold S_16_43_0_1
 repeat' first | apply gdN | apply condN | rfl)
theorem OK_16_43_0_1 {R : Type} : okF (R := R) sm_16 0 (nf 43 0) O_16_43_0_1 := lp0 T_16_43_0_1 l_16_43_0_1 (fun R K k a => S_16_43_0_1 (fun p0 p1 p2 p3 p4 p5 p6 p7 p8 p9 p10 p11 p12 p13 p14 p15 p16 p17 p18 p19 => K (p0, p1, p2, p3, p4, p5, p6, p7, p8, p9, p10, p11, p12, p13, p14, p15, p16, p17, p18, p19, ())) k a.1 a.2.1 a.2.2.1 a.2.2.2.1 a.2.2.2.2.1 a.2.2.2.2.2.1 a.2.2.2.2.2.2.1 a.2.2.2.2.2.2.2.1 a.2.2.2.2.2.2.2.2.1 a.2.2.2.2.2.2.2.2.2.1 a.2.2.2.2.2.2.2.2.2.2.1 a.2.2.2.2.2.2.2.2.2.2.2.1 a.2.2.2.2.2.2.2.2.2.2.2.2.1 a.2.2.2.2.2.2.2.2.2.2.2.2.2.1 a.2.2.2.2.2.2.2.2.2.2.2.2.2.2.1 a.2.2.2.2.2.2.2.2.2.2.2.2.2.2.2.1 a.2.2.2.2.2.2.2.2.2.2.2.2.2.2.2.2.1 a.2.2.2.2.2.2.2.2.2.2.2.2.2.2.2.2.2.1 a.2.2.2.2.2.2.2.2.2.2.2.2.2.2.2.2.2.2.1 a.2.2.2.2.2.2.2.2.2.2.2.2.2.2.2.2.2.2.2.1) Y_16_43_0_1 (fun _ _ _ => by kernel_rfl) (fun _ _ _ => by
 unfold S_16_43_0_1
 repeat' first | apply gdN | apply condN | rfl) (ok0 _)
noncomputable def T_16_43_0_0 : PS := ⟨49, [(0, .kc (.ptr 6 [])), (1, .hv (.int .i64)), (8, .hv (.slice (.int .u32))), (9, .hv (.int .i64)), (10, .hv (.int .i64))], [.mem (.hv Zy16_2), .mem (.hv Zy16_11), .mem (.hv Zy16_8), .mem (.pr (.hv (.int .i64)) (.pr (.hv (.int .i64)) (.pr (.hv (.int .i64)) (.pr (.pr (.hv (.int .i64)) (.pr (.hv (.int .i64)) (.pr (.hv (.arr 32 (.int .u8))) (.pr (.pr (.hv (.int .i64)) (.kc (.pair (.nil 23 (.arr 32 (.int .u8))) (.pair (.nil 23 (.arr 32 (.int .u8))) (.pure .unit PUnit.unit))))) (.kc (.pure .unit PUnit.unit)))))) (.kc (.pure .unit PUnit.unit)))))), .mem (.pr (.pr (.kc (.nil 42 (.int .u32))) (.pr (.kc (.nil 3 (.int .i64))) (.hv (.pair (.int .i64) .unit)))) (.hv Zy16_12)), .mem (.hv Zy16_8), .mem (.pr (.pr (.pr (.kc (.whole 7)) (.pr (.kc (.whole 8)) (.hv (.pair (.int .i64) .unit)))) (.hv Zy16_12)) (.hv Zy16_13)), .vec 42 (.int .u32), .vec 3 (.int .i64), .fresh], 10⟩
inductive Sp.E_16_43_0_0 where
 | e0 (p4 : Zt16_0) (p5 : Zt16_3) (p6 : Zt16_6) (p7 p8 p9 p10 p11 : Int) (p12 : List Int) (p13 : Int) (p14 : Int × Unit) (p15 : Zt16_7) (p16 : Zt16_6) (p17 : Int × Unit) (p18 : Zt16_7) (p19 : Zt16_4) (p20 p21 : List Int)
 | e1 (p4 : Zt16_0) (p5 : Zt16_3) (p6 : Zt16_6) (p7 p8 p9 p10 p11 : Int) (p12 : List Int) (p13 : Int) (p14 : Int × Unit) (p15 : Zt16_7) (p16 : Zt16_6) (p17 : Zt16_1) (p18 p19 : List Int)
noncomputable def Sp.B_16_43_0_0 {R : Type} (r : Option E_16_43_0_0) (k0 : Zt16_0 → Zt16_3 → Zt16_6 → Int → Int → Int → Int → Int → List Int → Int → (Int × Unit) → Zt16_7 → Zt16_6 → (Int × Unit) → Zt16_7 → Zt16_4 → List Int → List Int → Option R) (k1 : Zt16_0 → Zt16_3 → Zt16_6 → Int → Int → Int → Int → Int → List Int → Int → (Int × Unit) → Zt16_7 → Zt16_6 → Zt16_1 → List Int → List Int → Option R) : Option R := match r with
 | none => none
 | some (.e0 p4 p5 p6 p7 p8 p9 p10 p11 p12 p13 p14 p15 p16 p17 p18 p19 p20 p21) => k0 p4 p5 p6 p7 p8 p9 p10 p11 p12 p13 p14 p15 p16 p17 p18 p19 p20 p21
 | some (.e1 p4 p5 p6 p7 p8 p9 p10 p11 p12 p13 p14 p15 p16 p17 p18 p19) => k1 p4 p5 p6 p7 p8 p9 p10 p11 p12 p13 p14 p15 p16 p17 p18 p19
noncomputable def Y_16_43_0_0 {R : Type} (k : Ex → St → Option R) : E_16_43_0_0 → Option R
 | .e0 p4 p5 p6 p7 p8 p9 p10 p11 p12 p13 p14 p15 p16 p17 p18 p19 p20 p21 => k (Ex.exit 0) (sx 49 [] [Blk.mem (CV.pure (Ty.pair (Ty.int i64) (Ty.pair (Ty.int i64) (Ty.pair (Ty.int i64) (Ty.pair (Ty.pair (Ty.int i64) (Ty.pair (Ty.int i64) (Ty.pair (Ty.arr 32 (Ty.int u8)) (Ty.pair (Ty.pair (Ty.int i64) (Ty.pair (Ty.slice (Ty.arr 32 (Ty.int u8))) (Ty.pair (Ty.slice (Ty.arr 32 (Ty.int u8))) Ty.unit))) Ty.unit)))) Ty.unit)))) p4), Blk.mem (CV.pure (Ty.pair (Ty.pair (Ty.slice (Ty.int u32)) (Ty.pair (Ty.slice (Ty.int i64)) (Ty.pair (Ty.int i64) Ty.unit))) (Ty.pair (Ty.arr 32 (Ty.int u8)) Ty.unit)) p5), Blk.mem (CV.pure (Ty.pair (Ty.int i64) (Ty.pair (Ty.int u32) Ty.unit)) p6), Blk.mem (CV.pair (CV.int i64 p7) (CV.pair (CV.int i64 p8) (CV.pair (CV.int i64 p9) (CV.pair (CV.pair (CV.int i64 p10) (CV.pair (CV.int i64 p11) (CV.pair (CV.pure (Ty.arr 32 (Ty.int u8)) p12) (CV.pair (CV.pair (CV.int i64 p13) (CV.pair (CV.nil 23 (Ty.arr 32 (Ty.int u8))) (CV.pair (CV.nil 23 (Ty.arr 32 (Ty.int u8))) (CV.pure Ty.unit PUnit.unit)))) (CV.pure Ty.unit PUnit.unit))))) (CV.pure Ty.unit PUnit.unit))))), Blk.mem (CV.pair (CV.pair (CV.nil 42 (Ty.int u32)) (CV.pair (CV.nil 3 (Ty.int i64)) (CV.pure (Ty.pair (Ty.int i64) Ty.unit) p14))) (CV.pure (Ty.pair (Ty.arr 32 (Ty.int u8)) Ty.unit) p15)), Blk.mem (CV.pure (Ty.pair (Ty.int i64) (Ty.pair (Ty.int u32) Ty.unit)) p16), Blk.mem (CV.pair (CV.pair (CV.pair (CV.whole 7) (CV.pair (CV.whole 8) (CV.pure (Ty.pair (Ty.int i64) Ty.unit) p17))) (CV.pure (Ty.pair (Ty.arr 32 (Ty.int u8)) Ty.unit) p18)) (CV.pure (Ty.pair (Ty.pair (Ty.int i64) (Ty.pair (Ty.int u32) Ty.unit)) (Ty.pair (Ty.int i64) Ty.unit)) p19)), Blk.vec 42 (Ty.int u32) p20, Blk.vec 3 (Ty.int i64) p21, Blk.fresh] 10)
 | .e1 p4 p5 p6 p7 p8 p9 p10 p11 p12 p13 p14 p15 p16 p17 p18 p19 => k (Ex.exit 0) (sx 49 [] [Blk.mem (CV.pure (Ty.pair (Ty.int i64) (Ty.pair (Ty.int i64) (Ty.pair (Ty.int i64) (Ty.pair (Ty.pair (Ty.int i64) (Ty.pair (Ty.int i64) (Ty.pair (Ty.arr 32 (Ty.int u8)) (Ty.pair (Ty.pair (Ty.int i64) (Ty.pair (Ty.slice (Ty.arr 32 (Ty.int u8))) (Ty.pair (Ty.slice (Ty.arr 32 (Ty.int u8))) Ty.unit))) Ty.unit)))) Ty.unit)))) p4), Blk.mem (CV.pure (Ty.pair (Ty.pair (Ty.slice (Ty.int u32)) (Ty.pair (Ty.slice (Ty.int i64)) (Ty.pair (Ty.int i64) Ty.unit))) (Ty.pair (Ty.arr 32 (Ty.int u8)) Ty.unit)) p5), Blk.mem (CV.pure (Ty.pair (Ty.int i64) (Ty.pair (Ty.int u32) Ty.unit)) p6), Blk.mem (CV.pair (CV.int i64 p7) (CV.pair (CV.int i64 p8) (CV.pair (CV.int i64 p9) (CV.pair (CV.pair (CV.int i64 p10) (CV.pair (CV.int i64 p11) (CV.pair (CV.pure (Ty.arr 32 (Ty.int u8)) p12) (CV.pair (CV.pair (CV.int i64 p13) (CV.pair (CV.nil 23 (Ty.arr 32 (Ty.int u8))) (CV.pair (CV.nil 23 (Ty.arr 32 (Ty.int u8))) (CV.pure Ty.unit PUnit.unit)))) (CV.pure Ty.unit PUnit.unit))))) (CV.pure Ty.unit PUnit.unit))))), Blk.mem (CV.pair (CV.pair (CV.nil 42 (Ty.int u32)) (CV.pair (CV.nil 3 (Ty.int i64)) (CV.pure (Ty.pair (Ty.int i64) Ty.unit) p14))) (CV.pure (Ty.pair (Ty.arr 32 (Ty.int u8)) Ty.unit) p15)), Blk.mem (CV.pure (Ty.pair (Ty.int i64) (Ty.pair (Ty.int u32) Ty.unit)) p16), Blk.mem (CV.pure (Ty.pair (Ty.pair (Ty.pair (Ty.slice (Ty.int u32)) (Ty.pair (Ty.slice (Ty.int i64)) (Ty.pair (Ty.int i64) Ty.unit))) (Ty.pair (Ty.arr 32 (Ty.int u8)) Ty.unit)) (Ty.pair (Ty.pair (Ty.int i64) (Ty.pair (Ty.int u32) Ty.unit)) (Ty.pair (Ty.int i64) Ty.unit))) p17), Blk.fvec 42 (Ty.int u32) p18, Blk.fvec 3 (Ty.int i64) p19, Blk.fresh] 10)
noncomputable def Sp.S_16_43_0_0 {R : Type} (K : Int → List Int → Int → Int → (Int × Int × Int × (Int × Int × List Int × (Int × List (List Int) × List (List Int) × Unit) × Unit) × Unit) → ((List Int × List Int × Int × Unit) × List Int × Unit) → (Int × Int × Unit) → Int → Int → Int → Int → Int → List Int → Int → (Int × Unit) → (List Int × Unit) → (Int × Int × Unit) → (Int × Unit) → (List Int × Unit) → ((Int × Int × Unit) × Int × Unit) → List Int → List Int → Option R) (KB : Int → List Int → Int → Int → (Int × Int × Int × (Int × Int × List Int × (Int × List (List Int) × List (List Int) × Unit) × Unit) × Unit) → ((List Int × List Int × Int × Unit) × List Int × Unit) → (Int × Int × Unit) → Int → Int → Int → Int → Int → List Int → Int → (Int × Unit) → (List Int × Unit) → (Int × Int × Unit) → (((List Int × List Int × Int × Unit) × List Int × Unit) × (Int × Int × Unit) × Int × Unit) → List Int → List Int → Option R) (k : E_16_43_0_0 → Option R) (p0 : Int) (p1 : List Int) (p2 p3 : Int) (p4 : Int × Int × Int × (Int × Int × List Int × (Int × List (List Int) × List (List Int) × Unit) × Unit) × Unit) (p5 : (List Int × List Int × Int × Unit) × List Int × Unit) (p6 : Int × Int × Unit) (p7 p8 p9 p10 p11 : Int) (p12 : List Int) (p13 : Int) (p14 : Int × Unit) (p15 : List Int × Unit) (p16 : Int × Int × Unit) (p17 : Int × Unit) (p18 : List Int × Unit) (p19 : (Int × Int × Unit) × Int × Unit) (p20 p21 : List Int) : Option R :=
 bif decide (p3 < p2) then gd (inB p3 (length p1)) (bif p19.2.1 == 0 then gd (p_76 (p20, p21, p17) (wrap i64 (p0 + p3)) (getD p1 (toNat p3) 0) (p19.1)) (KB p0 p1 p2 (wrap i64 (p3 + 1)) p4 p5 p6 p7 p8 p9 p10 p11 p12 p13 p14 p15 p16 (((v_76 (p20, p21, p17) (wrap i64 (p0 + p3)) (getD p1 (toNat p3) 0) (p19.1)).1, p18), (v_76 (p20, p21, p17) (wrap i64 (p0 + p3)) (getD p1 (toNat p3) 0) (p19.1)).2.1, (v_76 (p20, p21, p17) (wrap i64 (p0 + p3)) (getD p1 (toNat p3) 0) (p19.1)).2.2.1, p19.2.2) p20 p21) else K p0 p1 p2 (wrap i64 (p3 + 1)) p4 p5 p6 p7 p8 p9 p10 p11 p12 p13 p14 p15 p16 p17 p18 p19 p20 p21) else k (E_16_43_0_0.e0 p4 p5 p6 p7 p8 p9 p10 p11 p12 p13 p14 p15 p16 p17 p18 p19 p20 p21)
noncomputable def C_16_43_0_0 : E_16_43_0_1 → E_16_43_0_0
 | .e0 p4 p5 p6 p7 p8 p9 p10 p11 p12 p13 p14 p15 p16 p17 p18 p19 => .e1 p4 p5 p6 p7 p8 p9 p10 p11 p12 p13 p14 p15 p16 p17 p18 p19
theorem BC_16_43_0_0 (r : Option E_16_43_0_1) : B_16_43_0_1 r (fun p4 p5 p6 p7 p8 p9 p10 p11 p12 p13 p14 p15 p16 p17 p18 p19 => some (E_16_43_0_0.e1 p4 p5 p6 p7 p8 p9 p10 p11 p12 p13 p14 p15 p16 p17 p18 p19)) = r.bind fun e => some (C_16_43_0_0 e) := by
 cases r with
 | none => rfl
 | some e => cases e <;> rfl
noncomputable def Sp.L_16_43_0_0 : Nat → Int → List Int → Int → Int → (Int × Int × Int × (Int × Int × List Int × (Int × List (List Int) × List (List Int) × Unit) × Unit) × Unit) → ((List Int × List Int × Int × Unit) × List Int × Unit) → (Int × Int × Unit) → Int → Int → Int → Int → Int → List Int → Int → (Int × Unit) → (List Int × Unit) → (Int × Int × Unit) → (Int × Unit) → (List Int × Unit) → ((Int × Int × Unit) × Int × Unit) → List Int → List Int → Option E_16_43_0_0
 | 0, _, _, _, _, _, _, _, _, _, _, _, _, _, _, _, _, _, _, _, _, _, _ => none
 | m + 1, p0, p1, p2, p3, p4, p5, p6, p7, p8, p9, p10, p11, p12, p13, p14, p15, p16, p17, p18, p19, p20, p21 => S_16_43_0_0 (L_16_43_0_0 m) (fun q0 q1 q2 q3 q4 q5 q6 q7 q8 q9 q10 q11 q12 q13 q14 q15 q16 q17 q18 q19 => B_16_43_0_1 (L_16_43_0_1 m q0 q1 q2 q3 q4 q5 q6 q7 q8 q9 q10 q11 q12 q13 q14 q15 q16 q17 q18 q19) (fun p4 p5 p6 p7 p8 p9 p10 p11 p12 p13 p14 p15 p16 p17 p18 p19 => some (E_16_43_0_0.e1 p4 p5 p6 p7 p8 p9 p10 p11 p12 p13 p14 p15 p16 p17 p18 p19))) some p0 p1 p2 p3 p4 p5 p6 p7 p8 p9 p10 p11 p12 p13 p14 p15 p16 p17 p18 p19 p20 p21
noncomputable def l_16_43_0_0 (m : Nat) (a : T_16_43_0_0.E) : Option E_16_43_0_0 := L_16_43_0_0 m a.1 a.2.1 a.2.2.1 a.2.2.2.1 a.2.2.2.2.1 a.2.2.2.2.2.1 a.2.2.2.2.2.2.1 a.2.2.2.2.2.2.2.1 a.2.2.2.2.2.2.2.2.1 a.2.2.2.2.2.2.2.2.2.1 a.2.2.2.2.2.2.2.2.2.2.1 a.2.2.2.2.2.2.2.2.2.2.2.1 a.2.2.2.2.2.2.2.2.2.2.2.2.1 a.2.2.2.2.2.2.2.2.2.2.2.2.2.1 a.2.2.2.2.2.2.2.2.2.2.2.2.2.2.1 a.2.2.2.2.2.2.2.2.2.2.2.2.2.2.2.1 a.2.2.2.2.2.2.2.2.2.2.2.2.2.2.2.2.1 a.2.2.2.2.2.2.2.2.2.2.2.2.2.2.2.2.2.1 a.2.2.2.2.2.2.2.2.2.2.2.2.2.2.2.2.2.2.1 a.2.2.2.2.2.2.2.2.2.2.2.2.2.2.2.2.2.2.2.1 a.2.2.2.2.2.2.2.2.2.2.2.2.2.2.2.2.2.2.2.2.1 a.2.2.2.2.2.2.2.2.2.2.2.2.2.2.2.2.2.2.2.2.2.1
noncomputable def O_16_43_0_0 {R : Type} : Orc R := orL T_16_43_0_0 (l_16_43_0_0 FU) Y_16_43_0_0 O_16_43_0_1
theorem OK_16_43_0_0 {R : Type} : okF (R := R) sm_16 0 (nf 43 0) O_16_43_0_0 := lp2 noO_ok (os := []) trivial T_16_43_0_0 T_16_43_0_1 l_16_43_0_0 l_16_43_0_1 (fun R K KB k a => S_16_43_0_0 (fun p0 p1 p2 p3 p4 p5 p6 p7 p8 p9 p10 p11 p12 p13 p14 p15 p16 p17 p18 p19 p20 p21 => K (p0, p1, p2, p3, p4, p5, p6, p7, p8, p9, p10, p11, p12, p13, p14, p15, p16, p17, p18, p19, p20, p21, ())) (fun q0 q1 q2 q3 q4 q5 q6 q7 q8 q9 q10 q11 q12 q13 q14 q15 q16 q17 q18 q19 => KB (q0, q1, q2, q3, q4, q5, q6, q7, q8, q9, q10, q11, q12, q13, q14, q15, q16, q17, q18, q19, ())) k a.1 a.2.1 a.2.2.1 a.2.2.2.1 a.2.2.2.2.1 a.2.2.2.2.2.1 a.2.2.2.2.2.2.1 a.2.2.2.2.2.2.2.1 a.2.2.2.2.2.2.2.2.1 a.2.2.2.2.2.2.2.2.2.1 a.2.2.2.2.2.2.2.2.2.2.1 a.2.2.2.2.2.2.2.2.2.2.2.1 a.2.2.2.2.2.2.2.2.2.2.2.2.1 a.2.2.2.2.2.2.2.2.2.2.2.2.2.1 a.2.2.2.2.2.2.2.2.2.2.2.2.2.2.1 a.2.2.2.2.2.2.2.2.2.2.2.2.2.2.2.1 a.2.2.2.2.2.2.2.2.2.2.2.2.2.2.2.2.1 a.2.2.2.2.2.2.2.2.2.2.2.2.2.2.2.2.2.1 a.2.2.2.2.2.2.2.2.2.2.2.2.2.2.2.2.2.2.1 a.2.2.2.2.2.2.2.2.2.2.2.2.2.2.2.2.2.2.2.1 a.2.2.2.2.2.2.2.2.2.2.2.2.2.2.2.2.2.2.2.2.1 a.2.2.2.2.2.2.2.2.2.2.2.2.2.2.2.2.2.2.2.2.2.1) Y_16_43_0_0 Y_16_43_0_1 C_16_43_0_0 (fun _ => rfl) (fun m a => by
 unfold l_16_43_0_0
 rw [L_16_43_0_0]
 simp only [BC_16_43_0_0]
 rfl) (fun k e => by cases e <;> rfl) (fun k => loop_16_43_0_1 k) (fun k K a => by kernel_rfl) (fun Y K KB a => by
 unfold S_16_43_0_0
 repeat' first | apply gdN | apply condN | rfl) OK_16_43_0_1
noncomputable def g_16_43 {R : Type} : List CV → List Blk → (CV → List Blk → Option R) → Option R := evFnL sm_16 FU (ovr noO (evFn sm_16 fns FU 0)) (mkT (fB fns 43) [O_16_43_0_0]) (fO fns 43)
theorem g_16_43_ok {R : Type} (args : List CV) (hp : List Blk) (k : CV → List Blk → Option R) (r : R) (h : g_16_43 args hp k = some r) : evFn sm_16 fns FU 1 43 args hp k = some r := runG noO_ok (os := [O_16_43_0_0]) ⟨OK_16_43_0_0, trivial⟩ h
noncomputable def ov_16_16 {R : Type} : Nat → Option (List CV → List Blk → (CV → List Blk → Option R) → Option R) := fun f' => bif Nat.beq f' 43 then some g_16_43 else none
theorem ov_16_16_ok {R : Type} : OvrOK (R := R) ov_16_16 (evFn sm_16 fns FU 1) := by
 intro f' g h args hp k r hg
 dsimp only [ov_16_16] at h
 by_cases h43 : f' = 43
 · subst h43
   injection h with h
   subst h
   exact evFn_le 0 (g_16_43_ok _ _ _ _ hg)
 rw [nbeq_ne h43, cond_false] at h
 cases h
noncomputable def T_16_0 : PS := ⟨99, [(5, .kc (.ptr 0 [])), (10, .kc (.ptr 1 [])), (11, .kc (.ptr 4 [])), (12, .kc (.ptr 7 [])), (15, .kc (.ptr 8 []))], [.mem (.hv Zy16_2), .mem (.pr (.hv (.int .i64)) (.pr (.hv (.int .i64)) (.pr (.hv (.int .i64)) (.pr (.pr (.hv (.int .i64)) (.pr (.hv (.int .i64)) (.pr (.hv (.arr 32 (.int .u8))) (.pr (.pr (.hv (.int .i64)) (.kc (.pair (.whole 2) (.pair (.whole 3) (.pure .unit PUnit.unit))))) (.kc (.pure .unit PUnit.unit)))))) (.kc (.pure .unit PUnit.unit)))))), .vec 23 (.arr 32 (.int .u8)), .vec 23 (.arr 32 (.int .u8)), .mem (.pr (.pr (.kc (.whole 5)) (.pr (.kc (.whole 6)) (.hv (.pair (.int .i64) .unit)))) (.hv Zy16_12)), .vec 42 (.int .u32), .vec 3 (.int .i64), .mem (.hv Zy16_8), .mem (.pr (.pr (.pr (.kc (.whole 9)) (.pr (.kc (.whole 10)) (.hv (.pair (.int .i64) .unit)))) (.hv Zy16_12)) (.hv Zy16_13)), .vec 42 (.int .u32), .vec 3 (.int .i64)], 0⟩
inductive Sp.E_16_0 where
 | e0 (p0 : Zt16_0) (p15 : Int × Unit) (p16 : Zt16_7) (p17 : Zt16_4) (p18 p19 : List Int)
 | e1 (p15 : Int × Unit) (p16 : Zt16_7) (p17 : Zt16_4) (p18 p19 : List Int)
 | e2 (p17 : Zt16_4)
noncomputable def Sp.B_16_0 {R : Type} (r : Option E_16_0) (k0 : Zt16_0 → (Int × Unit) → Zt16_7 → Zt16_4 → List Int → List Int → Option R) (k1 : (Int × Unit) → Zt16_7 → Zt16_4 → List Int → List Int → Option R) (k2 : Zt16_4 → Option R) : Option R := match r with
 | none => none
 | some (.e0 p0 p15 p16 p17 p18 p19) => k0 p0 p15 p16 p17 p18 p19
 | some (.e1 p15 p16 p17 p18 p19) => k1 p15 p16 p17 p18 p19
 | some (.e2 p17) => k2 p17
noncomputable def Y_16_0 {R : Type} (k : Ex → St → Option R) : E_16_0 → Option R
 | .e0 p0 p15 p16 p17 p18 p19 => k Ex.ret (sx 99 [(10, CV.ptr 0 []), (11, CV.ptr 1 []), (12, CV.ptr 4 []), (13, CV.int i64 0)] [Blk.mem (CV.pure (Ty.pair (Ty.int i64) (Ty.pair (Ty.int i64) (Ty.pair (Ty.int i64) (Ty.pair (Ty.pair (Ty.int i64) (Ty.pair (Ty.int i64) (Ty.pair (Ty.arr 32 (Ty.int u8)) (Ty.pair (Ty.pair (Ty.int i64) (Ty.pair (Ty.slice (Ty.arr 32 (Ty.int u8))) (Ty.pair (Ty.slice (Ty.arr 32 (Ty.int u8))) Ty.unit))) Ty.unit)))) Ty.unit)))) p0), Blk.mem (CV.pair (CV.pair (CV.whole 2) (CV.pair (CV.whole 3) (CV.pure (Ty.pair (Ty.int i64) Ty.unit) p15))) (CV.pure (Ty.pair (Ty.arr 32 (Ty.int u8)) Ty.unit) p16)), Blk.vec 42 (Ty.int u32) p18, Blk.vec 3 (Ty.int i64) p19, Blk.mem (CV.pure (Ty.pair (Ty.int i64) (Ty.pair (Ty.int u32) Ty.unit)) ((p17.1) : Zt16_14))])
 | .e1 p15 p16 p17 p18 p19 => k Ex.ret (sx 99 [(10, CV.ptr 0 []), (11, CV.ptr 3 []), (12, CV.ptr 6 []), (13, CV.int i64 18)] [Blk.mem (CV.pair (CV.int i64 0) (CV.pair (CV.int i64 0) (CV.pair (CV.int i64 0) (CV.pair (CV.pair (CV.int i64 0) (CV.pair (CV.int i64 0) (CV.pair (CV.pure (Ty.arr 32 (Ty.int u8)) ((replicate 32 (0 :Int)) : (List Int))) (CV.pair (CV.pair (CV.int i64 0) (CV.pair (CV.whole 1) (CV.pair (CV.whole 2) (CV.pure Ty.unit PUnit.unit)))) (CV.pure Ty.unit PUnit.unit))))) (CV.pure Ty.unit PUnit.unit))))), Blk.vec 23 (Ty.arr 32 (Ty.int u8)) [], Blk.vec 23 (Ty.arr 32 (Ty.int u8)) [], Blk.mem (CV.pair (CV.pair (CV.whole 4) (CV.pair (CV.whole 5) (CV.pure (Ty.pair (Ty.int i64) Ty.unit) p15))) (CV.pure (Ty.pair (Ty.arr 32 (Ty.int u8)) Ty.unit) p16)), Blk.vec 42 (Ty.int u32) p18, Blk.vec 3 (Ty.int i64) p19, Blk.mem (CV.pure (Ty.pair (Ty.int i64) (Ty.pair (Ty.int u32) Ty.unit)) ((p17.1) : Zt16_14))])
 | .e2 p17 => k Ex.ret (sx 99 [(10, CV.ptr 0 []), (11, CV.ptr 1 []), (12, CV.ptr 2 []), (13, CV.int i64 ((v_41 (p17.2.1)).2.2.2.1))] [Blk.mem (CV.pure (Ty.pair (Ty.int i64) (Ty.pair (Ty.int i64) (Ty.pair (Ty.int i64) (Ty.pair (Ty.pair (Ty.int i64) (Ty.pair (Ty.int i64) (Ty.pair (Ty.arr 32 (Ty.int u8)) (Ty.pair (Ty.pair (Ty.int i64) (Ty.pair (Ty.slice (Ty.arr 32 (Ty.int u8))) (Ty.pair (Ty.slice (Ty.arr 32 (Ty.int u8))) Ty.unit))) Ty.unit)))) Ty.unit)))) (((v_41 (p17.2.1)).1) : Zt16_10)), Blk.mem (CV.pure (Ty.pair (Ty.pair (Ty.slice (Ty.int u32)) (Ty.pair (Ty.slice (Ty.int i64)) (Ty.pair (Ty.int i64) Ty.unit))) (Ty.pair (Ty.arr 32 (Ty.int u8)) Ty.unit)) (((v_41 (p17.2.1)).2.1) : Zt16_9)), Blk.mem (CV.pure (Ty.pair (Ty.int i64) (Ty.pair (Ty.int u32) Ty.unit)) (((v_41 (p17.2.1)).2.2.1) : Zt16_14))])
noncomputable def Sp.S_16_0 {R : Type} (k : E_16_0 → Option R) (p0 : Int × Int × Int × (Int × Int × List Int × (Int × List (List Int) × List (List Int) × Unit) × Unit) × Unit) (p1 p2 p3 p4 p5 : Int) (p6 : List Int) (p7 : Int) (p8 p9 : List (List Int)) (p10 : Int × Unit) (p11 : List Int × Unit) (p12 p13 : List Int) (p14 : Int × Int × Unit) (p15 : Int × Unit) (p16 : List Int × Unit) (p17 : (Int × Int × Unit) × Int × Unit) (p18 p19 : List Int) : Option R :=
 bif p17.2.1 == 0 then k (E_16_0.e0 p0 p15 p16 p17 p18 p19) else bif p17.2.1 == 18 then k (E_16_0.e1 p15 p16 p17 p18 p19) else gd (p_41 (p17.2.1)) (k (E_16_0.e2 p17))
noncomputable def Sp.J_16_0 (p0 : Int × Int × Int × (Int × Int × List Int × (Int × List (List Int) × List (List Int) × Unit) × Unit) × Unit) (p1 p2 p3 p4 p5 : Int) (p6 : List Int) (p7 : Int) (p8 p9 : List (List Int)) (p10 : Int × Unit) (p11 : List Int × Unit) (p12 p13 : List Int) (p14 : Int × Int × Unit) (p15 : Int × Unit) (p16 : List Int × Unit) (p17 : (Int × Int × Unit) × Int × Unit) (p18 p19 : List Int) : Option E_16_0 := S_16_0 some p0 p1 p2 p3 p4 p5 p6 p7 p8 p9 p10 p11 p12 p13 p14 p15 p16 p17 p18 p19
noncomputable def O_16_0 {R : Type} : Orc R := orL T_16_0 (fun a => J_16_0 a.1 a.2.1 a.2.2.1 a.2.2.2.1 a.2.2.2.2.1 a.2.2.2.2.2.1 a.2.2.2.2.2.2.1 a.2.2.2.2.2.2.2.1 a.2.2.2.2.2.2.2.2.1 a.2.2.2.2.2.2.2.2.2.1 a.2.2.2.2.2.2.2.2.2.2.1 a.2.2.2.2.2.2.2.2.2.2.2.1 a.2.2.2.2.2.2.2.2.2.2.2.2.1 a.2.2.2.2.2.2.2.2.2.2.2.2.2.1 a.2.2.2.2.2.2.2.2.2.2.2.2.2.2.1 a.2.2.2.2.2.2.2.2.2.2.2.2.2.2.2.1 a.2.2.2.2.2.2.2.2.2.2.2.2.2.2.2.2.1 a.2.2.2.2.2.2.2.2.2.2.2.2.2.2.2.2.2.1 a.2.2.2.2.2.2.2.2.2.2.2.2.2.2.2.2.2.2.1 a.2.2.2.2.2.2.2.2.2.2.2.2.2.2.2.2.2.2.2.1) Y_16_0
theorem OK_16_0 {R : Type} : okF (R := R) sm_16 1 (nf 16 0) O_16_0 := jp ov_16_16_ok (os := []) trivial T_16_0 (fun R k a => S_16_0 k a.1 a.2.1 a.2.2.1 a.2.2.2.1 a.2.2.2.2.1 a.2.2.2.2.2.1 a.2.2.2.2.2.2.1 a.2.2.2.2.2.2.2.1 a.2.2.2.2.2.2.2.2.1 a.2.2.2.2.2.2.2.2.2.1 a.2.2.2.2.2.2.2.2.2.2.1 a.2.2.2.2.2.2.2.2.2.2.2.1 a.2.2.2.2.2.2.2.2.2.2.2.2.1 a.2.2.2.2.2.2.2.2.2.2.2.2.2.1 a.2.2.2.2.2.2.2.2.2.2.2.2.2.2.1 a.2.2.2.2.2.2.2.2.2.2.2.2.2.2.2.1 a.2.2.2.2.2.2.2.2.2.2.2.2.2.2.2.2.1 a.2.2.2.2.2.2.2.2.2.2.2.2.2.2.2.2.2.1 a.2.2.2.2.2.2.2.2.2.2.2.2.2.2.2.2.2.2.1 a.2.2.2.2.2.2.2.2.2.2.2.2.2.2.2.2.2.2.2.1) Y_16_0 (fun k a => by kernel_rfl) (fun Y a => by
 unfold S_16_0
 repeat' first | apply gdN | apply condN | rfl) (ok0 _)
noncomputable def T_16_0_1 : PS := ⟨99, [(5, .kc (.ptr 0 [])), (10, .kc (.ptr 1 [])), (11, .kc (.ptr 4 [])), (12, .kc (.ptr 7 [])), (15, .kc (.ptr 8 []))], [.mem (.hv Zy16_2), .mem (.pr (.hv (.int .i64)) (.pr (.hv (.int .i64)) (.pr (.hv (.int .i64)) (.pr (.pr (.hv (.int .i64)) (.pr (.hv (.int .i64)) (.pr (.hv (.arr 32 (.int .u8))) (.pr (.pr (.hv (.int .i64)) (.kc (.pair (.whole 2) (.pair (.whole 3) (.pure .unit PUnit.unit))))) (.kc (.pure .unit PUnit.unit)))))) (.kc (.pure .unit PUnit.unit)))))), .vec 23 (.arr 32 (.int .u8)), .vec 23 (.arr 32 (.int .u8)), .mem (.pr (.pr (.kc (.whole 5)) (.pr (.kc (.whole 6)) (.hv (.pair (.int .i64) .unit)))) (.hv Zy16_12)), .vec 42 (.int .u32), .vec 3 (.int .i64), .mem (.hv Zy16_8), .mem (.hv Zy16_5)], 0⟩
inductive Sp.E_16_0_1 where
 | e0 (p0 : Zt16_0) (p15 : Zt16_1)
 | e1 (p15 : Zt16_1)
 | e2 (p15 : Zt16_1)
noncomputable def Sp.B_16_0_1 {R : Type} (r : Option E_16_0_1) (k0 : Zt16_0 → Zt16_1 → Option R) (k1 k2 : Zt16_1 → Option R) : Option R := match r with
 | none => none
 | some (.e0 p0 p15) => k0 p0 p15
 | some (.e1 p15) => k1 p15
 | some (.e2 p15) => k2 p15
noncomputable def Y_16_0_1 {R : Type} (k : Ex → St → Option R) : E_16_0_1 → Option R
 | .e0 p0 p15 => k Ex.ret (sx 99 [(10, CV.ptr 0 []), (11, CV.ptr 1 []), (12, CV.ptr 2 []), (13, CV.int i64 0)] [Blk.mem (CV.pure (Ty.pair (Ty.int i64) (Ty.pair (Ty.int i64) (Ty.pair (Ty.int i64) (Ty.pair (Ty.pair (Ty.int i64) (Ty.pair (Ty.int i64) (Ty.pair (Ty.arr 32 (Ty.int u8)) (Ty.pair (Ty.pair (Ty.int i64) (Ty.pair (Ty.slice (Ty.arr 32 (Ty.int u8))) (Ty.pair (Ty.slice (Ty.arr 32 (Ty.int u8))) Ty.unit))) Ty.unit)))) Ty.unit)))) p0), Blk.mem (CV.pure (Ty.pair (Ty.pair (Ty.slice (Ty.int u32)) (Ty.pair (Ty.slice (Ty.int i64)) (Ty.pair (Ty.int i64) Ty.unit))) (Ty.pair (Ty.arr 32 (Ty.int u8)) Ty.unit)) ((p15.1) : Zt16_9)), Blk.mem (CV.pure (Ty.pair (Ty.int i64) (Ty.pair (Ty.int u32) Ty.unit)) ((p15.2.1) : Zt16_14))])
 | .e1 p15 => k Ex.ret (sx 99 [(10, CV.ptr 0 []), (11, CV.ptr 3 []), (12, CV.ptr 4 []), (13, CV.int i64 18)] [Blk.mem (CV.pair (CV.int i64 0) (CV.pair (CV.int i64 0) (CV.pair (CV.int i64 0) (CV.pair (CV.pair (CV.int i64 0) (CV.pair (CV.int i64 0) (CV.pair (CV.pure (Ty.arr 32 (Ty.int u8)) ((replicate 32 (0 :Int)) : (List Int))) (CV.pair (CV.pair (CV.int i64 0) (CV.pair (CV.whole 1) (CV.pair (CV.whole 2) (CV.pure Ty.unit PUnit.unit)))) (CV.pure Ty.unit PUnit.unit))))) (CV.pure Ty.unit PUnit.unit))))), Blk.vec 23 (Ty.arr 32 (Ty.int u8)) [], Blk.vec 23 (Ty.arr 32 (Ty.int u8)) [], Blk.mem (CV.pure (Ty.pair (Ty.pair (Ty.slice (Ty.int u32)) (Ty.pair (Ty.slice (Ty.int i64)) (Ty.pair (Ty.int i64) Ty.unit))) (Ty.pair (Ty.arr 32 (Ty.int u8)) Ty.unit)) ((p15.1) : Zt16_9)), Blk.mem (CV.pure (Ty.pair (Ty.int i64) (Ty.pair (Ty.int u32) Ty.unit)) ((p15.2.1) : Zt16_14))])
 | .e2 p15 => k Ex.ret (sx 99 [(10, CV.ptr 0 []), (11, CV.ptr 1 []), (12, CV.ptr 2 []), (13, CV.int i64 ((v_41 (p15.2.2.1)).2.2.2.1))] [Blk.mem (CV.pure (Ty.pair (Ty.int i64) (Ty.pair (Ty.int i64) (Ty.pair (Ty.int i64) (Ty.pair (Ty.pair (Ty.int i64) (Ty.pair (Ty.int i64) (Ty.pair (Ty.arr 32 (Ty.int u8)) (Ty.pair (Ty.pair (Ty.int i64) (Ty.pair (Ty.slice (Ty.arr 32 (Ty.int u8))) (Ty.pair (Ty.slice (Ty.arr 32 (Ty.int u8))) Ty.unit))) Ty.unit)))) Ty.unit)))) (((v_41 (p15.2.2.1)).1) : Zt16_10)), Blk.mem (CV.pure (Ty.pair (Ty.pair (Ty.slice (Ty.int u32)) (Ty.pair (Ty.slice (Ty.int i64)) (Ty.pair (Ty.int i64) Ty.unit))) (Ty.pair (Ty.arr 32 (Ty.int u8)) Ty.unit)) (((v_41 (p15.2.2.1)).2.1) : Zt16_9)), Blk.mem (CV.pure (Ty.pair (Ty.int i64) (Ty.pair (Ty.int u32) Ty.unit)) (((v_41 (p15.2.2.1)).2.2.1) : Zt16_14))])
noncomputable def Sp.S_16_0_1 {R : Type} (k : E_16_0_1 → Option R) (p0 : Int × Int × Int × (Int × Int × List Int × (Int × List (List Int) × List (List Int) × Unit) × Unit) × Unit) (p1 p2 p3 p4 p5 : Int) (p6 : List Int) (p7 : Int) (p8 p9 : List (List Int)) (p10 : Int × Unit) (p11 : List Int × Unit) (p12 p13 : List Int) (p14 : Int × Int × Unit) (p15 : ((List Int × List Int × Int × Unit) × List Int × Unit) × (Int × Int × Unit) × Int × Unit) : Option R :=
 bif p15.2.2.1 == 0 then k (E_16_0_1.e0 p0 p15) else bif p15.2.2.1 == 18 then k (E_16_0_1.e1 p15) else gd (p_41 (p15.2.2.1)) (k (E_16_0_1.e2 p15))
noncomputable def Sp.J_16_0_1 (p0 : Int × Int × Int × (Int × Int × List Int × (Int × List (List Int) × List (List Int) × Unit) × Unit) × Unit) (p1 p2 p3 p4 p5 : Int) (p6 : List Int) (p7 : Int) (p8 p9 : List (List Int)) (p10 : Int × Unit) (p11 : List Int × Unit) (p12 p13 : List Int) (p14 : Int × Int × Unit) (p15 : ((List Int × List Int × Int × Unit) × List Int × Unit) × (Int × Int × Unit) × Int × Unit) : Option E_16_0_1 := S_16_0_1 some p0 p1 p2 p3 p4 p5 p6 p7 p8 p9 p10 p11 p12 p13 p14 p15
noncomputable def O_16_0_1 {R : Type} : Orc R := orL T_16_0_1 (fun a => J_16_0_1 a.1 a.2.1 a.2.2.1 a.2.2.2.1 a.2.2.2.2.1 a.2.2.2.2.2.1 a.2.2.2.2.2.2.1 a.2.2.2.2.2.2.2.1 a.2.2.2.2.2.2.2.2.1 a.2.2.2.2.2.2.2.2.2.1 a.2.2.2.2.2.2.2.2.2.2.1 a.2.2.2.2.2.2.2.2.2.2.2.1 a.2.2.2.2.2.2.2.2.2.2.2.2.1 a.2.2.2.2.2.2.2.2.2.2.2.2.2.1 a.2.2.2.2.2.2.2.2.2.2.2.2.2.2.1 a.2.2.2.2.2.2.2.2.2.2.2.2.2.2.2.1) Y_16_0_1 O_16_0
theorem OK_16_0_1 {R : Type} : okF (R := R) sm_16 1 (nf 16 0) O_16_0_1 := jp ov_16_16_ok (os := []) trivial T_16_0_1 (fun R k a => S_16_0_1 k a.1 a.2.1 a.2.2.1 a.2.2.2.1 a.2.2.2.2.1 a.2.2.2.2.2.1 a.2.2.2.2.2.2.1 a.2.2.2.2.2.2.2.1 a.2.2.2.2.2.2.2.2.1 a.2.2.2.2.2.2.2.2.2.1 a.2.2.2.2.2.2.2.2.2.2.1 a.2.2.2.2.2.2.2.2.2.2.2.1 a.2.2.2.2.2.2.2.2.2.2.2.2.1 a.2.2.2.2.2.2.2.2.2.2.2.2.2.1 a.2.2.2.2.2.2.2.2.2.2.2.2.2.2.1 a.2.2.2.2.2.2.2.2.2.2.2.2.2.2.2.1) Y_16_0_1 (fun k a => by kernel_rfl) (fun Y a => by
 unfold S_16_0_1
 repeat' first | apply gdN | apply condN | rfl) OK_16_0
noncomputable def F_16 (a0 : (Int × (Int × (Int × ((Int × (Int × ((List Int) × ((Int × ((List (List Int)) × ((List (List Int)) × Unit))) × Unit)))) × Unit))))) (a1 : (((List Int) × ((List Int) × (Int × Unit))) × ((List Int) × Unit))) (a2 : Int) (a3 : (List Int)) (a4 : (Int × (Int × Unit))) : Option ((Int × (Int × (Int × ((Int × (Int × ((List Int) × ((Int × ((List (List Int)) × ((List (List Int)) × Unit))) × Unit)))) × Unit)))) × (((List Int) × ((List Int) × (Int × Unit))) × ((List Int) × Unit)) × (Int × (Int × Unit)) × Int × Unit) :=
 gd (p_40 a0 a1 a4) (bif (v_40 a0 a1 a4).1 != 0 then gd (p_41 ((v_40 a0 a1 a4).1)) (some ((v_41 ((v_40 a0 a1 a4).1)).1, (v_41 ((v_40 a0 a1 a4).1)).2.1, (v_41 ((v_40 a0 a1 a4).1)).2.2.1, (v_41 ((v_40 a0 a1 a4).1)).2.2.2.1, PUnit.unit)) else bif a0.1 != 1 then gd (p_41 6) (some ((v_41 6).1, (v_41 6).2.1, (v_41 6).2.2.1, (v_41 6).2.2.2.1, PUnit.unit)) else bif a2 != wrap i64 (Int.tdiv (a0.2.2.1) 32) then gd (p_41 15) (some ((v_41 15).1, (v_41 15).2.1, (v_41 15).2.2.1, (v_41 15).2.2.2.1, PUnit.unit)) else bif (↑(length a3) : Int) != if wrap i64 (a0.2.2.2.1.2.1 - a0.2.2.1) < 32 then wrap i64 (a0.2.2.2.1.2.1 - a0.2.2.1) else 32 then gd (p_41 3) (some ((v_41 3).1, (v_41 3).2.1, (v_41 3).2.2.1, (v_41 3).2.2.2.1, PUnit.unit)) else gd (room (length (a1.1.1)) 4) (gd (room (length (a1.1.2.1)) 8) (gd (p_44 a1) (B_16_43_0_0 (L_16_43_0_0 4611686018427387904 (wrap i64 (wrap i64 (wrap i64 (a0.2.1 * (v_44 a1).1) + 564) + a0.2.2.1)) a3 (↑(length a3) : Int) 0 a0 a1 a4 0 0 0 0 0 (replicate 32 (0 :Int)) 0 (0, PUnit.unit) (replicate 32 (0 :Int), PUnit.unit) (0, 0, PUnit.unit) (a1.1.2.2.1, PUnit.unit) (a1.2) (a4, 0, PUnit.unit) (a1.1.1) (a1.1.2.1)) (fun y72 y73 y74 y75 y76 y77 y78 y79 y80 y81 y82 y83 y84 y85 y86 y87 y88 y89 => bif wrap i64 (y72.2.2.1 + (↑(length a3) : Int)) == y72.2.2.2.1.2.1 then B_16_0 (J_16_0 (2, y72.2.1, wrap i64 (y72.2.2.1 + (↑(length a3) : Int)), y72.2.2.2) y75 y76 y77 y78 y79 y80 y81 [] [] y82 y83 [] [] y84 y85 y86 y87 y88 y89) (fun y90 y91 y92 y93 y94 y95 => some (y90, ((y94, y95, y91), y92), y93.1, 0, PUnit.unit)) (fun y96 y97 y98 y99 y100 => some ((0, 0, 0, (0, 0, replicate 32 (0 :Int), (0, [], [], PUnit.unit), PUnit.unit), PUnit.unit), ((y99, y100, y96), y97), y98.1, 18, PUnit.unit)) fun y101 => some ((v_41 (y101.2.1)).1, (v_41 (y101.2.1)).2.1, (v_41 (y101.2.1)).2.2.1, (v_41 (y101.2.1)).2.2.2.1, PUnit.unit) else B_16_0 (J_16_0 (y72.1, y72.2.1, wrap i64 (y72.2.2.1 + (↑(length a3) : Int)), y72.2.2.2) y75 y76 y77 y78 y79 y80 y81 [] [] y82 y83 [] [] y84 y85 y86 y87 y88 y89) (fun y102 y103 y104 y105 y106 y107 => some (y102, ((y106, y107, y103), y104), y105.1, 0, PUnit.unit)) (fun y108 y109 y110 y111 y112 => some ((0, 0, 0, (0, 0, replicate 32 (0 :Int), (0, [], [], PUnit.unit), PUnit.unit), PUnit.unit), ((y111, y112, y108), y109), y110.1, 18, PUnit.unit)) fun y113 => some ((v_41 (y113.2.1)).1, (v_41 (y113.2.1)).2.1, (v_41 (y113.2.1)).2.2.1, (v_41 (y113.2.1)).2.2.2.1, PUnit.unit)) fun y114 y115 y116 y117 y118 y119 y120 y121 y122 y123 y124 y125 y126 y127 y128 y129 => bif wrap i64 (y114.2.2.1 + (↑(length a3) : Int)) == y114.2.2.2.1.2.1 then B_16_0_1 (J_16_0_1 (2, y114.2.1, wrap i64 (y114.2.2.1 + (↑(length a3) : Int)), y114.2.2.2) y117 y118 y119 y120 y121 y122 y123 [] [] y124 y125 [] [] y126 y127) (fun y130 y131 => some (y130, y131.1, y131.2.1, 0, PUnit.unit)) (fun y132 => some ((0, 0, 0, (0, 0, replicate 32 (0 :Int), (0, [], [], PUnit.unit), PUnit.unit), PUnit.unit), y132.1, y132.2.1, 18, PUnit.unit)) fun y133 => some ((v_41 (y133.2.2.1)).1, (v_41 (y133.2.2.1)).2.1, (v_41 (y133.2.2.1)).2.2.1, (v_41 (y133.2.2.1)).2.2.2.1, PUnit.unit) else B_16_0_1 (J_16_0_1 (y114.1, y114.2.1, wrap i64 (y114.2.2.1 + (↑(length a3) : Int)), y114.2.2.2) y117 y118 y119 y120 y121 y122 y123 [] [] y124 y125 [] [] y126 y127) (fun y134 y135 => some (y134, y135.1, y135.2.1, 0, PUnit.unit)) (fun y136 => some ((0, 0, 0, (0, 0, replicate 32 (0 :Int), (0, [], [], PUnit.unit), PUnit.unit), PUnit.unit), y136.1, y136.2.1, 18, PUnit.unit)) fun y137 => some ((v_41 (y137.2.2.1)).1, (v_41 (y137.2.2.1)).2.1, (v_41 (y137.2.2.1)).2.2.1, (v_41 (y137.2.2.1)).2.2.2.1, PUnit.unit)))))
noncomputable def Sp.p_16 (a0 : (Int × (Int × (Int × ((Int × (Int × ((List Int) × ((Int × ((List (List Int)) × ((List (List Int)) × Unit))) × Unit)))) × Unit))))) (a1 : (((List Int) × ((List Int) × (Int × Unit))) × ((List Int) × Unit))) (a2 : Int) (a3 : (List Int)) (a4 : (Int × (Int × Unit))) : Bool := (F_16 a0 a1 a2 a3 a4).isSome
noncomputable def Sp.v_16 (a0 : (Int × (Int × (Int × ((Int × (Int × ((List Int) × ((Int × ((List (List Int)) × ((List (List Int)) × Unit))) × Unit)))) × Unit))))) (a1 : (((List Int) × ((List Int) × (Int × Unit))) × ((List Int) × Unit))) (a2 : Int) (a3 : (List Int)) (a4 : (Int × (Int × Unit))) : (Int × (Int × (Int × ((Int × (Int × ((List Int) × ((Int × ((List (List Int)) × ((List (List Int)) × Unit))) × Unit)))) × Unit)))) × (((List Int) × ((List Int) × (Int × Unit))) × ((List Int) × Unit)) × (Int × (Int × Unit)) × Int × Unit := (F_16 a0 a1 a2 a3 a4).getD (dfH R_16)
noncomputable def s_16 : Summ := shS A_16 R_16 (fun x => p_16 x.1 x.2.1 x.2.2.1 x.2.2.2.1 x.2.2.2.2.1) (fun x => v_16 x.1 x.2.1 x.2.2.1 x.2.2.2.1 x.2.2.2.2.1)
theorem pv_16 (a0 : (Int × (Int × (Int × ((Int × (Int × ((List Int) × ((Int × ((List (List Int)) × ((List (List Int)) × Unit))) × Unit)))) × Unit))))) (a1 : (((List Int) × ((List Int) × (Int × Unit))) × ((List Int) × Unit))) (a2 : Int) (a3 : (List Int)) (a4 : (Int × (Int × Unit))) {y : (Int × (Int × (Int × ((Int × (Int × ((List Int) × ((Int × ((List (List Int)) × ((List (List Int)) × Unit))) × Unit)))) × Unit)))) × (((List Int) × ((List Int) × (Int × Unit))) × ((List Int) × Unit)) × (Int × (Int × Unit)) × Int × Unit} (h : F_16 a0 a1 a2 a3 a4 = some y) : p_16 a0 a1 a2 a3 a4 = true ∧ v_16 a0 a1 a2 a3 a4 = y := pvG h
theorem run_16 (x : HDen A_16) (y : HDen R_16) (h : F_16 x.1 x.2.1 x.2.2.1 x.2.2.2.1 x.2.2.2.2.1 = some y) : rnF sm_16 2 16 A_16 R_16 x y := runG ov_16_16_ok (os := [O_16_0_1]) ⟨OK_16_0_1, trivial⟩ (Eq.trans (by kernel_rfl) h)
end
noncomputable section
abbrev A_56 : List Ty := [(.pair (.int .i64) (.pair (.slice (.arr 32 (.int .u8))) (.pair (.slice (.arr 32 (.int .u8))) .unit)))]
abbrev R_56 : List Ty := [.bool]
noncomputable def sm_56 : Nat → Option Summ := smL []
noncomputable def F_56 (a0 : (Int × ((List (List Int)) × ((List (List Int)) × Unit)))) : Option (Bool × Unit) :=
 bif decide (a0.1 ≥ 0) then bif decide (a0.1 ≤ 3) then bif (↑(length (a0.2.1)) : Int) == 67 then some ((↑(length (a0.2.2.1)) : Int) == 2, PUnit.unit) else some (false, PUnit.unit) else some (false, PUnit.unit) else some (false, PUnit.unit)
noncomputable def Sp.p_56 (a0 : (Int × ((List (List Int)) × ((List (List Int)) × Unit)))) : Bool := (F_56 a0).isSome
noncomputable def Sp.v_56 (a0 : (Int × ((List (List Int)) × ((List (List Int)) × Unit)))) : Bool × Unit := (F_56 a0).getD (dfH R_56)
noncomputable def s_56 : Summ := shN A_56 R_56 (fun x => p_56 x.1) (fun x => v_56 x.1)
theorem pv_56 (a0 : (Int × ((List (List Int)) × ((List (List Int)) × Unit)))) {y : Bool × Unit} (h : F_56 a0 = some y) : p_56 a0 = true ∧ v_56 a0 = y := pvG h
theorem run_56 (x : HDen A_56) (y : HDen R_56) (h : F_56 x.1 = some y) : rnF sm_56 1 56 A_56 R_56 x y := runG noO_ok (os := []) trivial (Eq.trans (by kernel_rfl) h)
end
noncomputable section
abbrev A_39 : List Ty := [(.pair (.int .i64) (.pair (.int .i64) (.pair (.arr 32 (.int .u8)) (.pair (.pair (.int .i64) (.pair (.slice (.arr 32 (.int .u8))) (.pair (.slice (.arr 32 (.int .u8))) .unit))) .unit)))), (.int .i64)]
abbrev R_39 : List Ty := [.bool]
noncomputable def sm_39 : Nat → Option Summ := smL [(56, s_56)]
noncomputable def F_39 (a0 : (Int × (Int × ((List Int) × ((Int × ((List (List Int)) × ((List (List Int)) × Unit))) × Unit))))) (a1 : Int) : Option (Bool × Unit) :=
 bif decide (a0.1 ≥ 1) then bif decide (a0.1 < 2147483648) then bif decide (a0.2.1 ≥ 1) then bif decide (a0.2.1 ≤ a1) then gd (p_56 (a0.2.2.2.1)) (some ((v_56 (a0.2.2.2.1)).1, PUnit.unit)) else some (false, PUnit.unit) else some (false, PUnit.unit) else some (false, PUnit.unit) else some (false, PUnit.unit)
noncomputable def Sp.p_39 (a0 : (Int × (Int × ((List Int) × ((Int × ((List (List Int)) × ((List (List Int)) × Unit))) × Unit))))) (a1 : Int) : Bool := (F_39 a0 a1).isSome
noncomputable def Sp.v_39 (a0 : (Int × (Int × ((List Int) × ((Int × ((List (List Int)) × ((List (List Int)) × Unit))) × Unit))))) (a1 : Int) : Bool × Unit := (F_39 a0 a1).getD (dfH R_39)
noncomputable def s_39 : Summ := shN A_39 R_39 (fun x => p_39 x.1 x.2.1) (fun x => v_39 x.1 x.2.1)
theorem pv_39 (a0 : (Int × (Int × ((List Int) × ((Int × ((List (List Int)) × ((List (List Int)) × Unit))) × Unit))))) (a1 : Int) {y : Bool × Unit} (h : F_39 a0 a1 = some y) : p_39 a0 a1 = true ∧ v_39 a0 a1 = y := pvG h
theorem run_39 (x : HDen A_39) (y : HDen R_39) (h : F_39 x.1 x.2.1 = some y) : rnF sm_39 1 39 A_39 R_39 x y := runG noO_ok (os := []) trivial (Eq.trans (by kernel_rfl) h)
end
noncomputable section
abbrev A_14 : List Ty := [(.pair (.int .i64) (.pair (.int .i64) (.pair (.int .i64) (.pair (.pair (.int .i64) (.pair (.int .i64) (.pair (.arr 32 (.int .u8)) (.pair (.pair (.int .i64) (.pair (.slice (.arr 32 (.int .u8))) (.pair (.slice (.arr 32 (.int .u8))) .unit))) .unit)))) .unit))))]
abbrev R_14 : List Ty := [.bool]
noncomputable def sm_14 : Nat → Option Summ := smL [(10, s_10), (39, s_39)]
noncomputable def T_14_0 : PS := ⟨53, [(1, .kc (.ptr 0 []))], [.mem (.hv (.pair (.int .i64) (.pair (.int .i64) (.pair (.int .i64) (.pair (.pair (.int .i64) (.pair (.int .i64) (.pair (.arr 32 (.int .u8)) (.pair (.pair (.int .i64) (.pair (.slice (.arr 32 (.int .u8))) (.pair (.slice (.arr 32 (.int .u8))) .unit))) .unit)))) .unit)))))], 0⟩
inductive Sp.E_14_0 where
 | e0 (p0 : Int × Int × Int × (Int × Int × List Int × (Int × List (List Int) × List (List Int) × Unit) × Unit) × Unit)
 | e1
 | e2 (p0 : Int × Int × Int × (Int × Int × List Int × (Int × List (List Int) × List (List Int) × Unit) × Unit) × Unit)
noncomputable def Sp.B_14_0 {R : Type} (r : Option E_14_0) (k0 : (Int × Int × Int × (Int × Int × List Int × (Int × List (List Int) × List (List Int) × Unit) × Unit) × Unit) → Option R) (k1 : Option R) (k2 : (Int × Int × Int × (Int × Int × List Int × (Int × List (List Int) × List (List Int) × Unit) × Unit) × Unit) → Option R) : Option R := match r with
 | none => none
 | some (.e0 p0) => k0 p0
 | some (.e1) => k1
 | some (.e2 p0) => k2 p0
noncomputable def Y_14_0 {R : Type} (k : Ex → St → Option R) : E_14_0 → Option R
 | .e0 p0 => k Ex.ret (sx 53 [(2, CV.bool (Int.tmod (p0.2.2.1) (32 :Int) == (0 :Int)))] [])
 | .e1 => k Ex.ret (sx 53 [(2, CV.bool false)] [])
 | .e2 p0 => k Ex.ret (sx 53 [(2, CV.bool (p0.2.2.1 == p0.2.2.2.1.2.1))] [])
noncomputable def Sp.S_14_0 {R : Type} (k : E_14_0 → Option R) (p0 : Int × Int × Int × (Int × Int × List Int × (Int × List (List Int) × List (List Int) × Unit) × Unit) × Unit) : Option R :=
 bif p0.1 == 1 then bif decide (p0.2.2.1 ≥ 0) then bif decide (p0.2.2.1 < p0.2.2.2.1.2.1) then k (E_14_0.e0 p0) else k (E_14_0.e1) else k (E_14_0.e1) else bif p0.1 == 2 then k (E_14_0.e2 p0) else k (E_14_0.e1)
noncomputable def Sp.J_14_0 (p0 : Int × Int × Int × (Int × Int × List Int × (Int × List (List Int) × List (List Int) × Unit) × Unit) × Unit) : Option E_14_0 := S_14_0 some p0
noncomputable def O_14_0 {R : Type} : Orc R := orL T_14_0 (fun a => J_14_0 a.1) Y_14_0
theorem OK_14_0 {R : Type} : okF (R := R) sm_14 0 (nf 14 0) O_14_0 := jp noO_ok (os := []) trivial T_14_0 (fun R k a => S_14_0 k a.1) Y_14_0 (fun k a => by kernel_rfl) (fun Y a => by
 unfold S_14_0
 repeat' first | apply gdN | apply condN | rfl) (ok0 _)
noncomputable def F_14 (a0 : (Int × (Int × (Int × ((Int × (Int × ((List Int) × ((Int × ((List (List Int)) × ((List (List Int)) × Unit))) × Unit)))) × Unit))))) : Option (Bool × Unit) :=
 bif a0.1 == 0 then gd (p_10 a0) (some ((v_10 a0).1, PUnit.unit)) else bif a0.2.1 != 0 then bif a0.2.1 != 1 then some (false, PUnit.unit) else gd (p_39 (a0.2.2.2.1) 1484) (bif !(v_39 (a0.2.2.2.1) 1484).1 then some (false, PUnit.unit) else B_14_0 (J_14_0 a0) (fun y4 => some (Int.tmod (y4.2.2.1) (32 :Int) == (0 :Int), PUnit.unit)) (some (false, PUnit.unit)) fun y5 => some (y5.2.2.1 == y5.2.2.2.1.2.1, PUnit.unit)) else gd (p_39 (a0.2.2.2.1) 1484) (bif !(v_39 (a0.2.2.2.1) 1484).1 then some (false, PUnit.unit) else B_14_0 (J_14_0 a0) (fun y6 => some (Int.tmod (y6.2.2.1) (32 :Int) == (0 :Int), PUnit.unit)) (some (false, PUnit.unit)) fun y7 => some (y7.2.2.1 == y7.2.2.2.1.2.1, PUnit.unit))
noncomputable def Sp.p_14 (a0 : (Int × (Int × (Int × ((Int × (Int × ((List Int) × ((Int × ((List (List Int)) × ((List (List Int)) × Unit))) × Unit)))) × Unit))))) : Bool := (F_14 a0).isSome
noncomputable def Sp.v_14 (a0 : (Int × (Int × (Int × ((Int × (Int × ((List Int) × ((Int × ((List (List Int)) × ((List (List Int)) × Unit))) × Unit)))) × Unit))))) : Bool × Unit := (F_14 a0).getD (dfH R_14)
noncomputable def s_14 : Summ := shN A_14 R_14 (fun x => p_14 x.1) (fun x => v_14 x.1)
theorem pv_14 (a0 : (Int × (Int × (Int × ((Int × (Int × ((List Int) × ((Int × ((List (List Int)) × ((List (List Int)) × Unit))) × Unit)))) × Unit))))) {y : Bool × Unit} (h : F_14 a0 = some y) : p_14 a0 = true ∧ v_14 a0 = y := pvG h
theorem run_14 (x : HDen A_14) (y : HDen R_14) (h : F_14 x.1 = some y) : rnF sm_14 1 14 A_14 R_14 x y := runG noO_ok (os := [O_14_0]) ⟨OK_14_0, trivial⟩ (Eq.trans (by kernel_rfl) h)
end
noncomputable section
abbrev A_104 : List Ty := [(.int .i64)]
abbrev R_104 : List Ty := [.bool]
noncomputable def sm_104 : Nat → Option Summ := smL []
noncomputable def F_104 (a0 : Int) : Option (Bool × Unit) :=
 bif decide (a0 ≥ 1) then some (decide (a0 ≤ 1000000), PUnit.unit) else some (false, PUnit.unit)
noncomputable def Sp.p_104 (a0 : Int) : Bool := (F_104 a0).isSome
noncomputable def Sp.v_104 (a0 : Int) : Bool × Unit := (F_104 a0).getD (dfH R_104)
noncomputable def s_104 : Summ := shN A_104 R_104 (fun x => p_104 x.1) (fun x => v_104 x.1)
theorem pv_104 (a0 : Int) {y : Bool × Unit} (h : F_104 a0 = some y) : p_104 a0 = true ∧ v_104 a0 = y := pvG h
theorem run_104 (x : HDen A_104) (y : HDen R_104) (h : F_104 x.1 = some y) : rnF sm_104 1 104 A_104 R_104 x y := runG noO_ok (os := []) trivial (Eq.trans (by kernel_rfl) h)
end
noncomputable section
abbrev A_77 : List Ty := [(.pair (.slice (.int .u32)) (.pair (.slice (.int .i64)) (.pair (.int .i64) .unit)))]
abbrev R_77 : List Ty := [.bool]
noncomputable def sm_77 : Nat → Option Summ := smL [(104, s_104)]
noncomputable def T_77_0 : PS := ⟨49, [(1, .kc (.ptr 0 [])), (3, .hv (.int .i64)), (4, .hv (.int .i64))], [.mem (.hv (.pair (.slice (.int .u32)) (.pair (.slice (.int .i64)) (.pair (.int .i64) .unit))))], 0⟩
inductive Sp.E_77_0 where
 | e0
 | e1
noncomputable def Sp.B_77_0 {R : Type} (r : Option E_77_0) (k0 k1 : Option R) : Option R := match r with
 | none => none
 | some (.e0) => k0
 | some (.e1) => k1
noncomputable def Y_77_0 {R : Type} (k : Ex → St → Option R) : E_77_0 → Option R
 | .e0 => k Ex.ret (sx 49 [(2, CV.bool false)] [])
 | .e1 => k (Ex.exit 0) (sx 49 [] [])
noncomputable def Sp.S_77_0 {R : Type} (K : Int → Int → (List Int × List Int × Int × Unit) → Option R) (k : E_77_0 → Option R) (p0 p1 : Int) (p2 : List Int × List Int × Int × Unit) : Option R :=
 bif decide (p1 < p0) then gd (inB p1 (length (p2.2.1))) (bif decide (getD (p2.2.1) (toNat p1) (0 :Int) < (0 :Int)) then k (E_77_0.e0) else gd (inB p1 (length (p2.2.1))) (bif decide (getD (p2.2.1) (toNat p1) 0 > p2.2.2.1) then k (E_77_0.e0) else K p0 (wrap i64 (p1 + 1)) p2)) else k (E_77_0.e1)
noncomputable def Sp.L_77_0 : Nat → Int → Int → (List Int × List Int × Int × Unit) → Option E_77_0
 | 0, _, _, _ => none
 | m + 1, p0, p1, p2 => S_77_0 (L_77_0 m) some p0 p1 p2
noncomputable def l_77_0 (m : Nat) (a : T_77_0.E) : Option E_77_0 := L_77_0 m a.1 a.2.1 a.2.2.1
noncomputable def O_77_0 {R : Type} : Orc R := orL T_77_0 (l_77_0 FU) Y_77_0
theorem OK_77_0 {R : Type} : okF (R := R) sm_77 0 (nf 77 0) O_77_0 := lp0 T_77_0 l_77_0 (fun R K k a => S_77_0 (fun p0 p1 p2 => K (p0, p1, p2, ())) k a.1 a.2.1 a.2.2.1) Y_77_0 (fun _ _ _ => by kernel_rfl) (fun _ _ _ => by
 unfold S_77_0
 repeat' first | apply gdN | apply condN | rfl) (ok0 _)
noncomputable def F_77 (a0 : ((List Int) × ((List Int) × (Int × Unit)))) : Option (Bool × Unit) :=
 bif decide ((↑(length (a0.2.1)) : Int) < 1) then some (false, PUnit.unit) else bif decide ((↑(length (a0.2.1)) : Int) > 64) then some (false, PUnit.unit) else bif (↑(length (a0.1)) : Int) != wrap i64 ((↑(length (a0.2.1)) : Int) * 64) then some (false, PUnit.unit) else gd (p_104 (a0.2.2.1)) (bif !(v_104 (a0.2.2.1)).1 then some (false, PUnit.unit) else B_77_0 (L_77_0 4611686018427387904 (↑(length (a0.2.1)) : Int) 0 a0) (some (false, PUnit.unit)) (some (true, PUnit.unit)))
noncomputable def Sp.p_77 (a0 : ((List Int) × ((List Int) × (Int × Unit)))) : Bool := (F_77 a0).isSome
noncomputable def Sp.v_77 (a0 : ((List Int) × ((List Int) × (Int × Unit)))) : Bool × Unit := (F_77 a0).getD (dfH R_77)
noncomputable def s_77 : Summ := shN A_77 R_77 (fun x => p_77 x.1) (fun x => v_77 x.1)
theorem pv_77 (a0 : ((List Int) × ((List Int) × (Int × Unit)))) {y : Bool × Unit} (h : F_77 a0 = some y) : p_77 a0 = true ∧ v_77 a0 = y := pvG h
theorem run_77 (x : HDen A_77) (y : HDen R_77) (h : F_77 x.1 = some y) : rnF sm_77 1 77 A_77 R_77 x y := runG noO_ok (os := [O_77_0]) ⟨OK_77_0, trivial⟩ (Eq.trans (by kernel_rfl) h)
end
noncomputable section
abbrev A_78 : List Ty := [(.int .i64)]
abbrev R_78 : List Ty := [.bool]
noncomputable def sm_78 : Nat → Option Summ := smL []
noncomputable def F_78 (a0 : Int) : Option (Bool × Unit) :=
 bif decide (a0 ≥ 18) then bif decide (a0 ≤ 64) then some (Int.tmod a0 (2 :Int) == (0 :Int), PUnit.unit) else some (false, PUnit.unit) else some (false, PUnit.unit)
noncomputable def Sp.p_78 (a0 : Int) : Bool := (F_78 a0).isSome
noncomputable def Sp.v_78 (a0 : Int) : Bool × Unit := (F_78 a0).getD (dfH R_78)
noncomputable def s_78 : Summ := shN A_78 R_78 (fun x => p_78 x.1) (fun x => v_78 x.1)
theorem pv_78 (a0 : Int) {y : Bool × Unit} (h : F_78 a0 = some y) : p_78 a0 = true ∧ v_78 a0 = y := pvG h
theorem run_78 (x : HDen A_78) (y : HDen R_78) (h : F_78 x.1 = some y) : rnF sm_78 1 78 A_78 R_78 x y := runG noO_ok (os := []) trivial (Eq.trans (by kernel_rfl) h)
end
noncomputable section
abbrev A_46 : List Ty := [(.pair (.pair (.slice (.int .u32)) (.pair (.slice (.int .i64)) (.pair (.int .i64) .unit))) (.pair (.arr 32 (.int .u8)) .unit))]
abbrev R_46 : List Ty := [.bool]
noncomputable def sm_46 : Nat → Option Summ := smL [(77, s_77), (78, s_78)]
noncomputable def F_46 (a0 : (((List Int) × ((List Int) × (Int × Unit))) × ((List Int) × Unit))) : Option (Bool × Unit) :=
 gd (p_77 (a0.1)) (bif (v_77 (a0.1)).1 then gd (p_78 (↑(length (a0.1.2.1)) : Int)) (some ((v_78 (↑(length (a0.1.2.1)) : Int)).1, PUnit.unit)) else some (false, PUnit.unit))
noncomputable def Sp.p_46 (a0 : (((List Int) × ((List Int) × (Int × Unit))) × ((List Int) × Unit))) : Bool := (F_46 a0).isSome
noncomputable def Sp.v_46 (a0 : (((List Int) × ((List Int) × (Int × Unit))) × ((List Int) × Unit))) : Bool × Unit := (F_46 a0).getD (dfH R_46)
noncomputable def s_46 : Summ := shN A_46 R_46 (fun x => p_46 x.1) (fun x => v_46 x.1)
theorem pv_46 (a0 : (((List Int) × ((List Int) × (Int × Unit))) × ((List Int) × Unit))) {y : Bool × Unit} (h : F_46 a0 = some y) : p_46 a0 = true ∧ v_46 a0 = y := pvG h
theorem run_46 (x : HDen A_46) (y : HDen R_46) (h : F_46 x.1 = some y) : rnF sm_46 1 46 A_46 R_46 x y := runG noO_ok (os := []) trivial (Eq.trans (by kernel_rfl) h)
end
noncomputable section
abbrev A_47 : List Ty := [(.pair (.int .i64) (.pair (.int .u32) .unit))]
abbrev R_47 : List Ty := [.bool]
noncomputable def sm_47 : Nat → Option Summ := smL []
noncomputable def F_47 (a0 : (Int × (Int × Unit))) : Option (Bool × Unit) :=
 bif decide (a0.1 ≥ 0) then some (decide (a0.1 ≤ 1099511627776), PUnit.unit) else some (false, PUnit.unit)
noncomputable def Sp.p_47 (a0 : (Int × (Int × Unit))) : Bool := (F_47 a0).isSome
noncomputable def Sp.v_47 (a0 : (Int × (Int × Unit))) : Bool × Unit := (F_47 a0).getD (dfH R_47)
noncomputable def s_47 : Summ := shN A_47 R_47 (fun x => p_47 x.1) (fun x => v_47 x.1)
theorem pv_47 (a0 : (Int × (Int × Unit))) {y : Bool × Unit} (h : F_47 a0 = some y) : p_47 a0 = true ∧ v_47 a0 = y := pvG h
theorem run_47 (x : HDen A_47) (y : HDen R_47) (h : F_47 x.1 = some y) : rnF sm_47 1 47 A_47 R_47 x y := runG noO_ok (os := []) trivial (Eq.trans (by kernel_rfl) h)
end
noncomputable section
abbrev A_48 : List Ty := [(.pair (.int .i64) (.pair (.int .i64) (.pair (.arr 32 (.int .u8)) (.pair (.pair (.int .i64) (.pair (.slice (.arr 32 (.int .u8))) (.pair (.slice (.arr 32 (.int .u8))) .unit))) .unit)))), (.pair (.pair (.slice (.int .u32)) (.pair (.slice (.int .i64)) (.pair (.int .i64) .unit))) (.pair (.arr 32 (.int .u8)) .unit))]
abbrev R_48 : List Ty := [.bool]
noncomputable def sm_48 : Nat → Option Summ := smL [(39, s_39)]
noncomputable def F_48 (a0 : (Int × (Int × ((List Int) × ((Int × ((List (List Int)) × ((List (List Int)) × Unit))) × Unit))))) (a1 : (((List Int) × ((List Int) × (Int × Unit))) × ((List Int) × Unit))) : Option (Bool × Unit) :=
 gd (p_39 a0 (wrap i64 (wrap i64 (Int.tdiv (↑(length (a1.1.1)) : Int) 2) - 564))) (some ((v_39 a0 (wrap i64 (wrap i64 (Int.tdiv (↑(length (a1.1.1)) : Int) 2) - 564))).1, PUnit.unit))
noncomputable def Sp.p_48 (a0 : (Int × (Int × ((List Int) × ((Int × ((List (List Int)) × ((List (List Int)) × Unit))) × Unit))))) (a1 : (((List Int) × ((List Int) × (Int × Unit))) × ((List Int) × Unit))) : Bool := (F_48 a0 a1).isSome
noncomputable def Sp.v_48 (a0 : (Int × (Int × ((List Int) × ((Int × ((List (List Int)) × ((List (List Int)) × Unit))) × Unit))))) (a1 : (((List Int) × ((List Int) × (Int × Unit))) × ((List Int) × Unit))) : Bool × Unit := (F_48 a0 a1).getD (dfH R_48)
noncomputable def s_48 : Summ := shN A_48 R_48 (fun x => p_48 x.1 x.2.1) (fun x => v_48 x.1 x.2.1)
theorem pv_48 (a0 : (Int × (Int × ((List Int) × ((Int × ((List (List Int)) × ((List (List Int)) × Unit))) × Unit))))) (a1 : (((List Int) × ((List Int) × (Int × Unit))) × ((List Int) × Unit))) {y : Bool × Unit} (h : F_48 a0 a1 = some y) : p_48 a0 a1 = true ∧ v_48 a0 a1 = y := pvG h
theorem run_48 (x : HDen A_48) (y : HDen R_48) (h : F_48 x.1 x.2.1 = some y) : rnF sm_48 1 48 A_48 R_48 x y := runG noO_ok (os := []) trivial (Eq.trans (by kernel_rfl) h)
end
noncomputable section
abbrev A_17 : List Ty := [(.pair (.int .i64) (.pair (.int .i64) (.pair (.int .i64) (.pair (.pair (.int .i64) (.pair (.int .i64) (.pair (.arr 32 (.int .u8)) (.pair (.pair (.int .i64) (.pair (.slice (.arr 32 (.int .u8))) (.pair (.slice (.arr 32 (.int .u8))) .unit))) .unit)))) .unit)))), (.pair (.pair (.slice (.int .u32)) (.pair (.slice (.int .i64)) (.pair (.int .i64) .unit))) (.pair (.arr 32 (.int .u8)) .unit)), (.pair (.int .i64) (.pair (.int .u32) .unit))]
abbrev R_17 : List Ty := [.bool]
noncomputable def sm_17 : Nat → Option Summ := smL [(14, s_14), (46, s_46), (47, s_47), (48, s_48)]
noncomputable def F_17 (a0 : (Int × (Int × (Int × ((Int × (Int × ((List Int) × ((Int × ((List (List Int)) × ((List (List Int)) × Unit))) × Unit)))) × Unit))))) (a1 : (((List Int) × ((List Int) × (Int × Unit))) × ((List Int) × Unit))) (a2 : (Int × (Int × Unit))) : Option (Bool × Unit) :=
 gd (p_14 a0) (bif (v_14 a0).1 then gd (p_46 a1) (bif (v_46 a1).1 then gd (p_47 a2) (bif (v_47 a2).1 then bif a0.1 == 0 then some (true, PUnit.unit) else gd (p_48 (a0.2.2.2.1) a1) (some ((v_48 (a0.2.2.2.1) a1).1, PUnit.unit)) else some (false, PUnit.unit)) else some (false, PUnit.unit)) else some (false, PUnit.unit))
noncomputable def Sp.p_17 (a0 : (Int × (Int × (Int × ((Int × (Int × ((List Int) × ((Int × ((List (List Int)) × ((List (List Int)) × Unit))) × Unit)))) × Unit))))) (a1 : (((List Int) × ((List Int) × (Int × Unit))) × ((List Int) × Unit))) (a2 : (Int × (Int × Unit))) : Bool := (F_17 a0 a1 a2).isSome
noncomputable def Sp.v_17 (a0 : (Int × (Int × (Int × ((Int × (Int × ((List Int) × ((Int × ((List (List Int)) × ((List (List Int)) × Unit))) × Unit)))) × Unit))))) (a1 : (((List Int) × ((List Int) × (Int × Unit))) × ((List Int) × Unit))) (a2 : (Int × (Int × Unit))) : Bool × Unit := (F_17 a0 a1 a2).getD (dfH R_17)
noncomputable def s_17 : Summ := shN A_17 R_17 (fun x => p_17 x.1 x.2.1 x.2.2.1) (fun x => v_17 x.1 x.2.1 x.2.2.1)
theorem pv_17 (a0 : (Int × (Int × (Int × ((Int × (Int × ((List Int) × ((Int × ((List (List Int)) × ((List (List Int)) × Unit))) × Unit)))) × Unit))))) (a1 : (((List Int) × ((List Int) × (Int × Unit))) × ((List Int) × Unit))) (a2 : (Int × (Int × Unit))) {y : Bool × Unit} (h : F_17 a0 a1 a2 = some y) : p_17 a0 a1 a2 = true ∧ v_17 a0 a1 a2 = y := pvG h
theorem run_17 (x : HDen A_17) (y : HDen R_17) (h : F_17 x.1 x.2.1 x.2.2.1 = some y) : rnF sm_17 1 17 A_17 R_17 x y := runG noO_ok (os := []) trivial (Eq.trans (by kernel_rfl) h)
end
noncomputable section
abbrev A_18 : List Ty := [(.pair (.int .i64) (.pair (.int .i64) (.pair (.int .i64) (.pair (.pair (.int .i64) (.pair (.int .i64) (.pair (.arr 32 (.int .u8)) (.pair (.pair (.int .i64) (.pair (.slice (.arr 32 (.int .u8))) (.pair (.slice (.arr 32 (.int .u8))) .unit))) .unit)))) .unit))))]
abbrev R_18 : List Ty := [(.int .i64)]
noncomputable def sm_18 : Nat → Option Summ := smL []
noncomputable def F_18 (a0 : (Int × (Int × (Int × ((Int × (Int × ((List Int) × ((Int × ((List (List Int)) × ((List (List Int)) × Unit))) × Unit)))) × Unit))))) : Option (Int × Unit) :=
 bif decide (wrap i64 (a0.2.2.2.1.2.1 - a0.2.2.1) < 32) then some (wrap i64 (a0.2.2.2.1.2.1 - a0.2.2.1), PUnit.unit) else some (32, PUnit.unit)
noncomputable def Sp.p_18 (a0 : (Int × (Int × (Int × ((Int × (Int × ((List Int) × ((Int × ((List (List Int)) × ((List (List Int)) × Unit))) × Unit)))) × Unit))))) : Bool := (F_18 a0).isSome
noncomputable def Sp.v_18 (a0 : (Int × (Int × (Int × ((Int × (Int × ((List Int) × ((Int × ((List (List Int)) × ((List (List Int)) × Unit))) × Unit)))) × Unit))))) : Int × Unit := (F_18 a0).getD (dfH R_18)
noncomputable def s_18 : Summ := shN A_18 R_18 (fun x => p_18 x.1) (fun x => v_18 x.1)
theorem pv_18 (a0 : (Int × (Int × (Int × ((Int × (Int × ((List Int) × ((Int × ((List (List Int)) × ((List (List Int)) × Unit))) × Unit)))) × Unit))))) {y : Int × Unit} (h : F_18 a0 = some y) : p_18 a0 = true ∧ v_18 a0 = y := pvG h
theorem run_18 (x : HDen A_18) (y : HDen R_18) (h : F_18 x.1 = some y) : rnF sm_18 1 18 A_18 R_18 x y := runG noO_ok (os := []) trivial (Eq.trans (by kernel_rfl) h)
end
noncomputable section
abbrev A_105 : List Ty := [(.pair (.int .i64) (.pair (.int .u32) .unit))]
abbrev R_105 : List Ty := [(.int .u32), (.pair (.int .i64) (.pair (.int .u32) .unit)), (.int .i64)]
noncomputable def sm_105 : Nat → Option Summ := smL []
noncomputable def T_105_0 : PS := ⟨23, [(1, .kc (.ptr 0 [])), (3, .kc (.ptr 1 [])), (5, .hv (.int .u32)), (6, .hv (.int .i64))], [.mem (.hv (.pair (.int .i64) (.pair (.int .u32) .unit))), .mem (.hv (.pair (.int .i64) (.pair (.int .u32) .unit)))], 0⟩
inductive Sp.E_105_0 where
 | e0 (p1 : Int) (p2 : Int × Int × Unit)
 | e1 (p0 p1 : Int) (p2 : Int × Int × Unit)
noncomputable def Sp.B_105_0 {R : Type} (r : Option E_105_0) (k0 : Int → (Int × Int × Unit) → Option R) (k1 : Int → Int → (Int × Int × Unit) → Option R) : Option R := match r with
 | none => none
 | some (.e0 p1 p2) => k0 p1 p2
 | some (.e1 p0 p1 p2) => k1 p0 p1 p2
noncomputable def Y_105_0 {R : Type} (k : Ex → St → Option R) : E_105_0 → Option R
 | .e0 p1 p2 => k Ex.ret (sx 23 [(2, CV.int u32 0), (3, CV.ptr 0 []), (4, CV.int i64 p1)] [Blk.mem (CV.pure (Ty.pair (Ty.int i64) (Ty.pair (Ty.int u32) Ty.unit)) ((if wrap i64 (p2.1 - 1) > 0 then wrap i64 (p2.1 - 1) else 0, p2.2) : (Int × (Int × Unit))))])
 | .e1 p0 p1 p2 => k Ex.ret (sx 23 [(2, CV.int u32 p0), (3, CV.ptr 0 []), (4, CV.int i64 p1)] [Blk.mem (CV.pure (Ty.pair (Ty.int i64) (Ty.pair (Ty.int u32) Ty.unit)) ((if wrap i64 (p2.1 - 1) > 0 then wrap i64 (p2.1 - 1) else 0, p2.2) : (Int × (Int × Unit))))])
noncomputable def Sp.S_105_0 {R : Type} (k : E_105_0 → Option R) (p0 p1 : Int) (p2 p3 : Int × Int × Unit) : Option R :=
 bif decide (p2.1 < 1) then k (E_105_0.e0 p1 p2) else k (E_105_0.e1 p0 p1 p2)
noncomputable def Sp.J_105_0 (p0 p1 : Int) (p2 p3 : Int × Int × Unit) : Option E_105_0 := S_105_0 some p0 p1 p2 p3
noncomputable def O_105_0 {R : Type} : Orc R := orL T_105_0 (fun a => J_105_0 a.1 a.2.1 a.2.2.1 a.2.2.2.1) Y_105_0
theorem OK_105_0 {R : Type} : okF (R := R) sm_105 0 (nf 105 0) O_105_0 := jp noO_ok (os := []) trivial T_105_0 (fun R k a => S_105_0 k a.1 a.2.1 a.2.2.1 a.2.2.2.1) Y_105_0 (fun k a => by kernel_rfl) (fun Y a => by
 unfold S_105_0
 repeat' first | apply gdN | apply condN | rfl) (ok0 _)
noncomputable def F_105 (a0 : (Int × (Int × Unit))) : Option (Int × (Int × (Int × Unit)) × Int × Unit) :=
 bif decide (a0.1 < 2) then B_105_0 (J_105_0 (a0.2.1) 18 a0 (0, 0, PUnit.unit)) (fun y12 y13 => some (0, (if wrap i64 (y13.1 - 1) > 0 then wrap i64 (y13.1 - 1) else 0, y13.2), y12, PUnit.unit)) fun y14 y15 y16 => some (y14, (if wrap i64 (y16.1 - 1) > 0 then wrap i64 (y16.1 - 1) else 0, y16.2), y15, PUnit.unit) else B_105_0 (J_105_0 4294967295 0 a0 (0, 0, PUnit.unit)) (fun y17 y18 => some (0, (if wrap i64 (y18.1 - 1) > 0 then wrap i64 (y18.1 - 1) else 0, y18.2), y17, PUnit.unit)) fun y19 y20 y21 => some (y19, (if wrap i64 (y21.1 - 1) > 0 then wrap i64 (y21.1 - 1) else 0, y21.2), y20, PUnit.unit)
noncomputable def Sp.p_105 (a0 : (Int × (Int × Unit))) : Bool := (F_105 a0).isSome
noncomputable def Sp.v_105 (a0 : (Int × (Int × Unit))) : Int × (Int × (Int × Unit)) × Int × Unit := (F_105 a0).getD (dfH R_105)
noncomputable def s_105 : Summ := shN A_105 R_105 (fun x => p_105 x.1) (fun x => v_105 x.1)
theorem pv_105 (a0 : (Int × (Int × Unit))) {y : Int × (Int × (Int × Unit)) × Int × Unit} (h : F_105 a0 = some y) : p_105 a0 = true ∧ v_105 a0 = y := pvG h
theorem run_105 (x : HDen A_105) (y : HDen R_105) (h : F_105 x.1 = some y) : rnF sm_105 1 105 A_105 R_105 x y := runG noO_ok (os := [O_105_0]) ⟨OK_105_0, trivial⟩ (Eq.trans (by kernel_rfl) h)
end
noncomputable section
abbrev Zt79_0 : Type := List Int × List Int × Int × Unit
abbrev Zt79_1 : Type := Int × Int × Unit
abbrev Zy79_2 : Ty := (.pair (.slice (.int .u32)) (.pair (.slice (.int .i64)) (.pair (.int .i64) .unit)))
abbrev Zy79_3 : Ty := (.pair (.int .i64) (.pair (.int .u32) .unit))
abbrev A_79 : List Ty := [(.pair (.slice (.int .u32)) (.pair (.slice (.int .i64)) (.pair (.int .i64) .unit))), (.int .i64), (.int .u32), (.pair (.int .i64) (.pair (.int .u32) .unit))]
abbrev R_79 : List Ty := [(.pair (.slice (.int .u32)) (.pair (.slice (.int .i64)) (.pair (.int .i64) .unit))), (.pair (.int .i64) (.pair (.int .u32) .unit)), (.int .i64)]
noncomputable def sm_79 : Nat → Option Summ := smL [(47, s_47), (77, s_77), (105, s_105)]
noncomputable def T_79_106_0_0 : PS := ⟨44, [(1, .kc (.ptr 5 [])), (2, .kc (.ptr 6 [])), (3, .kc (.ptr 9 [])), (4, .hv (.int .i64))], [.mem (.hv Zy79_2), .mem (.hv Zy79_3), .mem (.pr (.kc (.nil 42 (.int .u32))) (.pr (.kc (.nil 3 (.int .i64))) (.hv (.pair (.int .i64) .unit)))), .mem (.hv Zy79_3), .mem (.hv Zy79_3), .mem (.hv Zy79_2), .mem (.pr (.kc (.whole 7)) (.pr (.kc (.whole 8)) (.hv (.pair (.int .i64) .unit)))), .vec 42 (.int .u32), .vec 3 (.int .i64), .mem (.pr (.kc (.whole 10)) (.pr (.kc (.whole 11)) (.hv (.pair (.int .i64) .unit)))), .vec 42 (.int .u32), .vec 3 (.int .i64)], 5⟩
inductive Sp.E_79_106_0_0 where
 | e0 (p1 : Zt79_0) (p2 : Zt79_1) (p3 : Int × Unit) (p4 p5 : Zt79_1) (p6 : Zt79_0) (p7 : Int × Unit) (p8 p9 : List Int) (p10 : Int × Unit) (p11 p12 : List Int)
noncomputable def Sp.B_79_106_0_0 {R : Type} (r : Option E_79_106_0_0) (k0 : Zt79_0 → Zt79_1 → (Int × Unit) → Zt79_1 → Zt79_1 → Zt79_0 → (Int × Unit) → List Int → List Int → (Int × Unit) → List Int → List Int → Option R) : Option R := match r with
 | none => none
 | some (.e0 p1 p2 p3 p4 p5 p6 p7 p8 p9 p10 p11 p12) => k0 p1 p2 p3 p4 p5 p6 p7 p8 p9 p10 p11 p12
noncomputable def Y_79_106_0_0 {R : Type} (k : Ex → St → Option R) : E_79_106_0_0 → Option R
 | .e0 p1 p2 p3 p4 p5 p6 p7 p8 p9 p10 p11 p12 => k (Ex.exit 0) (sx 44 [(1, CV.ptr 5 []), (2, CV.ptr 6 []), (3, CV.ptr 9 [])] [Blk.mem (CV.pure (Ty.pair (Ty.slice (Ty.int u32)) (Ty.pair (Ty.slice (Ty.int i64)) (Ty.pair (Ty.int i64) Ty.unit))) p1), Blk.mem (CV.pure (Ty.pair (Ty.int i64) (Ty.pair (Ty.int u32) Ty.unit)) p2), Blk.mem (CV.pair (CV.nil 42 (Ty.int u32)) (CV.pair (CV.nil 3 (Ty.int i64)) (CV.pure (Ty.pair (Ty.int i64) Ty.unit) p3))), Blk.mem (CV.pure (Ty.pair (Ty.int i64) (Ty.pair (Ty.int u32) Ty.unit)) p4), Blk.mem (CV.pure (Ty.pair (Ty.int i64) (Ty.pair (Ty.int u32) Ty.unit)) p5), Blk.mem (CV.pure (Ty.pair (Ty.slice (Ty.int u32)) (Ty.pair (Ty.slice (Ty.int i64)) (Ty.pair (Ty.int i64) Ty.unit))) p6), Blk.mem (CV.pair (CV.whole 7) (CV.pair (CV.whole 8) (CV.pure (Ty.pair (Ty.int i64) Ty.unit) p7))), Blk.vec 42 (Ty.int u32) p8, Blk.vec 3 (Ty.int i64) p9, Blk.mem (CV.pair (CV.whole 10) (CV.pair (CV.whole 11) (CV.pure (Ty.pair (Ty.int i64) Ty.unit) p10))), Blk.vec 42 (Ty.int u32) p11, Blk.vec 3 (Ty.int i64) p12] 5)
noncomputable def Sp.S_79_106_0_0 {R : Type} (K : Int → (List Int × List Int × Int × Unit) → (Int × Int × Unit) → (Int × Unit) → (Int × Int × Unit) → (Int × Int × Unit) → (List Int × List Int × Int × Unit) → (Int × Unit) → List Int → List Int → (Int × Unit) → List Int → List Int → Option R) (k : E_79_106_0_0 → Option R) (p0 : Int) (p1 : List Int × List Int × Int × Unit) (p2 : Int × Int × Unit) (p3 : Int × Unit) (p4 p5 : Int × Int × Unit) (p6 : List Int × List Int × Int × Unit) (p7 : Int × Unit) (p8 p9 : List Int) (p10 : Int × Unit) (p11 p12 : List Int) : Option R :=
 bif decide (p0 < (↑(length (p6.1)) : Int)) then gd (inB p0 (length (p6.1))) (gd (room (length p11 + 1) 4) (K (wrap i64 (p0 + 1)) p1 p2 p3 p4 p5 p6 p7 p8 p9 p10 (p11 ++ [getD (p6.1) (toNat p0) 0]) p12)) else k (E_79_106_0_0.e0 p1 p2 p3 p4 p5 p6 p7 p8 p9 p10 p11 p12)
noncomputable def Sp.L_79_106_0_0 : Nat → Int → (List Int × List Int × Int × Unit) → (Int × Int × Unit) → (Int × Unit) → (Int × Int × Unit) → (Int × Int × Unit) → (List Int × List Int × Int × Unit) → (Int × Unit) → List Int → List Int → (Int × Unit) → List Int → List Int → Option E_79_106_0_0
 | 0, _, _, _, _, _, _, _, _, _, _, _, _, _ => none
 | m + 1, p0, p1, p2, p3, p4, p5, p6, p7, p8, p9, p10, p11, p12 => S_79_106_0_0 (L_79_106_0_0 m) some p0 p1 p2 p3 p4 p5 p6 p7 p8 p9 p10 p11 p12
noncomputable def l_79_106_0_0 (m : Nat) (a : T_79_106_0_0.E) : Option E_79_106_0_0 := L_79_106_0_0 m a.1 a.2.1 a.2.2.1 a.2.2.2.1 a.2.2.2.2.1 a.2.2.2.2.2.1 a.2.2.2.2.2.2.1 a.2.2.2.2.2.2.2.1 a.2.2.2.2.2.2.2.2.1 a.2.2.2.2.2.2.2.2.2.1 a.2.2.2.2.2.2.2.2.2.2.1 a.2.2.2.2.2.2.2.2.2.2.2.1 a.2.2.2.2.2.2.2.2.2.2.2.2.1
noncomputable def O_79_106_0_0 {R : Type} : Orc R := orL T_79_106_0_0 (l_79_106_0_0 FU) Y_79_106_0_0
theorem OK_79_106_0_0 {R : Type} : okF (R := R) sm_79 0 (nf 106 0) O_79_106_0_0 := lp0 T_79_106_0_0 l_79_106_0_0 (fun R K k a => S_79_106_0_0 (fun p0 p1 p2 p3 p4 p5 p6 p7 p8 p9 p10 p11 p12 => K (p0, p1, p2, p3, p4, p5, p6, p7, p8, p9, p10, p11, p12, ())) k a.1 a.2.1 a.2.2.1 a.2.2.2.1 a.2.2.2.2.1 a.2.2.2.2.2.1 a.2.2.2.2.2.2.1 a.2.2.2.2.2.2.2.1 a.2.2.2.2.2.2.2.2.1 a.2.2.2.2.2.2.2.2.2.1 a.2.2.2.2.2.2.2.2.2.2.1 a.2.2.2.2.2.2.2.2.2.2.2.1 a.2.2.2.2.2.2.2.2.2.2.2.2.1) Y_79_106_0_0 (fun _ _ _ => by kernel_rfl) (fun _ _ _ => by
 unfold S_79_106_0_0
 repeat' first | apply gdN | apply condN | rfl) (ok0 _)
noncomputable def T_79_106_1_0 : PS := ⟨44, [(1, .kc (.ptr 5 [])), (2, .kc (.ptr 6 [])), (3, .kc (.ptr 9 [])), (5, .hv (.int .i64))], [.mem (.hv Zy79_2), .mem (.hv Zy79_3), .mem (.pr (.kc (.nil 42 (.int .u32))) (.pr (.kc (.nil 3 (.int .i64))) (.hv (.pair (.int .i64) .unit)))), .mem (.hv Zy79_3), .mem (.hv Zy79_3), .mem (.hv Zy79_2), .mem (.pr (.kc (.whole 7)) (.pr (.kc (.whole 8)) (.hv (.pair (.int .i64) .unit)))), .vec 42 (.int .u32), .vec 3 (.int .i64), .mem (.pr (.kc (.whole 10)) (.pr (.kc (.whole 11)) (.hv (.pair (.int .i64) .unit)))), .vec 42 (.int .u32), .vec 3 (.int .i64)], 5⟩
inductive Sp.E_79_106_1_0 where
 | e0 (p1 : Zt79_0) (p2 : Zt79_1) (p3 : Int × Unit) (p4 p5 : Zt79_1) (p7 : Int × Unit) (p8 p9 : List Int) (p10 : Int × Unit) (p11 p12 : List Int)
noncomputable def Sp.B_79_106_1_0 {R : Type} (r : Option E_79_106_1_0) (k0 : Zt79_0 → Zt79_1 → (Int × Unit) → Zt79_1 → Zt79_1 → (Int × Unit) → List Int → List Int → (Int × Unit) → List Int → List Int → Option R) : Option R := match r with
 | none => none
 | some (.e0 p1 p2 p3 p4 p5 p7 p8 p9 p10 p11 p12) => k0 p1 p2 p3 p4 p5 p7 p8 p9 p10 p11 p12
noncomputable def Y_79_106_1_0 {R : Type} (k : Ex → St → Option R) : E_79_106_1_0 → Option R
 | .e0 p1 p2 p3 p4 p5 p7 p8 p9 p10 p11 p12 => k (Ex.exit 2) (sx 44 [(2, CV.ptr 5 []), (3, CV.ptr 8 [])] [Blk.mem (CV.pure (Ty.pair (Ty.slice (Ty.int u32)) (Ty.pair (Ty.slice (Ty.int i64)) (Ty.pair (Ty.int i64) Ty.unit))) p1), Blk.mem (CV.pure (Ty.pair (Ty.int i64) (Ty.pair (Ty.int u32) Ty.unit)) p2), Blk.mem (CV.pair (CV.nil 42 (Ty.int u32)) (CV.pair (CV.nil 3 (Ty.int i64)) (CV.pure (Ty.pair (Ty.int i64) Ty.unit) p3))), Blk.mem (CV.pure (Ty.pair (Ty.int i64) (Ty.pair (Ty.int u32) Ty.unit)) p4), Blk.mem (CV.pure (Ty.pair (Ty.int i64) (Ty.pair (Ty.int u32) Ty.unit)) p5), Blk.mem (CV.pair (CV.whole 6) (CV.pair (CV.whole 7) (CV.pure (Ty.pair (Ty.int i64) Ty.unit) p7))), Blk.vec 42 (Ty.int u32) p8, Blk.vec 3 (Ty.int i64) p9, Blk.mem (CV.pair (CV.whole 9) (CV.pair (CV.whole 10) (CV.pure (Ty.pair (Ty.int i64) Ty.unit) p10))), Blk.vec 42 (Ty.int u32) p11, Blk.vec 3 (Ty.int i64) p12] 5)
noncomputable def Sp.S_79_106_1_0 {R : Type} (K : Int → (List Int × List Int × Int × Unit) → (Int × Int × Unit) → (Int × Unit) → (Int × Int × Unit) → (Int × Int × Unit) → (List Int × List Int × Int × Unit) → (Int × Unit) → List Int → List Int → (Int × Unit) → List Int → List Int → Option R) (k : E_79_106_1_0 → Option R) (p0 : Int) (p1 : List Int × List Int × Int × Unit) (p2 : Int × Int × Unit) (p3 : Int × Unit) (p4 p5 : Int × Int × Unit) (p6 : List Int × List Int × Int × Unit) (p7 : Int × Unit) (p8 p9 : List Int) (p10 : Int × Unit) (p11 p12 : List Int) : Option R :=
 bif decide (p0 < (↑(length (p6.2.1)) : Int)) then gd (inB p0 (length (p6.2.1))) (gd (room (length p12 + 1) 8) (K (wrap i64 (p0 + 1)) p1 p2 p3 p4 p5 p6 p7 p8 p9 p10 p11 (p12 ++ [getD (p6.2.1) (toNat p0) 0]))) else k (E_79_106_1_0.e0 p1 p2 p3 p4 p5 p7 p8 p9 p10 p11 p12)
noncomputable def Sp.L_79_106_1_0 : Nat → Int → (List Int × List Int × Int × Unit) → (Int × Int × Unit) → (Int × Unit) → (Int × Int × Unit) → (Int × Int × Unit) → (List Int × List Int × Int × Unit) → (Int × Unit) → List Int → List Int → (Int × Unit) → List Int → List Int → Option E_79_106_1_0
 | 0, _, _, _, _, _, _, _, _, _, _, _, _, _ => none
 | m + 1, p0, p1, p2, p3, p4, p5, p6, p7, p8, p9, p10, p11, p12 => S_79_106_1_0 (L_79_106_1_0 m) some p0 p1 p2 p3 p4 p5 p6 p7 p8 p9 p10 p11 p12
noncomputable def l_79_106_1_0 (m : Nat) (a : T_79_106_1_0.E) : Option E_79_106_1_0 := L_79_106_1_0 m a.1 a.2.1 a.2.2.1 a.2.2.2.1 a.2.2.2.2.1 a.2.2.2.2.2.1 a.2.2.2.2.2.2.1 a.2.2.2.2.2.2.2.1 a.2.2.2.2.2.2.2.2.1 a.2.2.2.2.2.2.2.2.2.1 a.2.2.2.2.2.2.2.2.2.2.1 a.2.2.2.2.2.2.2.2.2.2.2.1 a.2.2.2.2.2.2.2.2.2.2.2.2.1
noncomputable def O_79_106_1_0 {R : Type} : Orc R := orL T_79_106_1_0 (l_79_106_1_0 FU) Y_79_106_1_0
theorem OK_79_106_1_0 {R : Type} : okF (R := R) sm_79 0 (nf 106 1) O_79_106_1_0 := lp0 T_79_106_1_0 l_79_106_1_0 (fun R K k a => S_79_106_1_0 (fun p0 p1 p2 p3 p4 p5 p6 p7 p8 p9 p10 p11 p12 => K (p0, p1, p2, p3, p4, p5, p6, p7, p8, p9, p10, p11, p12, ())) k a.1 a.2.1 a.2.2.1 a.2.2.2.1 a.2.2.2.2.1 a.2.2.2.2.2.1 a.2.2.2.2.2.2.1 a.2.2.2.2.2.2.2.1 a.2.2.2.2.2.2.2.2.1 a.2.2.2.2.2.2.2.2.2.1 a.2.2.2.2.2.2.2.2.2.2.1 a.2.2.2.2.2.2.2.2.2.2.2.1 a.2.2.2.2.2.2.2.2.2.2.2.2.1) Y_79_106_1_0 (fun _ _ _ => by kernel_rfl) (fun _ _ _ => by
 unfold S_79_106_1_0
 repeat' first | apply gdN | apply condN | rfl) (ok0 _)
noncomputable def g_79_106 {R : Type} : List CV → List Blk → (CV → List Blk → Option R) → Option R := evFnL sm_79 FU (ovr noO (evFn sm_79 fns FU 0)) (mkT (fB fns 106) [O_79_106_0_0, O_79_106_1_0]) (fO fns 106)
theorem g_79_106_ok {R : Type} (args : List CV) (hp : List Blk) (k : CV → List Blk → Option R) (r : R) (h : g_79_106 args hp k = some r) : evFn sm_79 fns FU 1 106 args hp k = some r := runG noO_ok (os := [O_79_106_0_0, O_79_106_1_0]) ⟨OK_79_106_0_0, OK_79_106_1_0, trivial⟩ h
noncomputable def ov_79_79 {R : Type} : Nat → Option (List CV → List Blk → (CV → List Blk → Option R) → Option R) := fun f' => bif Nat.beq f' 106 then some g_79_106 else none
theorem ov_79_79_ok {R : Type} : OvrOK (R := R) ov_79_79 (evFn sm_79 fns FU 1) := by
 intro f' g h args hp k r hg
 dsimp only [ov_79_79] at h
 by_cases h106 : f' = 106
 · subst h106
   injection h with h
   subst h
   exact evFn_le 0 (g_79_106_ok _ _ _ _ hg)
 rw [nbeq_ne h106, cond_false] at h
 cases h
noncomputable def F_79 (a0 : ((List Int) × ((List Int) × (Int × Unit)))) (a1 a2 : Int) (a3 : (Int × (Int × Unit))) : Option (((List Int) × ((List Int) × (Int × Unit))) × (Int × (Int × Unit)) × Int × Unit) :=
 gd (p_77 a0) (bif !(v_77 a0).1 then some (([], [], 0, PUnit.unit), (0, 0, PUnit.unit), 1, PUnit.unit) else gd (p_47 a3) (bif !(v_47 a3).1 then some (([], [], 0, PUnit.unit), (0, 0, PUnit.unit), 1, PUnit.unit) else bif decide (a1 < 0) then some (([], [], 0, PUnit.unit), (0, 0, PUnit.unit), 2, PUnit.unit) else bif decide (a1 ≥ (↑(length (a0.1)) : Int)) then some (([], [], 0, PUnit.unit), (0, 0, PUnit.unit), 2, PUnit.unit) else gd (p_105 a3) (B_79_106_0_0 (L_79_106_0_0 4611686018427387904 0 a0 a3 (0, PUnit.unit) (0, 0, PUnit.unit) ((v_105 a3).2.1) a0 (0, PUnit.unit) [] [] (a0.2.2.1, PUnit.unit) [] []) fun y31 y32 y33 y34 y35 y36 y37 y38 y39 y40 y41 y42 => B_79_106_1_0 (L_79_106_1_0 4611686018427387904 0 y31 y32 y33 y34 y35 y36 y37 y38 y39 y40 y41 y42) fun y43 y44 y45 y46 y47 y48 y49 y50 y51 y52 y53 => gd (inB a1 (length (y43.1))) (gd (inB a1 (length y52)) (gd (decide (toNat a1 < length y52) && true && true) (some ((List.set y52 (toNat a1) (Sp.andI u32 (getD (y43.1) (toNat a1) 0) (Sp.orI u32 a2 (Sp.xorI u32 4294967295 ((v_105 a3).1)))), y53, y51), y47, (v_105 a3).2.2.1, PUnit.unit)))))))
noncomputable def Sp.p_79 (a0 : ((List Int) × ((List Int) × (Int × Unit)))) (a1 a2 : Int) (a3 : (Int × (Int × Unit))) : Bool := (F_79 a0 a1 a2 a3).isSome
noncomputable def Sp.v_79 (a0 : ((List Int) × ((List Int) × (Int × Unit)))) (a1 a2 : Int) (a3 : (Int × (Int × Unit))) : ((List Int) × ((List Int) × (Int × Unit))) × (Int × (Int × Unit)) × Int × Unit := (F_79 a0 a1 a2 a3).getD (dfH R_79)
noncomputable def s_79 : Summ := shS A_79 R_79 (fun x => p_79 x.1 x.2.1 x.2.2.1 x.2.2.2.1) (fun x => v_79 x.1 x.2.1 x.2.2.1 x.2.2.2.1)
theorem pv_79 (a0 : ((List Int) × ((List Int) × (Int × Unit)))) (a1 a2 : Int) (a3 : (Int × (Int × Unit))) {y : ((List Int) × ((List Int) × (Int × Unit))) × (Int × (Int × Unit)) × Int × Unit} (h : F_79 a0 a1 a2 a3 = some y) : p_79 a0 a1 a2 a3 = true ∧ v_79 a0 a1 a2 a3 = y := pvG h
theorem run_79 (x : HDen A_79) (y : HDen R_79) (h : F_79 x.1 x.2.1 x.2.2.1 x.2.2.2.1 = some y) : rnF sm_79 2 79 A_79 R_79 x y := runG ov_79_79_ok (os := []) trivial (Eq.trans (by kernel_rfl) h)
end
noncomputable section
abbrev A_50 : List Ty := [(.pair (.pair (.pair (.slice (.int .u32)) (.pair (.slice (.int .i64)) (.pair (.int .i64) .unit))) (.pair (.arr 32 (.int .u8)) .unit)) (.pair (.pair (.int .i64) (.pair (.int .u32) .unit)) (.pair (.int .i64) .unit))), (.int .i64), (.slice (.int .u32))]
abbrev R_50 : List Ty := [(.pair (.pair (.pair (.slice (.int .u32)) (.pair (.slice (.int .i64)) (.pair (.int .i64) .unit))) (.pair (.arr 32 (.int .u8)) .unit)) (.pair (.pair (.int .i64) (.pair (.int .u32) .unit)) (.pair (.int .i64) .unit)))]
noncomputable def sm_50 : Nat → Option Summ := smL [(79, s_79)]
noncomputable def T_50_0 : PS := ⟨41, [(1, .hv (.int .i64)), (2, .hv (.slice (.int .u32))), (3, .kc (.ptr 0 [])), (6, .kc (.ptr 1 [])), (7, .hv (.int .i64))], [.mem (.hv (.pair (.pair (.pair (.slice (.int .u32)) (.pair (.slice (.int .i64)) (.pair (.int .i64) .unit))) (.pair (.arr 32 (.int .u8)) .unit)) (.pair (.pair (.int .i64) (.pair (.int .u32) .unit)) (.pair (.int .i64) .unit)))), .mem (.pr (.pr (.pr (.kc (.whole 2)) (.pr (.kc (.whole 3)) (.hv (.pair (.int .i64) .unit)))) (.hv (.pair (.arr 32 (.int .u8)) .unit))) (.hv (.pair (.pair (.int .i64) (.pair (.int .u32) .unit)) (.pair (.int .i64) .unit)))), .vec 42 (.int .u32), .vec 3 (.int .i64)], 0⟩
inductive Sp.E_50_0 where
 | e0 (p3 : ((List Int × List Int × Int × Unit) × List Int × Unit) × (Int × Int × Unit) × Int × Unit) (p4 : Int × Unit) (p5 : List Int × Unit) (p6 : (Int × Int × Unit) × Int × Unit) (p7 p8 : List Int)
noncomputable def Sp.B_50_0 {R : Type} (r : Option E_50_0) (k0 : (((List Int × List Int × Int × Unit) × List Int × Unit) × (Int × Int × Unit) × Int × Unit) → (Int × Unit) → (List Int × Unit) → ((Int × Int × Unit) × Int × Unit) → List Int → List Int → Option R) : Option R := match r with
 | none => none
 | some (.e0 p3 p4 p5 p6 p7 p8) => k0 p3 p4 p5 p6 p7 p8
noncomputable def Y_50_0 {R : Type} (k : Ex → St → Option R) : E_50_0 → Option R
 | .e0 p3 p4 p5 p6 p7 p8 => k (Ex.exit 0) (sx 41 [(3, CV.ptr 0 []), (6, CV.ptr 1 [])] [Blk.mem (CV.pure (Ty.pair (Ty.pair (Ty.pair (Ty.slice (Ty.int u32)) (Ty.pair (Ty.slice (Ty.int i64)) (Ty.pair (Ty.int i64) Ty.unit))) (Ty.pair (Ty.arr 32 (Ty.int u8)) Ty.unit)) (Ty.pair (Ty.pair (Ty.int i64) (Ty.pair (Ty.int u32) Ty.unit)) (Ty.pair (Ty.int i64) Ty.unit))) p3), Blk.mem (CV.pair (CV.pair (CV.pair (CV.whole 2) (CV.pair (CV.whole 3) (CV.pure (Ty.pair (Ty.int i64) Ty.unit) p4))) (CV.pure (Ty.pair (Ty.arr 32 (Ty.int u8)) Ty.unit) p5)) (CV.pure (Ty.pair (Ty.pair (Ty.int i64) (Ty.pair (Ty.int u32) Ty.unit)) (Ty.pair (Ty.int i64) Ty.unit)) p6)), Blk.vec 42 (Ty.int u32) p7, Blk.vec 3 (Ty.int i64) p8])
noncomputable def Sp.S_50_0 {R : Type} (K : Int → List Int → Int → (((List Int × List Int × Int × Unit) × List Int × Unit) × (Int × Int × Unit) × Int × Unit) → (Int × Unit) → (List Int × Unit) → ((Int × Int × Unit) × Int × Unit) → List Int → List Int → Option R) (k : E_50_0 → Option R) (p0 : Int) (p1 : List Int) (p2 : Int) (p3 : ((List Int × List Int × Int × Unit) × List Int × Unit) × (Int × Int × Unit) × Int × Unit) (p4 : Int × Unit) (p5 : List Int × Unit) (p6 : (Int × Int × Unit) × Int × Unit) (p7 p8 : List Int) : Option R :=
 bif decide (p2 < (↑(length p1) : Int)) then bif p3.2.2.1 == 0 then gd (inB p2 (length p1)) (gd (p_79 (p3.1.1) (wrap i64 (p0 + p2)) (getD p1 (toNat p2) 0) (p3.2.1)) (K p0 p1 (wrap i64 (p2 + 1)) (((v_79 (p3.1.1) (wrap i64 (p0 + p2)) (getD p1 (toNat p2) 0) (p3.2.1)).1, p3.1.2), (v_79 (p3.1.1) (wrap i64 (p0 + p2)) (getD p1 (toNat p2) 0) (p3.2.1)).2.1, (v_79 (p3.1.1) (wrap i64 (p0 + p2)) (getD p1 (toNat p2) 0) (p3.2.1)).2.2.1, p3.2.2.2) p4 p5 p6 p7 p8)) else k (E_50_0.e0 p3 p4 p5 p6 p7 p8) else k (E_50_0.e0 p3 p4 p5 p6 p7 p8)
noncomputable def Sp.L_50_0 : Nat → Int → List Int → Int → (((List Int × List Int × Int × Unit) × List Int × Unit) × (Int × Int × Unit) × Int × Unit) → (Int × Unit) → (List Int × Unit) → ((Int × Int × Unit) × Int × Unit) → List Int → List Int → Option E_50_0
 | 0, _, _, _, _, _, _, _, _, _ => none
 | m + 1, p0, p1, p2, p3, p4, p5, p6, p7, p8 => S_50_0 (L_50_0 m) some p0 p1 p2 p3 p4 p5 p6 p7 p8
noncomputable def l_50_0 (m : Nat) (a : T_50_0.E) : Option E_50_0 := L_50_0 m a.1 a.2.1 a.2.2.1 a.2.2.2.1 a.2.2.2.2.1 a.2.2.2.2.2.1 a.2.2.2.2.2.2.1 a.2.2.2.2.2.2.2.1 a.2.2.2.2.2.2.2.2.1
noncomputable def O_50_0 {R : Type} : Orc R := orL T_50_0 (l_50_0 FU) Y_50_0
theorem OK_50_0 {R : Type} : okF (R := R) sm_50 0 (nf 50 0) O_50_0 := lp0 T_50_0 l_50_0 (fun R K k a => S_50_0 (fun p0 p1 p2 p3 p4 p5 p6 p7 p8 => K (p0, p1, p2, p3, p4, p5, p6, p7, p8, ())) k a.1 a.2.1 a.2.2.1 a.2.2.2.1 a.2.2.2.2.1 a.2.2.2.2.2.1 a.2.2.2.2.2.2.1 a.2.2.2.2.2.2.2.1 a.2.2.2.2.2.2.2.2.1) Y_50_0 (fun _ _ _ => by kernel_rfl) (fun _ _ _ => by
 unfold S_50_0
 repeat' first | apply gdN | apply condN | rfl) (ok0 _)
noncomputable def F_50 (a0 : ((((List Int) × ((List Int) × (Int × Unit))) × ((List Int) × Unit)) × ((Int × (Int × Unit)) × (Int × Unit)))) (a1 : Int) (a2 : (List Int)) : Option (((((List Int) × ((List Int) × (Int × Unit))) × ((List Int) × Unit)) × ((Int × (Int × Unit)) × (Int × Unit))) × Unit) :=
 B_50_0 (L_50_0 4611686018427387904 a1 a2 0 a0 (0, PUnit.unit) (replicate 32 (0 :Int), PUnit.unit) ((0, 0, PUnit.unit), 0, PUnit.unit) [] []) fun y6 y7 y8 y9 y10 y11 => some (y6, PUnit.unit)
noncomputable def Sp.p_50 (a0 : ((((List Int) × ((List Int) × (Int × Unit))) × ((List Int) × Unit)) × ((Int × (Int × Unit)) × (Int × Unit)))) (a1 : Int) (a2 : (List Int)) : Bool := (F_50 a0 a1 a2).isSome
noncomputable def Sp.v_50 (a0 : ((((List Int) × ((List Int) × (Int × Unit))) × ((List Int) × Unit)) × ((Int × (Int × Unit)) × (Int × Unit)))) (a1 : Int) (a2 : (List Int)) : ((((List Int) × ((List Int) × (Int × Unit))) × ((List Int) × Unit)) × ((Int × (Int × Unit)) × (Int × Unit))) × Unit := (F_50 a0 a1 a2).getD (dfH R_50)
noncomputable def s_50 : Summ := shS A_50 R_50 (fun x => p_50 x.1 x.2.1 x.2.2.1) (fun x => v_50 x.1 x.2.1 x.2.2.1)
theorem pv_50 (a0 : ((((List Int) × ((List Int) × (Int × Unit))) × ((List Int) × Unit)) × ((Int × (Int × Unit)) × (Int × Unit)))) (a1 : Int) (a2 : (List Int)) {y : ((((List Int) × ((List Int) × (Int × Unit))) × ((List Int) × Unit)) × ((Int × (Int × Unit)) × (Int × Unit))) × Unit} (h : F_50 a0 a1 a2 = some y) : p_50 a0 a1 a2 = true ∧ v_50 a0 a1 a2 = y := pvG h
theorem run_50 (x : HDen A_50) (y : HDen R_50) (h : F_50 x.1 x.2.1 x.2.2.1 = some y) : rnF sm_50 1 50 A_50 R_50 x y := runG noO_ok (os := [O_50_0]) ⟨OK_50_0, trivial⟩ (Eq.trans (by kernel_rfl) h)
end
noncomputable section
abbrev A_51 : List Ty := [(.pair (.pair (.slice (.int .u32)) (.pair (.slice (.int .i64)) (.pair (.int .i64) .unit))) (.pair (.arr 32 (.int .u8)) .unit)), (.int .i64)]
abbrev R_51 : List Ty := [(.int .i64)]
noncomputable def sm_51 : Nat → Option Summ := smL []
noncomputable def F_51 (a0 : (((List Int) × ((List Int) × (Int × Unit))) × ((List Int) × Unit))) (a1 : Int) : Option (Int × Unit) :=
 some (wrap i64 (Int.tdiv (wrap i64 (a1 * (↑(length (a0.1.1)) : Int))) 2), PUnit.unit)
noncomputable def Sp.p_51 (a0 : (((List Int) × ((List Int) × (Int × Unit))) × ((List Int) × Unit))) (a1 : Int) : Bool := (F_51 a0 a1).isSome
noncomputable def Sp.v_51 (a0 : (((List Int) × ((List Int) × (Int × Unit))) × ((List Int) × Unit))) (a1 : Int) : Int × Unit := (F_51 a0 a1).getD (dfH R_51)
noncomputable def s_51 : Summ := shN A_51 R_51 (fun x => p_51 x.1 x.2.1) (fun x => v_51 x.1 x.2.1)
theorem pv_51 (a0 : (((List Int) × ((List Int) × (Int × Unit))) × ((List Int) × Unit))) (a1 : Int) {y : Int × Unit} (h : F_51 a0 a1 = some y) : p_51 a0 a1 = true ∧ v_51 a0 a1 = y := pvG h
theorem run_51 (x : HDen A_51) (y : HDen R_51) (h : F_51 x.1 x.2.1 = some y) : rnF sm_51 1 51 A_51 R_51 x y := runG noO_ok (os := []) trivial (Eq.trans (by kernel_rfl) h)
end
noncomputable section
abbrev A_21 : List Ty := [(.pair (.pair (.pair (.slice (.int .u32)) (.pair (.slice (.int .i64)) (.pair (.int .i64) .unit))) (.pair (.arr 32 (.int .u8)) .unit)) (.pair (.pair (.int .i64) (.pair (.int .u32) .unit)) (.pair (.int .i64) .unit))), (.pair (.int .i64) (.pair (.int .i64) (.pair (.int .i64) (.pair (.pair (.int .i64) (.pair (.int .i64) (.pair (.arr 32 (.int .u8)) (.pair (.pair (.int .i64) (.pair (.slice (.arr 32 (.int .u8))) (.pair (.slice (.arr 32 (.int .u8))) .unit))) .unit)))) .unit)))), (.slice (.int .u32))]
abbrev R_21 : List Ty := [(.pair (.pair (.pair (.slice (.int .u32)) (.pair (.slice (.int .i64)) (.pair (.int .i64) .unit))) (.pair (.arr 32 (.int .u8)) .unit)) (.pair (.pair (.int .i64) (.pair (.int .u32) .unit)) (.pair (.int .i64) .unit)))]
noncomputable def sm_21 : Nat → Option Summ := smL [(50, s_50), (51, s_51)]
noncomputable def F_21 (a0 : ((((List Int) × ((List Int) × (Int × Unit))) × ((List Int) × Unit)) × ((Int × (Int × Unit)) × (Int × Unit)))) (a1 : (Int × (Int × (Int × ((Int × (Int × ((List Int) × ((Int × ((List (List Int)) × ((List (List Int)) × Unit))) × Unit)))) × Unit))))) (a2 : (List Int)) : Option (((((List Int) × ((List Int) × (Int × Unit))) × ((List Int) × Unit)) × ((Int × (Int × Unit)) × (Int × Unit))) × Unit) :=
 gd (p_51 (a0.1) (a1.2.1)) (gd (p_50 a0 (wrap i64 (wrap i64 ((v_51 (a0.1) (a1.2.1)).1 + 564) + a1.2.2.1)) a2) (some ((v_50 a0 (wrap i64 (wrap i64 ((v_51 (a0.1) (a1.2.1)).1 + 564) + a1.2.2.1)) a2).1, PUnit.unit)))
noncomputable def Sp.p_21 (a0 : ((((List Int) × ((List Int) × (Int × Unit))) × ((List Int) × Unit)) × ((Int × (Int × Unit)) × (Int × Unit)))) (a1 : (Int × (Int × (Int × ((Int × (Int × ((List Int) × ((Int × ((List (List Int)) × ((List (List Int)) × Unit))) × Unit)))) × Unit))))) (a2 : (List Int)) : Bool := (F_21 a0 a1 a2).isSome
noncomputable def Sp.v_21 (a0 : ((((List Int) × ((List Int) × (Int × Unit))) × ((List Int) × Unit)) × ((Int × (Int × Unit)) × (Int × Unit)))) (a1 : (Int × (Int × (Int × ((Int × (Int × ((List Int) × ((Int × ((List (List Int)) × ((List (List Int)) × Unit))) × Unit)))) × Unit))))) (a2 : (List Int)) : ((((List Int) × ((List Int) × (Int × Unit))) × ((List Int) × Unit)) × ((Int × (Int × Unit)) × (Int × Unit))) × Unit := (F_21 a0 a1 a2).getD (dfH R_21)
noncomputable def s_21 : Summ := shS A_21 R_21 (fun x => p_21 x.1 x.2.1 x.2.2.1) (fun x => v_21 x.1 x.2.1 x.2.2.1)
theorem pv_21 (a0 : ((((List Int) × ((List Int) × (Int × Unit))) × ((List Int) × Unit)) × ((Int × (Int × Unit)) × (Int × Unit)))) (a1 : (Int × (Int × (Int × ((Int × (Int × ((List Int) × ((Int × ((List (List Int)) × ((List (List Int)) × Unit))) × Unit)))) × Unit))))) (a2 : (List Int)) {y : ((((List Int) × ((List Int) × (Int × Unit))) × ((List Int) × Unit)) × ((Int × (Int × Unit)) × (Int × Unit))) × Unit} (h : F_21 a0 a1 a2 = some y) : p_21 a0 a1 a2 = true ∧ v_21 a0 a1 a2 = y := pvG h
theorem run_21 (x : HDen A_21) (y : HDen R_21) (h : F_21 x.1 x.2.1 x.2.2.1 = some y) : rnF sm_21 1 21 A_21 R_21 x y := runG noO_ok (os := []) trivial (Eq.trans (by kernel_rfl) h)
end
noncomputable section
abbrev A_22 : List Ty := [(.pair (.int .i64) (.pair (.int .i64) (.pair (.int .i64) (.pair (.pair (.int .i64) (.pair (.int .i64) (.pair (.arr 32 (.int .u8)) (.pair (.pair (.int .i64) (.pair (.slice (.arr 32 (.int .u8))) (.pair (.slice (.arr 32 (.int .u8))) .unit))) .unit)))) .unit))))]
abbrev R_22 : List Ty := [(.pair (.int .i64) (.pair (.int .i64) (.pair (.int .i64) (.pair (.pair (.int .i64) (.pair (.int .i64) (.pair (.arr 32 (.int .u8)) (.pair (.pair (.int .i64) (.pair (.slice (.arr 32 (.int .u8))) (.pair (.slice (.arr 32 (.int .u8))) .unit))) .unit)))) .unit))))]
noncomputable def sm_22 : Nat → Option Summ := smL [(18, s_18)]
noncomputable def F_22 (a0 : (Int × (Int × (Int × ((Int × (Int × ((List Int) × ((Int × ((List (List Int)) × ((List (List Int)) × Unit))) × Unit)))) × Unit))))) : Option ((Int × (Int × (Int × ((Int × (Int × ((List Int) × ((Int × ((List (List Int)) × ((List (List Int)) × Unit))) × Unit)))) × Unit)))) × Unit) :=
 gd (p_18 a0) (bif wrap i64 (a0.2.2.1 + (v_18 a0).1) == a0.2.2.2.1.2.1 then some ((2, a0.2.1, wrap i64 (a0.2.2.1 + (v_18 a0).1), a0.2.2.2), PUnit.unit) else some ((a0.1, a0.2.1, wrap i64 (a0.2.2.1 + (v_18 a0).1), a0.2.2.2), PUnit.unit))
noncomputable def Sp.p_22 (a0 : (Int × (Int × (Int × ((Int × (Int × ((List Int) × ((Int × ((List (List Int)) × ((List (List Int)) × Unit))) × Unit)))) × Unit))))) : Bool := (F_22 a0).isSome
noncomputable def Sp.v_22 (a0 : (Int × (Int × (Int × ((Int × (Int × ((List Int) × ((Int × ((List (List Int)) × ((List (List Int)) × Unit))) × Unit)))) × Unit))))) : (Int × (Int × (Int × ((Int × (Int × ((List Int) × ((Int × ((List (List Int)) × ((List (List Int)) × Unit))) × Unit)))) × Unit)))) × Unit := (F_22 a0).getD (dfH R_22)
noncomputable def s_22 : Summ := shS A_22 R_22 (fun x => p_22 x.1) (fun x => v_22 x.1)
theorem pv_22 (a0 : (Int × (Int × (Int × ((Int × (Int × ((List Int) × ((Int × ((List (List Int)) × ((List (List Int)) × Unit))) × Unit)))) × Unit))))) {y : (Int × (Int × (Int × ((Int × (Int × ((List Int) × ((Int × ((List (List Int)) × ((List (List Int)) × Unit))) × Unit)))) × Unit)))) × Unit} (h : F_22 a0 = some y) : p_22 a0 = true ∧ v_22 a0 = y := pvG h
theorem run_22 (x : HDen A_22) (y : HDen R_22) (h : F_22 x.1 = some y) : rnF sm_22 1 22 A_22 R_22 x y := runG noO_ok (os := []) trivial (Eq.trans (by kernel_rfl) h)
end
noncomputable section
abbrev A_49 : List Ty := [(.pair (.int .i64) (.pair (.int .i64) (.pair (.int .i64) (.pair (.pair (.int .i64) (.pair (.int .i64) (.pair (.arr 32 (.int .u8)) (.pair (.pair (.int .i64) (.pair (.slice (.arr 32 (.int .u8))) (.pair (.slice (.arr 32 (.int .u8))) .unit))) .unit)))) .unit)))), (.pair (.int .i64) (.pair (.int .i64) (.pair (.int .i64) (.pair (.pair (.int .i64) (.pair (.int .i64) (.pair (.arr 32 (.int .u8)) (.pair (.pair (.int .i64) (.pair (.slice (.arr 32 (.int .u8))) (.pair (.slice (.arr 32 (.int .u8))) .unit))) .unit)))) .unit))))]
abbrev R_49 : List Ty := [.bool]
noncomputable def sm_49 : Nat → Option Summ := smL [(36, s_36)]
noncomputable def F_49 (a0 : (Int × (Int × (Int × ((Int × (Int × ((List Int) × ((Int × ((List (List Int)) × ((List (List Int)) × Unit))) × Unit)))) × Unit))))) (a1 : (Int × (Int × (Int × ((Int × (Int × ((List Int) × ((Int × ((List (List Int)) × ((List (List Int)) × Unit))) × Unit)))) × Unit))))) : Option (Bool × Unit) :=
 bif a0.1 == a1.1 then bif a0.2.1 == a1.2.1 then bif a0.2.2.1 == a1.2.2.1 then gd (p_36 (a0.2.2.2.1) (a1.2.2.2.1)) (some ((v_36 (a0.2.2.2.1) (a1.2.2.2.1)).1, PUnit.unit)) else some (false, PUnit.unit) else some (false, PUnit.unit) else some (false, PUnit.unit)
noncomputable def Sp.p_49 (a0 : (Int × (Int × (Int × ((Int × (Int × ((List Int) × ((Int × ((List (List Int)) × ((List (List Int)) × Unit))) × Unit)))) × Unit))))) (a1 : (Int × (Int × (Int × ((Int × (Int × ((List Int) × ((Int × ((List (List Int)) × ((List (List Int)) × Unit))) × Unit)))) × Unit))))) : Bool := (F_49 a0 a1).isSome
noncomputable def Sp.v_49 (a0 : (Int × (Int × (Int × ((Int × (Int × ((List Int) × ((Int × ((List (List Int)) × ((List (List Int)) × Unit))) × Unit)))) × Unit))))) (a1 : (Int × (Int × (Int × ((Int × (Int × ((List Int) × ((Int × ((List (List Int)) × ((List (List Int)) × Unit))) × Unit)))) × Unit))))) : Bool × Unit := (F_49 a0 a1).getD (dfH R_49)
noncomputable def s_49 : Summ := shN A_49 R_49 (fun x => p_49 x.1 x.2.1) (fun x => v_49 x.1 x.2.1)
theorem pv_49 (a0 : (Int × (Int × (Int × ((Int × (Int × ((List Int) × ((Int × ((List (List Int)) × ((List (List Int)) × Unit))) × Unit)))) × Unit))))) (a1 : (Int × (Int × (Int × ((Int × (Int × ((List Int) × ((Int × ((List (List Int)) × ((List (List Int)) × Unit))) × Unit)))) × Unit))))) {y : Bool × Unit} (h : F_49 a0 a1 = some y) : p_49 a0 a1 = true ∧ v_49 a0 a1 = y := pvG h
theorem run_49 (x : HDen A_49) (y : HDen R_49) (h : F_49 x.1 x.2.1 = some y) : rnF sm_49 1 49 A_49 R_49 x y := runG noO_ok (os := []) trivial (Eq.trans (by kernel_rfl) h)
end
noncomputable section
abbrev Zt4_0 : Type := Int × Int × Int × (Int × Int × List Int × (Int × List (List Int) × List (List Int) × Unit) × Unit) × Unit
abbrev Zy4_1 : Ty := (.pair (.int .i64) (.pair (.int .i64) (.pair (.int .i64) (.pair (.pair (.int .i64) (.pair (.int .i64) (.pair (.arr 32 (.int .u8)) (.pair (.pair (.int .i64) (.pair (.slice (.arr 32 (.int .u8))) (.pair (.slice (.arr 32 (.int .u8))) .unit))) .unit)))) .unit))))
abbrev Zt4_2 : Type := (List Int × List Int × Int × Unit) × List Int × Unit
abbrev Zt4_3 : Type := ((List Int × List Int × Int × Unit) × List Int × Unit) × (Int × Int × Unit) × Int × Unit
abbrev Zy4_4 : Ty := (.pair (.pair (.slice (.int .u32)) (.pair (.slice (.int .i64)) (.pair (.int .i64) .unit))) (.pair (.arr 32 (.int .u8)) .unit))
abbrev Zt4_5 : Type := Int × Int × Unit
abbrev Zy4_6 : Ty := (.pair (.pair (.pair (.slice (.int .u32)) (.pair (.slice (.int .i64)) (.pair (.int .i64) .unit))) (.pair (.arr 32 (.int .u8)) .unit)) (.pair (.pair (.int .i64) (.pair (.int .u32) .unit)) (.pair (.int .i64) .unit)))
abbrev Zy4_7 : Ty := (.pair (.int .i64) (.pair (.int .u32) .unit))
abbrev A_4 : List Ty := [(.pair (.int .i64) (.pair (.int .i64) (.pair (.int .i64) (.pair (.pair (.int .i64) (.pair (.int .i64) (.pair (.arr 32 (.int .u8)) (.pair (.pair (.int .i64) (.pair (.slice (.arr 32 (.int .u8))) (.pair (.slice (.arr 32 (.int .u8))) .unit))) .unit)))) .unit)))), (.pair (.pair (.slice (.int .u32)) (.pair (.slice (.int .i64)) (.pair (.int .i64) .unit))) (.pair (.arr 32 (.int .u8)) .unit)), (.int .i64), (.slice (.int .u32)), (.pair (.int .i64) (.pair (.int .u32) .unit))]
abbrev R_4 : List Ty := [.bool]
noncomputable def sm_4 : Nat → Option Summ := smL [(8, s_8), (9, s_9), (10, s_10), (15, s_15), (16, s_16), (17, s_17), (18, s_18), (21, s_21), (22, s_22), (32, s_32), (49, s_49)]
noncomputable def T_4_19_1_0 : PS := ⟨90, [(3, .hv (.int .i64)), (6, .kc (.ptr 7 [])), (7, .kc (.ptr 8 [])), (8, .kc (.ptr 9 [])), (13, .kc (.ptr 10 [])), (14, .kc (.ptr 11 []))], [.mem (.hv Zy4_1), .mem (.hv Zy4_4), .mem (.hv (.slice (.int .u32))), .mem (.hv Zy4_7), .mem (.hv Zy4_1), .mem (.hv Zy4_4), .mem (.hv Zy4_7), .mem (.hv Zy4_1), .mem (.hv Zy4_4), .mem (.hv Zy4_7), .mem (.hv Zy4_6), .mem (.pr (.hv (.int .i64)) (.pr (.hv (.int .i64)) (.pr (.hv (.int .i64)) (.pr (.pr (.hv (.int .i64)) (.pr (.hv (.int .i64)) (.pr (.hv (.arr 32 (.int .u8))) (.pr (.pr (.hv (.int .i64)) (.kc (.pair (.whole 12) (.pair (.whole 13) (.pure .unit PUnit.unit))))) (.kc (.pure .unit PUnit.unit)))))) (.kc (.pure .unit PUnit.unit)))))), .vec 23 (.arr 32 (.int .u8)), .vec 23 (.arr 32 (.int .u8))], 7⟩
inductive Sp.E_4_19_1_0 where
 | e0 (p1 : Zt4_0) (p2 : Zt4_2) (p3 : List Int) (p4 : Zt4_5) (p5 : Zt4_0) (p6 : Zt4_2) (p7 p10 : Zt4_5) (p11 : Zt4_3)
 | e1 (p1 : Zt4_0) (p2 : Zt4_2) (p3 : List Int) (p4 : Zt4_5) (p5 : Zt4_0) (p6 : Zt4_2) (p7 : Zt4_5)
noncomputable def Sp.B_4_19_1_0 {R : Type} (r : Option E_4_19_1_0) (k0 : Zt4_0 → Zt4_2 → List Int → Zt4_5 → Zt4_0 → Zt4_2 → Zt4_5 → Zt4_5 → Zt4_3 → Option R) (k1 : Zt4_0 → Zt4_2 → List Int → Zt4_5 → Zt4_0 → Zt4_2 → Zt4_5 → Option R) : Option R := match r with
 | none => none
 | some (.e0 p1 p2 p3 p4 p5 p6 p7 p10 p11) => k0 p1 p2 p3 p4 p5 p6 p7 p10 p11
 | some (.e1 p1 p2 p3 p4 p5 p6 p7) => k1 p1 p2 p3 p4 p5 p6 p7
theorem Bn_4_19_1_0 {A R : Type} {r : Option E_4_19_1_0} {f : A → Option R} {k0 : Zt4_0 → Zt4_2 → List Int → Zt4_5 → Zt4_0 → Zt4_2 → Zt4_5 → Zt4_5 → Zt4_3 → Option A} {k1 : Zt4_0 → Zt4_2 → List Int → Zt4_5 → Zt4_0 → Zt4_2 → Zt4_5 → Option A} {l0 : Zt4_0 → Zt4_2 → List Int → Zt4_5 → Zt4_0 → Zt4_2 → Zt4_5 → Zt4_5 → Zt4_3 → Option R} {l1 : Zt4_0 → Zt4_2 → List Int → Zt4_5 → Zt4_0 → Zt4_2 → Zt4_5 → Option R} (h0 : ∀ p1 p2 p3 p4 p5 p6 p7 p10 p11, (k0 p1 p2 p3 p4 p5 p6 p7 p10 p11).bind f = l0 p1 p2 p3 p4 p5 p6 p7 p10 p11) (h1 : ∀ p1 p2 p3 p4 p5 p6 p7, (k1 p1 p2 p3 p4 p5 p6 p7).bind f = l1 p1 p2 p3 p4 p5 p6 p7) : (B_4_19_1_0 r k0 k1).bind f = B_4_19_1_0 r l0 l1 := by
 cases r with
 | none => rfl
 | some e => cases e <;> first | apply h0 | apply h1
noncomputable def Y_4_19_1_0 {R : Type} (k : Ex → St → Option R) : E_4_19_1_0 → Option R
 | .e0 p1 p2 p3 p4 p5 p6 p7 p10 p11 => k Ex.ret (sx 90 [(12, CV.bool (Ty.beq (Ty.pair (Ty.int i64) (Ty.pair (Ty.int u32) Ty.unit)) p10 (p11.2.1)))] [Blk.mem (CV.pure (Ty.pair (Ty.int i64) (Ty.pair (Ty.int i64) (Ty.pair (Ty.int i64) (Ty.pair (Ty.pair (Ty.int i64) (Ty.pair (Ty.int i64) (Ty.pair (Ty.arr 32 (Ty.int u8)) (Ty.pair (Ty.pair (Ty.int i64) (Ty.pair (Ty.slice (Ty.arr 32 (Ty.int u8))) (Ty.pair (Ty.slice (Ty.arr 32 (Ty.int u8))) Ty.unit))) Ty.unit)))) Ty.unit)))) p1), Blk.mem (CV.pure (Ty.pair (Ty.pair (Ty.slice (Ty.int u32)) (Ty.pair (Ty.slice (Ty.int i64)) (Ty.pair (Ty.int i64) Ty.unit))) (Ty.pair (Ty.arr 32 (Ty.int u8)) Ty.unit)) p2), Blk.mem (CV.pure (Ty.slice (Ty.int u32)) p3), Blk.mem (CV.pure (Ty.pair (Ty.int i64) (Ty.pair (Ty.int u32) Ty.unit)) p4), Blk.mem (CV.pure (Ty.pair (Ty.int i64) (Ty.pair (Ty.int i64) (Ty.pair (Ty.int i64) (Ty.pair (Ty.pair (Ty.int i64) (Ty.pair (Ty.int i64) (Ty.pair (Ty.arr 32 (Ty.int u8)) (Ty.pair (Ty.pair (Ty.int i64) (Ty.pair (Ty.slice (Ty.arr 32 (Ty.int u8))) (Ty.pair (Ty.slice (Ty.arr 32 (Ty.int u8))) Ty.unit))) Ty.unit)))) Ty.unit)))) p5), Blk.mem (CV.pure (Ty.pair (Ty.pair (Ty.slice (Ty.int u32)) (Ty.pair (Ty.slice (Ty.int i64)) (Ty.pair (Ty.int i64) Ty.unit))) (Ty.pair (Ty.arr 32 (Ty.int u8)) Ty.unit)) p6), Blk.mem (CV.pure (Ty.pair (Ty.int i64) (Ty.pair (Ty.int u32) Ty.unit)) p7)] 7)
 | .e1 p1 p2 p3 p4 p5 p6 p7 => k Ex.ret (sx 90 [(12, CV.bool false)] [Blk.mem (CV.pure (Ty.pair (Ty.int i64) (Ty.pair (Ty.int i64) (Ty.pair (Ty.int i64) (Ty.pair (Ty.pair (Ty.int i64) (Ty.pair (Ty.int i64) (Ty.pair (Ty.arr 32 (Ty.int u8)) (Ty.pair (Ty.pair (Ty.int i64) (Ty.pair (Ty.slice (Ty.arr 32 (Ty.int u8))) (Ty.pair (Ty.slice (Ty.arr 32 (Ty.int u8))) Ty.unit))) Ty.unit)))) Ty.unit)))) p1), Blk.mem (CV.pure (Ty.pair (Ty.pair (Ty.slice (Ty.int u32)) (Ty.pair (Ty.slice (Ty.int i64)) (Ty.pair (Ty.int i64) Ty.unit))) (Ty.pair (Ty.arr 32 (Ty.int u8)) Ty.unit)) p2), Blk.mem (CV.pure (Ty.slice (Ty.int u32)) p3), Blk.mem (CV.pure (Ty.pair (Ty.int i64) (Ty.pair (Ty.int u32) Ty.unit)) p4), Blk.mem (CV.pure (Ty.pair (Ty.int i64) (Ty.pair (Ty.int i64) (Ty.pair (Ty.int i64) (Ty.pair (Ty.pair (Ty.int i64) (Ty.pair (Ty.int i64) (Ty.pair (Ty.arr 32 (Ty.int u8)) (Ty.pair (Ty.pair (Ty.int i64) (Ty.pair (Ty.slice (Ty.arr 32 (Ty.int u8))) (Ty.pair (Ty.slice (Ty.arr 32 (Ty.int u8))) Ty.unit))) Ty.unit)))) Ty.unit)))) p5), Blk.mem (CV.pure (Ty.pair (Ty.pair (Ty.slice (Ty.int u32)) (Ty.pair (Ty.slice (Ty.int i64)) (Ty.pair (Ty.int i64) Ty.unit))) (Ty.pair (Ty.arr 32 (Ty.int u8)) Ty.unit)) p6), Blk.mem (CV.pure (Ty.pair (Ty.int i64) (Ty.pair (Ty.int u32) Ty.unit)) p7)] 7)
noncomputable def Sp.S_4_19_1_0 {R : Type} (k : E_4_19_1_0 → Option R) (p0 : Int) (p1 : Int × Int × Int × (Int × Int × List Int × (Int × List (List Int) × List (List Int) × Unit) × Unit) × Unit) (p2 : (List Int × List Int × Int × Unit) × List Int × Unit) (p3 : List Int) (p4 : Int × Int × Unit) (p5 : Int × Int × Int × (Int × Int × List Int × (Int × List (List Int) × List (List Int) × Unit) × Unit) × Unit) (p6 : (List Int × List Int × Int × Unit) × List Int × Unit) (p7 : Int × Int × Unit) (p8 : Int × Int × Int × (Int × Int × List Int × (Int × List (List Int) × List (List Int) × Unit) × Unit) × Unit) (p9 : (List Int × List Int × Int × Unit) × List Int × Unit) (p10 : Int × Int × Unit) (p11 : ((List Int × List Int × Int × Unit) × List Int × Unit) × (Int × Int × Unit) × Int × Unit) (p12 p13 p14 p15 p16 : Int) (p17 : List Int) (p18 : Int) (p19 p20 : List (List Int)) : Option R :=
 bif p0 == p11.2.2.1 then gd (p_49 p8 (p12, p13, p14, (p15, p16, p17, (p18, p19, p20, PUnit.unit), PUnit.unit), PUnit.unit)) (bif (v_49 p8 (p12, p13, p14, (p15, p16, p17, (p18, p19, p20, PUnit.unit), PUnit.unit), PUnit.unit)).1 then gd (p_32 p9 (p11.1)) (bif (v_32 p9 (p11.1)).1 then k (E_4_19_1_0.e0 p1 p2 p3 p4 p5 p6 p7 p10 p11) else k (E_4_19_1_0.e1 p1 p2 p3 p4 p5 p6 p7)) else k (E_4_19_1_0.e1 p1 p2 p3 p4 p5 p6 p7)) else k (E_4_19_1_0.e1 p1 p2 p3 p4 p5 p6 p7)
noncomputable def Sp.J_4_19_1_0 (p0 : Int) (p1 : Int × Int × Int × (Int × Int × List Int × (Int × List (List Int) × List (List Int) × Unit) × Unit) × Unit) (p2 : (List Int × List Int × Int × Unit) × List Int × Unit) (p3 : List Int) (p4 : Int × Int × Unit) (p5 : Int × Int × Int × (Int × Int × List Int × (Int × List (List Int) × List (List Int) × Unit) × Unit) × Unit) (p6 : (List Int × List Int × Int × Unit) × List Int × Unit) (p7 : Int × Int × Unit) (p8 : Int × Int × Int × (Int × Int × List Int × (Int × List (List Int) × List (List Int) × Unit) × Unit) × Unit) (p9 : (List Int × List Int × Int × Unit) × List Int × Unit) (p10 : Int × Int × Unit) (p11 : ((List Int × List Int × Int × Unit) × List Int × Unit) × (Int × Int × Unit) × Int × Unit) (p12 p13 p14 p15 p16 : Int) (p17 : List Int) (p18 : Int) (p19 p20 : List (List Int)) : Option E_4_19_1_0 := S_4_19_1_0 some p0 p1 p2 p3 p4 p5 p6 p7 p8 p9 p10 p11 p12 p13 p14 p15 p16 p17 p18 p19 p20
noncomputable def O_4_19_1_0 {R : Type} : Orc R := orL T_4_19_1_0 (fun a => J_4_19_1_0 a.1 a.2.1 a.2.2.1 a.2.2.2.1 a.2.2.2.2.1 a.2.2.2.2.2.1 a.2.2.2.2.2.2.1 a.2.2.2.2.2.2.2.1 a.2.2.2.2.2.2.2.2.1 a.2.2.2.2.2.2.2.2.2.1 a.2.2.2.2.2.2.2.2.2.2.1 a.2.2.2.2.2.2.2.2.2.2.2.1 a.2.2.2.2.2.2.2.2.2.2.2.2.1 a.2.2.2.2.2.2.2.2.2.2.2.2.2.1 a.2.2.2.2.2.2.2.2.2.2.2.2.2.2.1 a.2.2.2.2.2.2.2.2.2.2.2.2.2.2.2.1 a.2.2.2.2.2.2.2.2.2.2.2.2.2.2.2.2.1 a.2.2.2.2.2.2.2.2.2.2.2.2.2.2.2.2.2.1 a.2.2.2.2.2.2.2.2.2.2.2.2.2.2.2.2.2.2.1 a.2.2.2.2.2.2.2.2.2.2.2.2.2.2.2.2.2.2.2.1 a.2.2.2.2.2.2.2.2.2.2.2.2.2.2.2.2.2.2.2.2.1) Y_4_19_1_0
theorem OK_4_19_1_0 {R : Type} : okF (R := R) sm_4 1 (ni (nf 19 0) 0) O_4_19_1_0 := jp noO_ok (os := []) trivial T_4_19_1_0 (fun R k a => S_4_19_1_0 k a.1 a.2.1 a.2.2.1 a.2.2.2.1 a.2.2.2.2.1 a.2.2.2.2.2.1 a.2.2.2.2.2.2.1 a.2.2.2.2.2.2.2.1 a.2.2.2.2.2.2.2.2.1 a.2.2.2.2.2.2.2.2.2.1 a.2.2.2.2.2.2.2.2.2.2.1 a.2.2.2.2.2.2.2.2.2.2.2.1 a.2.2.2.2.2.2.2.2.2.2.2.2.1 a.2.2.2.2.2.2.2.2.2.2.2.2.2.1 a.2.2.2.2.2.2.2.2.2.2.2.2.2.2.1 a.2.2.2.2.2.2.2.2.2.2.2.2.2.2.2.1 a.2.2.2.2.2.2.2.2.2.2.2.2.2.2.2.2.1 a.2.2.2.2.2.2.2.2.2.2.2.2.2.2.2.2.2.1 a.2.2.2.2.2.2.2.2.2.2.2.2.2.2.2.2.2.2.1 a.2.2.2.2.2.2.2.2.2.2.2.2.2.2.2.2.2.2.2.1 a.2.2.2.2.2.2.2.2.2.2.2.2.2.2.2.2.2.2.2.2.1) Y_4_19_1_0 (fun k a => by kernel_rfl) (fun Y a => by
 unfold S_4_19_1_0
 repeat' first | apply gdN | apply condN | rfl) (ok0 _)
noncomputable def T_4_19_1_1 : PS := ⟨90, [(3, .hv (.int .i64)), (6, .kc (.ptr 7 [])), (7, .kc (.ptr 8 [])), (8, .kc (.ptr 9 [])), (13, .kc (.ptr 10 [])), (14, .kc (.ptr 11 []))], [.mem (.hv Zy4_1), .mem (.hv Zy4_4), .mem (.hv (.slice (.int .u32))), .mem (.hv Zy4_7), .mem (.hv Zy4_1), .mem (.hv Zy4_4), .mem (.hv Zy4_7), .mem (.hv Zy4_1), .mem (.hv Zy4_4), .mem (.hv Zy4_7), .mem (.hv Zy4_6), .mem (.hv Zy4_1)], 7⟩
inductive Sp.E_4_19_1_1 where
 | e0 (p1 : Zt4_0) (p2 : Zt4_2) (p3 : List Int) (p4 : Zt4_5) (p5 : Zt4_0) (p6 : Zt4_2) (p7 p10 : Zt4_5) (p11 : Zt4_3)
 | e1 (p1 : Zt4_0) (p2 : Zt4_2) (p3 : List Int) (p4 : Zt4_5) (p5 : Zt4_0) (p6 : Zt4_2) (p7 : Zt4_5)
noncomputable def Sp.B_4_19_1_1 {R : Type} (r : Option E_4_19_1_1) (k0 : Zt4_0 → Zt4_2 → List Int → Zt4_5 → Zt4_0 → Zt4_2 → Zt4_5 → Zt4_5 → Zt4_3 → Option R) (k1 : Zt4_0 → Zt4_2 → List Int → Zt4_5 → Zt4_0 → Zt4_2 → Zt4_5 → Option R) : Option R := match r with
 | none => none
 | some (.e0 p1 p2 p3 p4 p5 p6 p7 p10 p11) => k0 p1 p2 p3 p4 p5 p6 p7 p10 p11
 | some (.e1 p1 p2 p3 p4 p5 p6 p7) => k1 p1 p2 p3 p4 p5 p6 p7
theorem Bn_4_19_1_1 {A R : Type} {r : Option E_4_19_1_1} {f : A → Option R} {k0 : Zt4_0 → Zt4_2 → List Int → Zt4_5 → Zt4_0 → Zt4_2 → Zt4_5 → Zt4_5 → Zt4_3 → Option A} {k1 : Zt4_0 → Zt4_2 → List Int → Zt4_5 → Zt4_0 → Zt4_2 → Zt4_5 → Option A} {l0 : Zt4_0 → Zt4_2 → List Int → Zt4_5 → Zt4_0 → Zt4_2 → Zt4_5 → Zt4_5 → Zt4_3 → Option R} {l1 : Zt4_0 → Zt4_2 → List Int → Zt4_5 → Zt4_0 → Zt4_2 → Zt4_5 → Option R} (h0 : ∀ p1 p2 p3 p4 p5 p6 p7 p10 p11, (k0 p1 p2 p3 p4 p5 p6 p7 p10 p11).bind f = l0 p1 p2 p3 p4 p5 p6 p7 p10 p11) (h1 : ∀ p1 p2 p3 p4 p5 p6 p7, (k1 p1 p2 p3 p4 p5 p6 p7).bind f = l1 p1 p2 p3 p4 p5 p6 p7) : (B_4_19_1_1 r k0 k1).bind f = B_4_19_1_1 r l0 l1 := by
 cases r with
 | none => rfl
 | some e => cases e <;> first | apply h0 | apply h1
noncomputable def Y_4_19_1_1 {R : Type} (k : Ex → St → Option R) : E_4_19_1_1 → Option R
 | .e0 p1 p2 p3 p4 p5 p6 p7 p10 p11 => k Ex.ret (sx 90 [(12, CV.bool (Ty.beq (Ty.pair (Ty.int i64) (Ty.pair (Ty.int u32) Ty.unit)) p10 (p11.2.1)))] [Blk.mem (CV.pure (Ty.pair (Ty.int i64) (Ty.pair (Ty.int i64) (Ty.pair (Ty.int i64) (Ty.pair (Ty.pair (Ty.int i64) (Ty.pair (Ty.int i64) (Ty.pair (Ty.arr 32 (Ty.int u8)) (Ty.pair (Ty.pair (Ty.int i64) (Ty.pair (Ty.slice (Ty.arr 32 (Ty.int u8))) (Ty.pair (Ty.slice (Ty.arr 32 (Ty.int u8))) Ty.unit))) Ty.unit)))) Ty.unit)))) p1), Blk.mem (CV.pure (Ty.pair (Ty.pair (Ty.slice (Ty.int u32)) (Ty.pair (Ty.slice (Ty.int i64)) (Ty.pair (Ty.int i64) Ty.unit))) (Ty.pair (Ty.arr 32 (Ty.int u8)) Ty.unit)) p2), Blk.mem (CV.pure (Ty.slice (Ty.int u32)) p3), Blk.mem (CV.pure (Ty.pair (Ty.int i64) (Ty.pair (Ty.int u32) Ty.unit)) p4), Blk.mem (CV.pure (Ty.pair (Ty.int i64) (Ty.pair (Ty.int i64) (Ty.pair (Ty.int i64) (Ty.pair (Ty.pair (Ty.int i64) (Ty.pair (Ty.int i64) (Ty.pair (Ty.arr 32 (Ty.int u8)) (Ty.pair (Ty.pair (Ty.int i64) (Ty.pair (Ty.slice (Ty.arr 32 (Ty.int u8))) (Ty.pair (Ty.slice (Ty.arr 32 (Ty.int u8))) Ty.unit))) Ty.unit)))) Ty.unit)))) p5), Blk.mem (CV.pure (Ty.pair (Ty.pair (Ty.slice (Ty.int u32)) (Ty.pair (Ty.slice (Ty.int i64)) (Ty.pair (Ty.int i64) Ty.unit))) (Ty.pair (Ty.arr 32 (Ty.int u8)) Ty.unit)) p6), Blk.mem (CV.pure (Ty.pair (Ty.int i64) (Ty.pair (Ty.int u32) Ty.unit)) p7)] 7)
 | .e1 p1 p2 p3 p4 p5 p6 p7 => k Ex.ret (sx 90 [(12, CV.bool false)] [Blk.mem (CV.pure (Ty.pair (Ty.int i64) (Ty.pair (Ty.int i64) (Ty.pair (Ty.int i64) (Ty.pair (Ty.pair (Ty.int i64) (Ty.pair (Ty.int i64) (Ty.pair (Ty.arr 32 (Ty.int u8)) (Ty.pair (Ty.pair (Ty.int i64) (Ty.pair (Ty.slice (Ty.arr 32 (Ty.int u8))) (Ty.pair (Ty.slice (Ty.arr 32 (Ty.int u8))) Ty.unit))) Ty.unit)))) Ty.unit)))) p1), Blk.mem (CV.pure (Ty.pair (Ty.pair (Ty.slice (Ty.int u32)) (Ty.pair (Ty.slice (Ty.int i64)) (Ty.pair (Ty.int i64) Ty.unit))) (Ty.pair (Ty.arr 32 (Ty.int u8)) Ty.unit)) p2), Blk.mem (CV.pure (Ty.slice (Ty.int u32)) p3), Blk.mem (CV.pure (Ty.pair (Ty.int i64) (Ty.pair (Ty.int u32) Ty.unit)) p4), Blk.mem (CV.pure (Ty.pair (Ty.int i64) (Ty.pair (Ty.int i64) (Ty.pair (Ty.int i64) (Ty.pair (Ty.pair (Ty.int i64) (Ty.pair (Ty.int i64) (Ty.pair (Ty.arr 32 (Ty.int u8)) (Ty.pair (Ty.pair (Ty.int i64) (Ty.pair (Ty.slice (Ty.arr 32 (Ty.int u8))) (Ty.pair (Ty.slice (Ty.arr 32 (Ty.int u8))) Ty.unit))) Ty.unit)))) Ty.unit)))) p5), Blk.mem (CV.pure (Ty.pair (Ty.pair (Ty.slice (Ty.int u32)) (Ty.pair (Ty.slice (Ty.int i64)) (Ty.pair (Ty.int i64) Ty.unit))) (Ty.pair (Ty.arr 32 (Ty.int u8)) Ty.unit)) p6), Blk.mem (CV.pure (Ty.pair (Ty.int i64) (Ty.pair (Ty.int u32) Ty.unit)) p7)] 7)
noncomputable def Sp.S_4_19_1_1 {R : Type} (k : E_4_19_1_1 → Option R) (p0 : Int) (p1 : Int × Int × Int × (Int × Int × List Int × (Int × List (List Int) × List (List Int) × Unit) × Unit) × Unit) (p2 : (List Int × List Int × Int × Unit) × List Int × Unit) (p3 : List Int) (p4 : Int × Int × Unit) (p5 : Int × Int × Int × (Int × Int × List Int × (Int × List (List Int) × List (List Int) × Unit) × Unit) × Unit) (p6 : (List Int × List Int × Int × Unit) × List Int × Unit) (p7 : Int × Int × Unit) (p8 : Int × Int × Int × (Int × Int × List Int × (Int × List (List Int) × List (List Int) × Unit) × Unit) × Unit) (p9 : (List Int × List Int × Int × Unit) × List Int × Unit) (p10 : Int × Int × Unit) (p11 : ((List Int × List Int × Int × Unit) × List Int × Unit) × (Int × Int × Unit) × Int × Unit) (p12 : Int × Int × Int × (Int × Int × List Int × (Int × List (List Int) × List (List Int) × Unit) × Unit) × Unit) : Option R :=
 bif p0 == p11.2.2.1 then gd (p_49 p8 p12) (bif (v_49 p8 p12).1 then gd (p_32 p9 (p11.1)) (bif (v_32 p9 (p11.1)).1 then k (E_4_19_1_1.e0 p1 p2 p3 p4 p5 p6 p7 p10 p11) else k (E_4_19_1_1.e1 p1 p2 p3 p4 p5 p6 p7)) else k (E_4_19_1_1.e1 p1 p2 p3 p4 p5 p6 p7)) else k (E_4_19_1_1.e1 p1 p2 p3 p4 p5 p6 p7)
noncomputable def Sp.J_4_19_1_1 (p0 : Int) (p1 : Int × Int × Int × (Int × Int × List Int × (Int × List (List Int) × List (List Int) × Unit) × Unit) × Unit) (p2 : (List Int × List Int × Int × Unit) × List Int × Unit) (p3 : List Int) (p4 : Int × Int × Unit) (p5 : Int × Int × Int × (Int × Int × List Int × (Int × List (List Int) × List (List Int) × Unit) × Unit) × Unit) (p6 : (List Int × List Int × Int × Unit) × List Int × Unit) (p7 : Int × Int × Unit) (p8 : Int × Int × Int × (Int × Int × List Int × (Int × List (List Int) × List (List Int) × Unit) × Unit) × Unit) (p9 : (List Int × List Int × Int × Unit) × List Int × Unit) (p10 : Int × Int × Unit) (p11 : ((List Int × List Int × Int × Unit) × List Int × Unit) × (Int × Int × Unit) × Int × Unit) (p12 : Int × Int × Int × (Int × Int × List Int × (Int × List (List Int) × List (List Int) × Unit) × Unit) × Unit) : Option E_4_19_1_1 := S_4_19_1_1 some p0 p1 p2 p3 p4 p5 p6 p7 p8 p9 p10 p11 p12
noncomputable def O_4_19_1_1 {R : Type} : Orc R := orL T_4_19_1_1 (fun a => J_4_19_1_1 a.1 a.2.1 a.2.2.1 a.2.2.2.1 a.2.2.2.2.1 a.2.2.2.2.2.1 a.2.2.2.2.2.2.1 a.2.2.2.2.2.2.2.1 a.2.2.2.2.2.2.2.2.1 a.2.2.2.2.2.2.2.2.2.1 a.2.2.2.2.2.2.2.2.2.2.1 a.2.2.2.2.2.2.2.2.2.2.2.1 a.2.2.2.2.2.2.2.2.2.2.2.2.1) Y_4_19_1_1 O_4_19_1_0
theorem OK_4_19_1_1 {R : Type} : okF (R := R) sm_4 1 (ni (nf 19 0) 0) O_4_19_1_1 := jp noO_ok (os := []) trivial T_4_19_1_1 (fun R k a => S_4_19_1_1 k a.1 a.2.1 a.2.2.1 a.2.2.2.1 a.2.2.2.2.1 a.2.2.2.2.2.1 a.2.2.2.2.2.2.1 a.2.2.2.2.2.2.2.1 a.2.2.2.2.2.2.2.2.1 a.2.2.2.2.2.2.2.2.2.1 a.2.2.2.2.2.2.2.2.2.2.1 a.2.2.2.2.2.2.2.2.2.2.2.1 a.2.2.2.2.2.2.2.2.2.2.2.2.1) Y_4_19_1_1 (fun k a => by kernel_rfl) (fun Y a => by
 unfold S_4_19_1_1
 repeat' first | apply gdN | apply condN | rfl) OK_4_19_1_0
noncomputable def T_4_19_0_0 : PS := ⟨90, [(3, .hv (.int .i64)), (6, .kc (.ptr 7 [])), (7, .kc (.ptr 8 [])), (8, .kc (.ptr 9 [])), (13, .kc (.ptr 10 [])), (14, .kc (.ptr 11 []))], [.mem (.hv Zy4_1), .mem (.hv Zy4_4), .mem (.hv (.slice (.int .u32))), .mem (.hv Zy4_7), .mem (.hv Zy4_1), .mem (.hv Zy4_4), .mem (.hv Zy4_7), .mem (.hv Zy4_1), .mem (.hv Zy4_4), .mem (.hv Zy4_7), .mem (.hv Zy4_6), .mem (.hv Zy4_1)], 7⟩
inductive Sp.E_4_19_0_0 where
 | e0 (y32 : Zt4_0) (y33 : Zt4_2) (y34 : List Int) (y35 : Zt4_5) (y36 : Zt4_0) (y37 : Zt4_2) (y38 y39 : Zt4_5) (y40 : Zt4_3)
 | e1 (y41 : Zt4_0) (y42 : Zt4_2) (y43 : List Int) (y44 : Zt4_5) (y45 : Zt4_0) (y46 : Zt4_2) (y47 : Zt4_5)
noncomputable def Sp.B_4_19_0_0 {R : Type} (r : Option E_4_19_0_0) (k0 : Zt4_0 → Zt4_2 → List Int → Zt4_5 → Zt4_0 → Zt4_2 → Zt4_5 → Zt4_5 → Zt4_3 → Option R) (k1 : Zt4_0 → Zt4_2 → List Int → Zt4_5 → Zt4_0 → Zt4_2 → Zt4_5 → Option R) : Option R := match r with
 | none => none
 | some (.e0 y32 y33 y34 y35 y36 y37 y38 y39 y40) => k0 y32 y33 y34 y35 y36 y37 y38 y39 y40
 | some (.e1 y41 y42 y43 y44 y45 y46 y47) => k1 y41 y42 y43 y44 y45 y46 y47
theorem Bn_4_19_0_0 {A R : Type} {r : Option E_4_19_0_0} {f : A → Option R} {k0 : Zt4_0 → Zt4_2 → List Int → Zt4_5 → Zt4_0 → Zt4_2 → Zt4_5 → Zt4_5 → Zt4_3 → Option A} {k1 : Zt4_0 → Zt4_2 → List Int → Zt4_5 → Zt4_0 → Zt4_2 → Zt4_5 → Option A} {l0 : Zt4_0 → Zt4_2 → List Int → Zt4_5 → Zt4_0 → Zt4_2 → Zt4_5 → Zt4_5 → Zt4_3 → Option R} {l1 : Zt4_0 → Zt4_2 → List Int → Zt4_5 → Zt4_0 → Zt4_2 → Zt4_5 → Option R} (h0 : ∀ y32 y33 y34 y35 y36 y37 y38 y39 y40, (k0 y32 y33 y34 y35 y36 y37 y38 y39 y40).bind f = l0 y32 y33 y34 y35 y36 y37 y38 y39 y40) (h1 : ∀ y41 y42 y43 y44 y45 y46 y47, (k1 y41 y42 y43 y44 y45 y46 y47).bind f = l1 y41 y42 y43 y44 y45 y46 y47) : (B_4_19_0_0 r k0 k1).bind f = B_4_19_0_0 r l0 l1 := by
 cases r with
 | none => rfl
 | some e => cases e <;> first | apply h0 | apply h1
noncomputable def Y_4_19_0_0 {R : Type} (k : Ex → St → Option R) : E_4_19_0_0 → Option R
 | .e0 y32 y33 y34 y35 y36 y37 y38 y39 y40 => k Ex.ret (sx 90 [(12, CV.bool (Ty.beq (Ty.pair (Ty.int i64) (Ty.pair (Ty.int u32) Ty.unit)) y39 (y40.2.1)))] [Blk.mem (CV.pure (Ty.pair (Ty.int i64) (Ty.pair (Ty.int i64) (Ty.pair (Ty.int i64) (Ty.pair (Ty.pair (Ty.int i64) (Ty.pair (Ty.int i64) (Ty.pair (Ty.arr 32 (Ty.int u8)) (Ty.pair (Ty.pair (Ty.int i64) (Ty.pair (Ty.slice (Ty.arr 32 (Ty.int u8))) (Ty.pair (Ty.slice (Ty.arr 32 (Ty.int u8))) Ty.unit))) Ty.unit)))) Ty.unit)))) y32), Blk.mem (CV.pure (Ty.pair (Ty.pair (Ty.slice (Ty.int u32)) (Ty.pair (Ty.slice (Ty.int i64)) (Ty.pair (Ty.int i64) Ty.unit))) (Ty.pair (Ty.arr 32 (Ty.int u8)) Ty.unit)) y33), Blk.mem (CV.pure (Ty.slice (Ty.int u32)) y34), Blk.mem (CV.pure (Ty.pair (Ty.int i64) (Ty.pair (Ty.int u32) Ty.unit)) y35), Blk.mem (CV.pure (Ty.pair (Ty.int i64) (Ty.pair (Ty.int i64) (Ty.pair (Ty.int i64) (Ty.pair (Ty.pair (Ty.int i64) (Ty.pair (Ty.int i64) (Ty.pair (Ty.arr 32 (Ty.int u8)) (Ty.pair (Ty.pair (Ty.int i64) (Ty.pair (Ty.slice (Ty.arr 32 (Ty.int u8))) (Ty.pair (Ty.slice (Ty.arr 32 (Ty.int u8))) Ty.unit))) Ty.unit)))) Ty.unit)))) y36), Blk.mem (CV.pure (Ty.pair (Ty.pair (Ty.slice (Ty.int u32)) (Ty.pair (Ty.slice (Ty.int i64)) (Ty.pair (Ty.int i64) Ty.unit))) (Ty.pair (Ty.arr 32 (Ty.int u8)) Ty.unit)) y37), Blk.mem (CV.pure (Ty.pair (Ty.int i64) (Ty.pair (Ty.int u32) Ty.unit)) y38)] 7)
 | .e1 y41 y42 y43 y44 y45 y46 y47 => k Ex.ret (sx 90 [(12, CV.bool false)] [Blk.mem (CV.pure (Ty.pair (Ty.int i64) (Ty.pair (Ty.int i64) (Ty.pair (Ty.int i64) (Ty.pair (Ty.pair (Ty.int i64) (Ty.pair (Ty.int i64) (Ty.pair (Ty.arr 32 (Ty.int u8)) (Ty.pair (Ty.pair (Ty.int i64) (Ty.pair (Ty.slice (Ty.arr 32 (Ty.int u8))) (Ty.pair (Ty.slice (Ty.arr 32 (Ty.int u8))) Ty.unit))) Ty.unit)))) Ty.unit)))) y41), Blk.mem (CV.pure (Ty.pair (Ty.pair (Ty.slice (Ty.int u32)) (Ty.pair (Ty.slice (Ty.int i64)) (Ty.pair (Ty.int i64) Ty.unit))) (Ty.pair (Ty.arr 32 (Ty.int u8)) Ty.unit)) y42), Blk.mem (CV.pure (Ty.slice (Ty.int u32)) y43), Blk.mem (CV.pure (Ty.pair (Ty.int i64) (Ty.pair (Ty.int u32) Ty.unit)) y44), Blk.mem (CV.pure (Ty.pair (Ty.int i64) (Ty.pair (Ty.int i64) (Ty.pair (Ty.int i64) (Ty.pair (Ty.pair (Ty.int i64) (Ty.pair (Ty.int i64) (Ty.pair (Ty.arr 32 (Ty.int u8)) (Ty.pair (Ty.pair (Ty.int i64) (Ty.pair (Ty.slice (Ty.arr 32 (Ty.int u8))) (Ty.pair (Ty.slice (Ty.arr 32 (Ty.int u8))) Ty.unit))) Ty.unit)))) Ty.unit)))) y45), Blk.mem (CV.pure (Ty.pair (Ty.pair (Ty.slice (Ty.int u32)) (Ty.pair (Ty.slice (Ty.int i64)) (Ty.pair (Ty.int i64) Ty.unit))) (Ty.pair (Ty.arr 32 (Ty.int u8)) Ty.unit)) y46), Blk.mem (CV.pure (Ty.pair (Ty.int i64) (Ty.pair (Ty.int u32) Ty.unit)) y47)] 7)
noncomputable def Sp.S_4_19_0_0 {R : Type} (k : E_4_19_0_0 → Option R) (p0 : Int) (p1 : Int × Int × Int × (Int × Int × List Int × (Int × List (List Int) × List (List Int) × Unit) × Unit) × Unit) (p2 : (List Int × List Int × Int × Unit) × List Int × Unit) (p3 : List Int) (p4 : Int × Int × Unit) (p5 : Int × Int × Int × (Int × Int × List Int × (Int × List (List Int) × List (List Int) × Unit) × Unit) × Unit) (p6 : (List Int × List Int × Int × Unit) × List Int × Unit) (p7 : Int × Int × Unit) (p8 : Int × Int × Int × (Int × Int × List Int × (Int × List (List Int) × List (List Int) × Unit) × Unit) × Unit) (p9 : (List Int × List Int × Int × Unit) × List Int × Unit) (p10 : Int × Int × Unit) (p11 : ((List Int × List Int × Int × Unit) × List Int × Unit) × (Int × Int × Unit) × Int × Unit) (p12 : Int × Int × Int × (Int × Int × List Int × (Int × List (List Int) × List (List Int) × Unit) × Unit) × Unit) : Option R :=
 bif p11.2.2.1 != 0 then B_4_19_1_0 (J_4_19_1_0 p0 p1 p2 p3 p4 p5 p6 p7 p8 p9 p10 p11 0 0 0 0 0 (replicate 32 (0 :Int)) 0 [] []) (fun y32 y33 y34 y35 y36 y37 y38 y39 y40 => k (E_4_19_0_0.e0 y32 y33 y34 y35 y36 y37 y38 y39 y40)) fun y41 y42 y43 y44 y45 y46 y47 => k (E_4_19_0_0.e1 y41 y42 y43 y44 y45 y46 y47) else B_4_19_1_1 (J_4_19_1_1 p0 p1 p2 p3 p4 p5 p6 p7 p8 p9 p10 p11 p12) (fun y48 y49 y50 y51 y52 y53 y54 y55 y56 => k (E_4_19_0_0.e0 y48 y49 y50 y51 y52 y53 y54 y55 y56)) fun y57 y58 y59 y60 y61 y62 y63 => k (E_4_19_0_0.e1 y57 y58 y59 y60 y61 y62 y63)
noncomputable def Sp.J_4_19_0_0 (p0 : Int) (p1 : Int × Int × Int × (Int × Int × List Int × (Int × List (List Int) × List (List Int) × Unit) × Unit) × Unit) (p2 : (List Int × List Int × Int × Unit) × List Int × Unit) (p3 : List Int) (p4 : Int × Int × Unit) (p5 : Int × Int × Int × (Int × Int × List Int × (Int × List (List Int) × List (List Int) × Unit) × Unit) × Unit) (p6 : (List Int × List Int × Int × Unit) × List Int × Unit) (p7 : Int × Int × Unit) (p8 : Int × Int × Int × (Int × Int × List Int × (Int × List (List Int) × List (List Int) × Unit) × Unit) × Unit) (p9 : (List Int × List Int × Int × Unit) × List Int × Unit) (p10 : Int × Int × Unit) (p11 : ((List Int × List Int × Int × Unit) × List Int × Unit) × (Int × Int × Unit) × Int × Unit) (p12 : Int × Int × Int × (Int × Int × List Int × (Int × List (List Int) × List (List Int) × Unit) × Unit) × Unit) : Option E_4_19_0_0 := S_4_19_0_0 some p0 p1 p2 p3 p4 p5 p6 p7 p8 p9 p10 p11 p12
noncomputable def O_4_19_0_0 {R : Type} : Orc R := orL T_4_19_0_0 (fun a => J_4_19_0_0 a.1 a.2.1 a.2.2.1 a.2.2.2.1 a.2.2.2.2.1 a.2.2.2.2.2.1 a.2.2.2.2.2.2.1 a.2.2.2.2.2.2.2.1 a.2.2.2.2.2.2.2.2.1 a.2.2.2.2.2.2.2.2.2.1 a.2.2.2.2.2.2.2.2.2.2.1 a.2.2.2.2.2.2.2.2.2.2.2.1 a.2.2.2.2.2.2.2.2.2.2.2.2.1) Y_4_19_0_0
theorem OK_4_19_0_0 {R : Type} : okF (R := R) sm_4 1 (nf 19 0) O_4_19_0_0 := jp noO_ok (os := [O_4_19_1_1]) ⟨OK_4_19_1_1, trivial⟩ T_4_19_0_0 (fun R k a => S_4_19_0_0 k a.1 a.2.1 a.2.2.1 a.2.2.2.1 a.2.2.2.2.1 a.2.2.2.2.2.1 a.2.2.2.2.2.2.1 a.2.2.2.2.2.2.2.1 a.2.2.2.2.2.2.2.2.1 a.2.2.2.2.2.2.2.2.2.1 a.2.2.2.2.2.2.2.2.2.2.1 a.2.2.2.2.2.2.2.2.2.2.2.1 a.2.2.2.2.2.2.2.2.2.2.2.2.1) Y_4_19_0_0 (fun k a => by kernel_rfl) (fun Y a => by
 unfold S_4_19_0_0
 repeat' first | apply gdN | apply condN | (apply Bn_4_19_1_0 <;> intros) | (apply Bn_4_19_1_1 <;> intros) | rfl) (ok0 _)
noncomputable def g_4_19 {R : Type} : List CV → List Blk → (CV → List Blk → Option R) → Option R := evFnL sm_4 FU (ovr noO (evFn sm_4 fns FU 1)) (mkT (fB fns 19) [O_4_19_0_0]) (fO fns 19)
theorem g_4_19_ok {R : Type} (args : List CV) (hp : List Blk) (k : CV → List Blk → Option R) (r : R) (h : g_4_19 args hp k = some r) : evFn sm_4 fns FU 2 19 args hp k = some r := runG noO_ok (os := [O_4_19_0_0]) ⟨OK_4_19_0_0, trivial⟩ h
noncomputable def ov_4_4 {R : Type} : Nat → Option (List CV → List Blk → (CV → List Blk → Option R) → Option R) := fun f' => bif Nat.beq f' 19 then some g_4_19 else none
theorem ov_4_4_ok {R : Type} : OvrOK (R := R) ov_4_4 (evFn sm_4 fns FU 2) := by
 intro f' g h args hp k r hg
 dsimp only [ov_4_4] at h
 by_cases h19 : f' = 19
 · subst h19
   injection h with h
   subst h
   exact evFn_le 0 (g_4_19_ok _ _ _ _ hg)
 rw [nbeq_ne h19, cond_false] at h
 cases h
noncomputable def T_4_0 : PS := ⟨70, [(5, .kc (.ptr 0 [])), (6, .kc (.ptr 1 [])), (8, .kc (.ptr 2 [])), (9, .kc (.ptr 3 [])), (11, .kc (.ptr 4 [])), (12, .kc (.ptr 5 [])), (13, .kc (.ptr 6 [])), (14, .hv (.int .i64)), (15, .hv (.int .i64))], [.mem (.hv Zy4_1), .mem (.hv Zy4_4), .mem (.hv (.slice (.int .u32))), .mem (.hv Zy4_7), .mem (.hv Zy4_1), .mem (.hv Zy4_4), .mem (.hv Zy4_7)], 0⟩
inductive Sp.E_4_0 where
 | e0 (p8 : Int × Int × Unit)
 | e1
 | e2 (y39 : Zt4_5) (y40 : Zt4_3)
noncomputable def Sp.B_4_0 {R : Type} (r : Option E_4_0) (k0 : Zt4_5 → Option R) (k1 : Option R) (k2 : Zt4_5 → Zt4_3 → Option R) : Option R := match r with
 | none => none
 | some (.e0 p8) => k0 p8
 | some (.e1) => k1
 | some (.e2 y39 y40) => k2 y39 y40
noncomputable def Y_4_0 {R : Type} (k : Ex → St → Option R) : E_4_0 → Option R
 | .e0 p8 => k Ex.ret (sx 70 [(10, CV.bool (Ty.beq (Ty.pair (Ty.int i64) (Ty.pair (Ty.int u32) Ty.unit)) p8 (0, 0, PUnit.unit)))] [])
 | .e1 => k Ex.ret (sx 70 [(10, CV.bool false)] [])
 | .e2 y39 y40 => k Ex.ret (sx 70 [(10, CV.bool (Ty.beq (Ty.pair (Ty.int i64) (Ty.pair (Ty.int u32) Ty.unit)) y39 (y40.2.1)))] [])
noncomputable def Sp.S_4_0 {R : Type} (k : E_4_0 → Option R) (p0 p1 : Int) (p2 : Int × Int × Int × (Int × Int × List Int × (Int × List (List Int) × List (List Int) × Unit) × Unit) × Unit) (p3 : (List Int × List Int × Int × Unit) × List Int × Unit) (p4 : List Int) (p5 : Int × Int × Unit) (p6 : Int × Int × Int × (Int × Int × List Int × (Int × List (List Int) × List (List Int) × Unit) × Unit) × Unit) (p7 : (List Int × List Int × Int × Unit) × List Int × Unit) (p8 : Int × Int × Unit) : Option R :=
 bif p1 != 0 then bif p0 == p1 then gd (p_10 p6) (bif (v_10 p6).1 then gd (p_32 p7 (([], [], 0, PUnit.unit), replicate 32 (0 :Int), PUnit.unit)) (bif (v_32 p7 (([], [], 0, PUnit.unit), replicate 32 (0 :Int), PUnit.unit)).1 then k (E_4_0.e0 p8) else k (E_4_0.e1)) else k (E_4_0.e1)) else k (E_4_0.e1) else gd (p_21 (p3, p5, 0, PUnit.unit) p2 p4) (gd (p_22 p2) (bif (v_21 (p3, p5, 0, PUnit.unit) p2 p4).1.2.2.1 != 0 then bif (v_21 (p3, p5, 0, PUnit.unit) p2 p4).1.2.2.1 != 18 then bif p0 == (v_21 (p3, p5, 0, PUnit.unit) p2 p4).1.2.2.1 then gd (p_10 p6) (bif (v_10 p6).1 then gd (p_32 p7 (([], [], 0, PUnit.unit), replicate 32 (0 :Int), PUnit.unit)) (bif (v_32 p7 (([], [], 0, PUnit.unit), replicate 32 (0 :Int), PUnit.unit)).1 then k (E_4_0.e0 p8) else k (E_4_0.e1)) else k (E_4_0.e1)) else k (E_4_0.e1) else B_4_19_0_0 (J_4_19_0_0 p0 p2 p3 p4 p5 p6 p7 p8 p6 p7 p8 ((v_21 (p3, p5, 0, PUnit.unit) p2 p4).1) ((v_22 p2).1)) (fun y32 y33 y34 y35 y36 y37 y38 y39 y40 => k (E_4_0.e2 y39 y40)) fun y41 y42 y43 y44 y45 y46 y47 => k (E_4_0.e1) else B_4_19_0_0 (J_4_19_0_0 p0 p2 p3 p4 p5 p6 p7 p8 p6 p7 p8 ((v_21 (p3, p5, 0, PUnit.unit) p2 p4).1) ((v_22 p2).1)) (fun y48 y49 y50 y51 y52 y53 y54 y55 y56 => k (E_4_0.e2 y55 y56)) fun y57 y58 y59 y60 y61 y62 y63 => k (E_4_0.e1)))
noncomputable def Sp.J_4_0 (p0 p1 : Int) (p2 : Int × Int × Int × (Int × Int × List Int × (Int × List (List Int) × List (List Int) × Unit) × Unit) × Unit) (p3 : (List Int × List Int × Int × Unit) × List Int × Unit) (p4 : List Int) (p5 : Int × Int × Unit) (p6 : Int × Int × Int × (Int × Int × List Int × (Int × List (List Int) × List (List Int) × Unit) × Unit) × Unit) (p7 : (List Int × List Int × Int × Unit) × List Int × Unit) (p8 : Int × Int × Unit) : Option E_4_0 := S_4_0 some p0 p1 p2 p3 p4 p5 p6 p7 p8
noncomputable def O_4_0 {R : Type} : Orc R := orL T_4_0 (fun a => J_4_0 a.1 a.2.1 a.2.2.1 a.2.2.2.1 a.2.2.2.2.1 a.2.2.2.2.2.1 a.2.2.2.2.2.2.1 a.2.2.2.2.2.2.2.1 a.2.2.2.2.2.2.2.2.1) Y_4_0
theorem OK_4_0 {R : Type} : okF (R := R) sm_4 2 (nf 4 0) O_4_0 := jp ov_4_4_ok (os := []) trivial T_4_0 (fun R k a => S_4_0 k a.1 a.2.1 a.2.2.1 a.2.2.2.1 a.2.2.2.2.1 a.2.2.2.2.2.1 a.2.2.2.2.2.2.1 a.2.2.2.2.2.2.2.1 a.2.2.2.2.2.2.2.2.1) Y_4_0 (fun k a => by kernel_rfl) (fun Y a => by
 unfold S_4_0
 repeat' first | apply gdN | apply condN | (apply Bn_4_19_0_0 <;> intros) | rfl) (ok0 _)
noncomputable def F_4 (a0 : (Int × (Int × (Int × ((Int × (Int × ((List Int) × ((Int × ((List (List Int)) × ((List (List Int)) × Unit))) × Unit)))) × Unit))))) (a1 : (((List Int) × ((List Int) × (Int × Unit))) × ((List Int) × Unit))) (a2 : Int) (a3 : (List Int)) (a4 : (Int × (Int × Unit))) : Option (Bool) :=
 gd p_8 (bif !v_8.1 then some false else gd (p_15 a1) (bif (v_15 a1).1 then some true else gd (p_9 (a0.2.2.2.1)) (bif (v_9 (a0.2.2.2.1)).1 then some true else bif decide ((↑(length a3) : Int) > 100) then some true else gd (p_16 a0 a1 a2 a3 a4) (gd (p_17 a0 a1 a4) (bif !(v_17 a0 a1 a4).1 then B_4_0 (J_4_0 ((v_16 a0 a1 a2 a3 a4).2.2.2.1) 1 a0 a1 a3 a4 ((v_16 a0 a1 a2 a3 a4).1) ((v_16 a0 a1 a2 a3 a4).2.1) ((v_16 a0 a1 a2 a3 a4).2.2.1)) (fun y19 => some (Ty.beq (Ty.pair (Ty.int i64) (Ty.pair (Ty.int u32) Ty.unit)) y19 (0, 0, PUnit.unit))) (some false) fun y20 y21 => some (Ty.beq (Ty.pair (Ty.int i64) (Ty.pair (Ty.int u32) Ty.unit)) y20 (y21.2.1)) else bif a0.1 != 1 then B_4_0 (J_4_0 ((v_16 a0 a1 a2 a3 a4).2.2.2.1) 6 a0 a1 a3 a4 ((v_16 a0 a1 a2 a3 a4).1) ((v_16 a0 a1 a2 a3 a4).2.1) ((v_16 a0 a1 a2 a3 a4).2.2.1)) (fun y22 => some (Ty.beq (Ty.pair (Ty.int i64) (Ty.pair (Ty.int u32) Ty.unit)) y22 (0, 0, PUnit.unit))) (some false) fun y23 y24 => some (Ty.beq (Ty.pair (Ty.int i64) (Ty.pair (Ty.int u32) Ty.unit)) y23 (y24.2.1)) else bif a2 != wrap i64 (Int.tdiv (a0.2.2.1) 32) then B_4_0 (J_4_0 ((v_16 a0 a1 a2 a3 a4).2.2.2.1) 15 a0 a1 a3 a4 ((v_16 a0 a1 a2 a3 a4).1) ((v_16 a0 a1 a2 a3 a4).2.1) ((v_16 a0 a1 a2 a3 a4).2.2.1)) (fun y25 => some (Ty.beq (Ty.pair (Ty.int i64) (Ty.pair (Ty.int u32) Ty.unit)) y25 (0, 0, PUnit.unit))) (some false) fun y26 y27 => some (Ty.beq (Ty.pair (Ty.int i64) (Ty.pair (Ty.int u32) Ty.unit)) y26 (y27.2.1)) else gd (p_18 a0) (bif (↑(length a3) : Int) != (v_18 a0).1 then B_4_0 (J_4_0 ((v_16 a0 a1 a2 a3 a4).2.2.2.1) 3 a0 a1 a3 a4 ((v_16 a0 a1 a2 a3 a4).1) ((v_16 a0 a1 a2 a3 a4).2.1) ((v_16 a0 a1 a2 a3 a4).2.2.1)) (fun y28 => some (Ty.beq (Ty.pair (Ty.int i64) (Ty.pair (Ty.int u32) Ty.unit)) y28 (0, 0, PUnit.unit))) (some false) fun y29 y30 => some (Ty.beq (Ty.pair (Ty.int i64) (Ty.pair (Ty.int u32) Ty.unit)) y29 (y30.2.1)) else B_4_0 (J_4_0 ((v_16 a0 a1 a2 a3 a4).2.2.2.1) 0 a0 a1 a3 a4 ((v_16 a0 a1 a2 a3 a4).1) ((v_16 a0 a1 a2 a3 a4).2.1) ((v_16 a0 a1 a2 a3 a4).2.2.1)) (fun y31 => some (Ty.beq (Ty.pair (Ty.int i64) (Ty.pair (Ty.int u32) Ty.unit)) y31 (0, 0, PUnit.unit))) (some false) fun y32 y33 => some (Ty.beq (Ty.pair (Ty.int i64) (Ty.pair (Ty.int u32) Ty.unit)) y32 (y33.2.1))))))))
theorem run_4 (a0 : (Int × (Int × (Int × ((Int × (Int × ((List Int) × ((Int × ((List (List Int)) × ((List (List Int)) × Unit))) × Unit)))) × Unit))))) (a1 : (((List Int) × ((List Int) × (Int × Unit))) × ((List Int) × Unit))) (a2 : Int) (a3 : (List Int)) (a4 : (Int × (Int × Unit))) {b : Bool} (h : F_4 a0 a1 a2 a3 a4 = some b) : evFn sm_4 fns FU 3 4 (ofH A_4 (a0, a1, a2, a3, a4, ())) [] bk = some b := runG ov_4_4_ok (os := [O_4_0]) ⟨OK_4_0, trivial⟩ (Eq.trans (by kernel_rfl) h)
end
end Go.Ev
