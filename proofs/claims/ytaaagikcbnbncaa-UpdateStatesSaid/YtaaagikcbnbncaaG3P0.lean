/- Helpers: functions of the program as Lean functions, and what they compute. No condition. -/
import Derived.Test.YtaaagikcbnbncaaProg
import Derived.WalkKit
import Derived.Test.YtaaagikcbnbncaaE3P2
set_option maxRecDepth 10000
set_option linter.unusedVariables false
set_option linter.unusedSimpArgs false
open Go.IntKind (wrap i64 i32 i16 i8 u64 u32 u16 u8)
open List (getD length take drop replicate)
open Int (toNat)
open Go.Ev.Sp
namespace Go.Ev
open Go Go.Proofs Go.RowKit
set_option maxRecDepth 100000
noncomputable section
noncomputable def smB : Nat → Bool := fun f => [8, 9, 10, 11, 12, 13, 14, 15, 16, 17, 18, 21, 22, 23, 25, 26, 27, 28, 30, 32, 33, 35, 36, 37, 38, 39, 40, 41, 44, 46, 47, 48, 49, 50, 51, 53, 55, 56, 57, 58, 59, 60, 61, 68, 69, 70, 72, 73, 74, 75, 76, 77, 78, 79, 80, 81, 84, 85, 86, 87, 88, 89, 90, 91, 93, 97, 98, 99, 100, 101, 104, 105, 106, 107, 108, 110, 112, 116, 117, 118, 119, 120, 122, 124, 125, 126, 127, 128].contains f
noncomputable def wF : Nat → Nat := fun f => 0
noncomputable def cF : Nat → Bool := fun f => false
noncomputable def dF : Nat → Bool := fun f => [5, 6, 7, 24, 29, 31, 34, 54, 62, 63, 64, 65, 66, 71, 82, 83, 109].contains f
noncomputable def fns : Nat → Option IFn := fnsP Try.prog smB wF cF dF
theorem hm0 : Try.prog.follows .mixedOrders = true := by kernel_rfl
abbrev s_25 : Summ := vecS (.int .u32) 42 4
abbrev s_75 : Summ := vecS (.int .i64) 3 8
abbrev okF {R : Type} (sm : Nat → Option Summ) (d : Nat) (c : IC) (o : Orc R) : Prop := okN sm FU (evFn sm fns FU d) c o
abbrev nf (f i : Nat) : IC := nd (fB fns f) i
abbrev ni (c : IC) (i : Nat) : IC := nd (inner c) i
abbrev rnF (sm : Nat → Option Summ) (n f : Nat) (A R : List Ty) (x : HDen A) (y : HDen R) : Prop := evFn sm fns FU n f (ofH A x) [] (pureK R) = some y
end
set_option maxHeartbeats 4000000
set_option linter.unusedVariables false
noncomputable section
abbrev A_73 : List Ty := [(.pair (.int .i64) (.pair (.slice (.arr 32 (.int .u8))) (.pair (.slice (.arr 32 (.int .u8))) .unit))), (.pair (.int .i64) (.pair (.slice (.arr 32 (.int .u8))) (.pair (.slice (.arr 32 (.int .u8))) .unit)))]
abbrev R_73 : List Ty := [.bool]
noncomputable def sm_73 : Nat → Option Summ := smL []
noncomputable def T_73_0 : PS := ⟨66, [(2, .kc (.ptr 0 [])), (3, .kc (.ptr 1 [])), (5, .hv (.int .i64))], [.mem (.hv (.pair (.int .i64) (.pair (.slice (.arr 32 (.int .u8))) (.pair (.slice (.arr 32 (.int .u8))) .unit)))), .mem (.hv (.pair (.int .i64) (.pair (.slice (.arr 32 (.int .u8))) (.pair (.slice (.arr 32 (.int .u8))) .unit))))], 0⟩
inductive Sp.E_73_0 where
 | e0
 | e1 (p1 p2 : Int × List (List Int) × List (List Int) × Unit)
noncomputable def Sp.B_73_0 {R : Type} (r : Option E_73_0) (k0 : Option R) (k1 : (Int × List (List Int) × List (List Int) × Unit) → (Int × List (List Int) × List (List Int) × Unit) → Option R) : Option R := match r with
 | none => none
 | some (.e0) => k0
 | some (.e1 p1 p2) => k1 p1 p2
noncomputable def Y_73_0 {R : Type} (k : Ex → St → Option R) : E_73_0 → Option R
 | .e0 => k Ex.ret (sx 66 [(4, CV.bool false)] [])
 | .e1 p1 p2 => k (Ex.exit 0) (sx 66 [(2, CV.ptr 0 []), (3, CV.ptr 1 [])] [Blk.mem (CV.pure (Ty.pair (Ty.int i64) (Ty.pair (Ty.slice (Ty.arr 32 (Ty.int u8))) (Ty.pair (Ty.slice (Ty.arr 32 (Ty.int u8))) Ty.unit))) p1), Blk.mem (CV.pure (Ty.pair (Ty.int i64) (Ty.pair (Ty.slice (Ty.arr 32 (Ty.int u8))) (Ty.pair (Ty.slice (Ty.arr 32 (Ty.int u8))) Ty.unit))) p2)])
noncomputable def Sp.S_73_0 {R : Type} (K : Int → (Int × List (List Int) × List (List Int) × Unit) → (Int × List (List Int) × List (List Int) × Unit) → Option R) (k : E_73_0 → Option R) (p0 : Int) (p1 p2 : Int × List (List Int) × List (List Int) × Unit) : Option R :=
 bif decide (p0 < (↑(length (p1.2.1)) : Int)) then gd (inB p0 (length (p1.2.1))) (gd (inB p0 (length (p2.2.1))) (bif !Ty.beq (Ty.arr 32 (Ty.int u8)) (getD (p1.2.1) (toNat p0) (Ty.dflt (Ty.arr 32 (Ty.int u8)))) (getD (p2.2.1) (toNat p0) (Ty.dflt (Ty.arr 32 (Ty.int u8)))) then k (E_73_0.e0) else K (wrap i64 (p0 + 1)) p1 p2)) else k (E_73_0.e1 p1 p2)
noncomputable def Sp.L_73_0 : Nat → Int → (Int × List (List Int) × List (List Int) × Unit) → (Int × List (List Int) × List (List Int) × Unit) → Option E_73_0
 | 0, _, _, _ => none
 | m + 1, p0, p1, p2 => S_73_0 (L_73_0 m) some p0 p1 p2
noncomputable def l_73_0 (m : Nat) (a : T_73_0.E) : Option E_73_0 := L_73_0 m a.1 a.2.1 a.2.2.1
noncomputable def O_73_0 {R : Type} : Orc R := orL T_73_0 (l_73_0 FU) Y_73_0
theorem OK_73_0 {R : Type} : okF (R := R) sm_73 0 (nf 73 0) O_73_0 := lp0 T_73_0 l_73_0 (fun R K k a => S_73_0 (fun p0 p1 p2 => K (p0, p1, p2, ())) k a.1 a.2.1 a.2.2.1) Y_73_0 (fun _ _ _ => by kernel_rfl) (fun _ _ _ => by
 unfold S_73_0
 repeat' first | apply gdN | apply condN | rfl) (ok0 _)
noncomputable def T_73_1 : PS := ⟨66, [(2, .kc (.ptr 0 [])), (3, .kc (.ptr 1 [])), (6, .hv (.int .i64))], [.mem (.hv (.pair (.int .i64) (.pair (.slice (.arr 32 (.int .u8))) (.pair (.slice (.arr 32 (.int .u8))) .unit)))), .mem (.hv (.pair (.int .i64) (.pair (.slice (.arr 32 (.int .u8))) (.pair (.slice (.arr 32 (.int .u8))) .unit))))], 0⟩
inductive Sp.E_73_1 where
 | e0
 | e1
noncomputable def Sp.B_73_1 {R : Type} (r : Option E_73_1) (k0 k1 : Option R) : Option R := match r with
 | none => none
 | some (.e0) => k0
 | some (.e1) => k1
noncomputable def Y_73_1 {R : Type} (k : Ex → St → Option R) : E_73_1 → Option R
 | .e0 => k Ex.ret (sx 66 [(4, CV.bool false)] [])
 | .e1 => k (Ex.exit 2) (sx 66 [] [])
noncomputable def Sp.S_73_1 {R : Type} (K : Int → (Int × List (List Int) × List (List Int) × Unit) → (Int × List (List Int) × List (List Int) × Unit) → Option R) (k : E_73_1 → Option R) (p0 : Int) (p1 p2 : Int × List (List Int) × List (List Int) × Unit) : Option R :=
 bif decide (p0 < (↑(length (p1.2.2.1)) : Int)) then gd (inB p0 (length (p1.2.2.1))) (gd (inB p0 (length (p2.2.2.1))) (bif !Ty.beq (Ty.arr 32 (Ty.int u8)) (getD (p1.2.2.1) (toNat p0) (Ty.dflt (Ty.arr 32 (Ty.int u8)))) (getD (p2.2.2.1) (toNat p0) (Ty.dflt (Ty.arr 32 (Ty.int u8)))) then k (E_73_1.e0) else K (wrap i64 (p0 + 1)) p1 p2)) else k (E_73_1.e1)
noncomputable def Sp.L_73_1 : Nat → Int → (Int × List (List Int) × List (List Int) × Unit) → (Int × List (List Int) × List (List Int) × Unit) → Option E_73_1
 | 0, _, _, _ => none
 | m + 1, p0, p1, p2 => S_73_1 (L_73_1 m) some p0 p1 p2
noncomputable def l_73_1 (m : Nat) (a : T_73_1.E) : Option E_73_1 := L_73_1 m a.1 a.2.1 a.2.2.1
noncomputable def O_73_1 {R : Type} : Orc R := orL T_73_1 (l_73_1 FU) Y_73_1
theorem OK_73_1 {R : Type} : okF (R := R) sm_73 0 (nf 73 1) O_73_1 := lp0 T_73_1 l_73_1 (fun R K k a => S_73_1 (fun p0 p1 p2 => K (p0, p1, p2, ())) k a.1 a.2.1 a.2.2.1) Y_73_1 (fun _ _ _ => by kernel_rfl) (fun _ _ _ => by
 unfold S_73_1
 repeat' first | apply gdN | apply condN | rfl) (ok0 _)
noncomputable def F_73 (a0 : (Int × ((List (List Int)) × ((List (List Int)) × Unit)))) (a1 : (Int × ((List (List Int)) × ((List (List Int)) × Unit)))) : Option (Bool × Unit) :=
 bif a0.1 != a1.1 then some (false, PUnit.unit) else bif (↑(length (a0.2.1)) : Int) != (↑(length (a1.2.1)) : Int) then some (false, PUnit.unit) else bif (↑(length (a0.2.2.1)) : Int) != (↑(length (a1.2.2.1)) : Int) then some (false, PUnit.unit) else B_73_0 (L_73_0 4611686018427387904 0 a0 a1) (some (false, PUnit.unit)) fun y2 y3 => B_73_1 (L_73_1 4611686018427387904 0 y2 y3) (some (false, PUnit.unit)) (some (true, PUnit.unit))
noncomputable def Sp.p_73 (a0 : (Int × ((List (List Int)) × ((List (List Int)) × Unit)))) (a1 : (Int × ((List (List Int)) × ((List (List Int)) × Unit)))) : Bool := (F_73 a0 a1).isSome
noncomputable def Sp.v_73 (a0 : (Int × ((List (List Int)) × ((List (List Int)) × Unit)))) (a1 : (Int × ((List (List Int)) × ((List (List Int)) × Unit)))) : Bool × Unit := (F_73 a0 a1).getD (dfH R_73)
noncomputable def s_73 : Summ := shN A_73 R_73 (fun x => p_73 x.1 x.2.1) (fun x => v_73 x.1 x.2.1)
theorem pv_73 (a0 : (Int × ((List (List Int)) × ((List (List Int)) × Unit)))) (a1 : (Int × ((List (List Int)) × ((List (List Int)) × Unit)))) {y : Bool × Unit} (h : F_73 a0 a1 = some y) : p_73 a0 a1 = true ∧ v_73 a0 a1 = y := pvG h
theorem run_73 (x : HDen A_73) (y : HDen R_73) (h : F_73 x.1 x.2.1 = some y) : rnF sm_73 1 73 A_73 R_73 x y := runG noO_ok (os := [O_73_0, O_73_1]) ⟨OK_73_0, OK_73_1, trivial⟩ (Eq.trans (by kernel_rfl) h)
end
noncomputable section
abbrev A_36 : List Ty := [(.pair (.int .i64) (.pair (.int .i64) (.pair (.arr 32 (.int .u8)) (.pair (.pair (.int .i64) (.pair (.slice (.arr 32 (.int .u8))) (.pair (.slice (.arr 32 (.int .u8))) .unit))) .unit)))), (.pair (.int .i64) (.pair (.int .i64) (.pair (.arr 32 (.int .u8)) (.pair (.pair (.int .i64) (.pair (.slice (.arr 32 (.int .u8))) (.pair (.slice (.arr 32 (.int .u8))) .unit))) .unit))))]
abbrev R_36 : List Ty := [.bool]
noncomputable def sm_36 : Nat → Option Summ := smL [(73, s_73)]
noncomputable def F_36 (a0 : (Int × (Int × ((List Int) × ((Int × ((List (List Int)) × ((List (List Int)) × Unit))) × Unit))))) (a1 : (Int × (Int × ((List Int) × ((Int × ((List (List Int)) × ((List (List Int)) × Unit))) × Unit))))) : Option (Bool × Unit) :=
 bif a0.1 == a1.1 then bif a0.2.1 == a1.2.1 then bif Ty.beq (Ty.arr 32 (Ty.int u8)) (a0.2.2.1) (a1.2.2.1) then gd (p_73 (a0.2.2.2.1) (a1.2.2.2.1)) (some ((v_73 (a0.2.2.2.1) (a1.2.2.2.1)).1, PUnit.unit)) else some (false, PUnit.unit) else some (false, PUnit.unit) else some (false, PUnit.unit)
noncomputable def Sp.p_36 (a0 : (Int × (Int × ((List Int) × ((Int × ((List (List Int)) × ((List (List Int)) × Unit))) × Unit))))) (a1 : (Int × (Int × ((List Int) × ((Int × ((List (List Int)) × ((List (List Int)) × Unit))) × Unit))))) : Bool := (F_36 a0 a1).isSome
noncomputable def Sp.v_36 (a0 : (Int × (Int × ((List Int) × ((Int × ((List (List Int)) × ((List (List Int)) × Unit))) × Unit))))) (a1 : (Int × (Int × ((List Int) × ((Int × ((List (List Int)) × ((List (List Int)) × Unit))) × Unit))))) : Bool × Unit := (F_36 a0 a1).getD (dfH R_36)
noncomputable def s_36 : Summ := shN A_36 R_36 (fun x => p_36 x.1 x.2.1) (fun x => v_36 x.1 x.2.1)
theorem pv_36 (a0 : (Int × (Int × ((List Int) × ((Int × ((List (List Int)) × ((List (List Int)) × Unit))) × Unit))))) (a1 : (Int × (Int × ((List Int) × ((Int × ((List (List Int)) × ((List (List Int)) × Unit))) × Unit))))) {y : Bool × Unit} (h : F_36 a0 a1 = some y) : p_36 a0 a1 = true ∧ v_36 a0 a1 = y := pvG h
theorem run_36 (x : HDen A_36) (y : HDen R_36) (h : F_36 x.1 x.2.1 = some y) : rnF sm_36 1 36 A_36 R_36 x y := runG noO_ok (os := []) trivial (Eq.trans (by kernel_rfl) h)
end
noncomputable section
abbrev A_10 : List Ty := [(.pair (.int .i64) (.pair (.int .i64) (.pair (.int .i64) (.pair (.pair (.int .i64) (.pair (.int .i64) (.pair (.arr 32 (.int .u8)) (.pair (.pair (.int .i64) (.pair (.slice (.arr 32 (.int .u8))) (.pair (.slice (.arr 32 (.int .u8))) .unit))) .unit)))) .unit))))]
abbrev R_10 : List Ty := [.bool]
noncomputable def sm_10 : Nat → Option Summ := smL [(36, s_36)]
noncomputable def F_10 (a0 : (Int × (Int × (Int × ((Int × (Int × ((List Int) × ((Int × ((List (List Int)) × ((List (List Int)) × Unit))) × Unit)))) × Unit))))) : Option (Bool × Unit) :=
 bif a0.1 == 0 then bif a0.2.1 == 0 then bif a0.2.2.1 == 0 then gd (p_36 (a0.2.2.2.1) (0, 0, replicate 32 (0 :Int), (0, [], [], PUnit.unit), PUnit.unit)) (some ((v_36 (a0.2.2.2.1) (0, 0, replicate 32 (0 :Int), (0, [], [], PUnit.unit), PUnit.unit)).1, PUnit.unit)) else some (false, PUnit.unit) else some (false, PUnit.unit) else some (false, PUnit.unit)
noncomputable def Sp.p_10 (a0 : (Int × (Int × (Int × ((Int × (Int × ((List Int) × ((Int × ((List (List Int)) × ((List (List Int)) × Unit))) × Unit)))) × Unit))))) : Bool := (F_10 a0).isSome
noncomputable def Sp.v_10 (a0 : (Int × (Int × (Int × ((Int × (Int × ((List Int) × ((Int × ((List (List Int)) × ((List (List Int)) × Unit))) × Unit)))) × Unit))))) : Bool × Unit := (F_10 a0).getD (dfH R_10)
noncomputable def s_10 : Summ := shN A_10 R_10 (fun x => p_10 x.1) (fun x => v_10 x.1)
theorem pv_10 (a0 : (Int × (Int × (Int × ((Int × (Int × ((List Int) × ((Int × ((List (List Int)) × ((List (List Int)) × Unit))) × Unit)))) × Unit))))) {y : Bool × Unit} (h : F_10 a0 = some y) : p_10 a0 = true ∧ v_10 a0 = y := pvG h
theorem run_10 (x : HDen A_10) (y : HDen R_10) (h : F_10 x.1 = some y) : rnF sm_10 1 10 A_10 R_10 x y := runG noO_ok (os := []) trivial (Eq.trans (by kernel_rfl) h)
end
noncomputable section
abbrev A_11 : List Ty := []
abbrev R_11 : List Ty := [(.pair (.int .i64) (.pair (.int .i64) (.pair (.int .i64) (.pair (.pair (.int .i64) (.pair (.int .i64) (.pair (.arr 32 (.int .u8)) (.pair (.pair (.int .i64) (.pair (.slice (.arr 32 (.int .u8))) (.pair (.slice (.arr 32 (.int .u8))) .unit))) .unit)))) .unit))))]
noncomputable def sm_11 : Nat → Option Summ := smL []
noncomputable def F_11  : Option ((Int × (Int × (Int × ((Int × (Int × ((List Int) × ((Int × ((List (List Int)) × ((List (List Int)) × Unit))) × Unit)))) × Unit)))) × Unit) :=
 some ((0, 0, 0, (0, 0, replicate 32 (0 :Int), (0, [], [], PUnit.unit), PUnit.unit), PUnit.unit), PUnit.unit)
noncomputable def Sp.p_11  : Bool := (F_11 ).isSome
noncomputable def Sp.v_11  : (Int × (Int × (Int × ((Int × (Int × ((List Int) × ((Int × ((List (List Int)) × ((List (List Int)) × Unit))) × Unit)))) × Unit)))) × Unit := (F_11 ).getD (dfH R_11)
noncomputable def s_11 : Summ := shS A_11 R_11 (fun x => p_11 ) (fun x => v_11 )
theorem pv_11  {y : (Int × (Int × (Int × ((Int × (Int × ((List Int) × ((Int × ((List (List Int)) × ((List (List Int)) × Unit))) × Unit)))) × Unit)))) × Unit} (h : F_11  = some y) : p_11  = true ∧ v_11  = y := pvG h
theorem run_11 (x : HDen A_11) (y : HDen R_11) (h : F_11  = some y) : rnF sm_11 1 11 A_11 R_11 x y := runG noO_ok (os := []) trivial (Eq.trans (by kernel_rfl) h)
end
noncomputable section
abbrev A_37 : List Ty := [(.pair (.int .i64) (.pair (.int .i64) (.pair (.int .i64) (.pair (.pair (.int .i64) (.pair (.int .i64) (.pair (.arr 32 (.int .u8)) (.pair (.pair (.int .i64) (.pair (.slice (.arr 32 (.int .u8))) (.pair (.slice (.arr 32 (.int .u8))) .unit))) .unit)))) .unit))))]
abbrev R_37 : List Ty := [.bool]
noncomputable def sm_37 : Nat → Option Summ := smL []
noncomputable def F_37 (a0 : (Int × (Int × (Int × ((Int × (Int × ((List Int) × ((Int × ((List (List Int)) × ((List (List Int)) × Unit))) × Unit)))) × Unit))))) : Option (Bool × Unit) :=
 bif a0.1 == 0 then bif a0.2.1 == 0 then bif a0.2.2.1 == 0 then bif a0.2.2.2.1.1 == 0 then bif a0.2.2.2.1.2.1 == 0 then bif Ty.beq (Ty.arr 32 (Ty.int u8)) (a0.2.2.2.1.2.2.1) (replicate 32 (0 :Int)) then bif a0.2.2.2.1.2.2.2.1.1 == 0 then bif (↑(length (a0.2.2.2.1.2.2.2.1.2.1)) : Int) == 0 then some ((↑(length (a0.2.2.2.1.2.2.2.1.2.2.1)) : Int) == 0, PUnit.unit) else some (false, PUnit.unit) else some (false, PUnit.unit) else some (false, PUnit.unit) else some (false, PUnit.unit) else some (false, PUnit.unit) else some (false, PUnit.unit) else some (false, PUnit.unit) else some (false, PUnit.unit)
noncomputable def Sp.p_37 (a0 : (Int × (Int × (Int × ((Int × (Int × ((List Int) × ((Int × ((List (List Int)) × ((List (List Int)) × Unit))) × Unit)))) × Unit))))) : Bool := (F_37 a0).isSome
noncomputable def Sp.v_37 (a0 : (Int × (Int × (Int × ((Int × (Int × ((List Int) × ((Int × ((List (List Int)) × ((List (List Int)) × Unit))) × Unit)))) × Unit))))) : Bool × Unit := (F_37 a0).getD (dfH R_37)
noncomputable def s_37 : Summ := shN A_37 R_37 (fun x => p_37 x.1) (fun x => v_37 x.1)
theorem pv_37 (a0 : (Int × (Int × (Int × ((Int × (Int × ((List Int) × ((Int × ((List (List Int)) × ((List (List Int)) × Unit))) × Unit)))) × Unit))))) {y : Bool × Unit} (h : F_37 a0 = some y) : p_37 a0 = true ∧ v_37 a0 = y := pvG h
theorem run_37 (x : HDen A_37) (y : HDen R_37) (h : F_37 x.1 = some y) : rnF sm_37 1 37 A_37 R_37 x y := runG noO_ok (os := []) trivial (Eq.trans (by kernel_rfl) h)
end
noncomputable section
abbrev A_85 : List Ty := [(.pair (.int .i64) (.pair (.slice (.arr 32 (.int .u8))) (.pair (.slice (.arr 32 (.int .u8))) .unit)))]
abbrev R_85 : List Ty := [.bool]
noncomputable def sm_85 : Nat → Option Summ := smL []
noncomputable def F_85 (a0 : (Int × ((List (List Int)) × ((List (List Int)) × Unit)))) : Option (Bool × Unit) :=
 bif decide (a0.1 ≥ 0) then bif decide (a0.1 < 4) then bif (↑(length (a0.2.1)) : Int) == 67 then some ((↑(length (a0.2.2.1)) : Int) == 2, PUnit.unit) else some (false, PUnit.unit) else some (false, PUnit.unit) else some (false, PUnit.unit)
noncomputable def Sp.p_85 (a0 : (Int × ((List (List Int)) × ((List (List Int)) × Unit)))) : Bool := (F_85 a0).isSome
noncomputable def Sp.v_85 (a0 : (Int × ((List (List Int)) × ((List (List Int)) × Unit)))) : Bool × Unit := (F_85 a0).getD (dfH R_85)
noncomputable def s_85 : Summ := shN A_85 R_85 (fun x => p_85 x.1) (fun x => v_85 x.1)
theorem pv_85 (a0 : (Int × ((List (List Int)) × ((List (List Int)) × Unit)))) {y : Bool × Unit} (h : F_85 a0 = some y) : p_85 a0 = true ∧ v_85 a0 = y := pvG h
theorem run_85 (x : HDen A_85) (y : HDen R_85) (h : F_85 x.1 = some y) : rnF sm_85 1 85 A_85 R_85 x y := runG noO_ok (os := []) trivial (Eq.trans (by kernel_rfl) h)
end
noncomputable section
abbrev A_100 : List Ty := [(.slice (.int .u8))]
abbrev R_100 : List Ty := [(.int .u32)]
noncomputable def sm_100 : Nat → Option Summ := smL []
noncomputable def F_100 (a0 : (List Int)) : Option (Int × Unit) :=
 gd (inB 0 (length a0)) (gd (inB 1 (length a0)) (gd (inB 2 (length a0)) (gd (inB 3 (length a0)) (some (Sp.orI u32 (Sp.orI u32 (Sp.orI u32 (wrap u32 (wrap u32 (getD a0 0 0) * 16777216)) (wrap u32 (wrap u32 (getD a0 1 0) * 65536))) (wrap u32 (wrap u32 (getD a0 2 0) * 256))) (wrap u32 (getD a0 3 0)), PUnit.unit)))))
noncomputable def Sp.p_100 (a0 : (List Int)) : Bool := (F_100 a0).isSome
noncomputable def Sp.v_100 (a0 : (List Int)) : Int × Unit := (F_100 a0).getD (dfH R_100)
noncomputable def s_100 : Summ := shN A_100 R_100 (fun x => p_100 x.1) (fun x => v_100 x.1)
theorem pv_100 (a0 : (List Int)) {y : Int × Unit} (h : F_100 a0 = some y) : p_100 a0 = true ∧ v_100 a0 = y := pvG h
theorem run_100 (x : HDen A_100) (y : HDen R_100) (h : F_100 x.1 = some y) : rnF sm_100 1 100 A_100 R_100 x y := runG noO_ok (os := []) trivial (Eq.trans (by kernel_rfl) h)
end
noncomputable section
abbrev Zt74_0 : Type := List (List (List Int))
abbrev A_74 : List Ty := [(.pair (.int .i64) (.pair (.slice (.arr 32 (.int .u8))) (.pair (.slice (.arr 32 (.int .u8))) .unit)))]
abbrev R_74 : List Ty := [(.slice (.int .u32)), (.int .i64)]
noncomputable def sm_74 : Nat → Option Summ := smL [(85, s_85), (100, s_100)]
noncomputable def T_74_2 : PS := ⟨46, [(4, .kc (.whole 0)), (8, .kc (.ptr 1 [])), (9, .hv (.int .i64)), (21, .kc (.whole 2)), (22, .hv (.int .i64)), (23, .hv (.int .i64)), (27, .hv (.slice (.arr 32 (.int .u8)))), (28, .hv (.int .i64)), (29, .hv (.int .i64))], [.vec 42 (.int .u32), .mem (.hv (.arr 32 (.int .u8))), .vec 24 (.slice (.arr 32 (.int .u8)))], 0⟩
inductive Sp.E_74_2 where
 | e0 (p1 p2 : Int) (p3 : List (List Int)) (p4 p5 : Int) (p6 : List Int) (p8 : Zt74_0)
noncomputable def Sp.B_74_2 {R : Type} (r : Option E_74_2) (k0 : Int → Int → List (List Int) → Int → Int → List Int → Zt74_0 → Option R) : Option R := match r with
 | none => none
 | some (.e0 p1 p2 p3 p4 p5 p6 p8) => k0 p1 p2 p3 p4 p5 p6 p8
theorem Bn_74_2 {A R : Type} {r : Option E_74_2} {f : A → Option R} {k0 : Int → Int → List (List Int) → Int → Int → List Int → Zt74_0 → Option A} {l0 : Int → Int → List (List Int) → Int → Int → List Int → Zt74_0 → Option R} (h0 : ∀ p1 p2 p3 p4 p5 p6 p8, (k0 p1 p2 p3 p4 p5 p6 p8).bind f = l0 p1 p2 p3 p4 p5 p6 p8) : (B_74_2 r k0).bind f = B_74_2 r l0 := by
 cases r with
 | none => rfl
 | some e => cases e <;> first | apply h0
noncomputable def Y_74_2 {R : Type} (k : Ex → St → Option R) : E_74_2 → Option R
 | .e0 p1 p2 p3 p4 p5 p6 p8 => k (Ex.exit 4) (sx 46 [(4, CV.whole 0), (21, CV.whole 1), (22, CV.int i64 p1), (23, CV.int i64 p2), (27, CV.pure (Ty.slice (Ty.arr 32 (Ty.int u8))) p3), (28, CV.int i64 p4), (29, CV.int i64 p5)] [Blk.vec 42 (Ty.int u32) p6, Blk.vec 24 (Ty.slice (Ty.arr 32 (Ty.int u8))) p8])
noncomputable def Sp.S_74_2 {R : Type} (K : Int → Int → Int → List (List Int) → Int → Int → List Int → List Int → (List (List (List Int))) → Option R) (k : E_74_2 → Option R) (p0 p1 p2 : Int) (p3 : List (List Int)) (p4 p5 : Int) (p6 p7 : List Int) (p8 : List (List (List Int))) : Option R :=
 bif decide (p0 < 32) then gd (sl3 p0 32 32) (gd (decide (toNat p0 + (32 - toNat p0) ≤ 32) && true && p_100 (take (32 - toNat p0) (drop (toNat p0) p7))) (gd (room (length p6 + 1) 4) (K (wrap i64 (p0 + 4)) p1 p2 p3 p4 p5 (p6 ++ [(v_100 (take (32 - toNat p0) (drop (toNat p0) p7))).1]) p7 p8))) else k (E_74_2.e0 p1 p2 p3 p4 p5 p6 p8)
noncomputable def Sp.L_74_2 : Nat → Int → Int → Int → List (List Int) → Int → Int → List Int → List Int → (List (List (List Int))) → Option E_74_2
 | 0, _, _, _, _, _, _, _, _, _ => none
 | m + 1, p0, p1, p2, p3, p4, p5, p6, p7, p8 => S_74_2 (L_74_2 m) some p0 p1 p2 p3 p4 p5 p6 p7 p8
noncomputable def l_74_2 (m : Nat) (a : T_74_2.E) : Option E_74_2 := L_74_2 m a.1 a.2.1 a.2.2.1 a.2.2.2.1 a.2.2.2.2.1 a.2.2.2.2.2.1 a.2.2.2.2.2.2.1 a.2.2.2.2.2.2.2.1 a.2.2.2.2.2.2.2.2.1
noncomputable def O_74_2 {R : Type} : Orc R := orL T_74_2 (l_74_2 FU) Y_74_2
theorem OK_74_2 {R : Type} : okF (R := R) sm_74 0 (ni (ni (nf 74 0) 0) 0) O_74_2 := lp0 T_74_2 l_74_2 (fun R K k a => S_74_2 (fun p0 p1 p2 p3 p4 p5 p6 p7 p8 => K (p0, p1, p2, p3, p4, p5, p6, p7, p8, ())) k a.1 a.2.1 a.2.2.1 a.2.2.2.1 a.2.2.2.2.1 a.2.2.2.2.2.1 a.2.2.2.2.2.2.1 a.2.2.2.2.2.2.2.1 a.2.2.2.2.2.2.2.2.1) Y_74_2 (fun _ _ _ => by kernel_rfl) (fun _ _ _ => by
 unfold S_74_2
 repeat' first | apply gdN | apply condN | rfl) (ok0 _)
noncomputable def T_74_1 : PS := ⟨46, [(4, .kc (.whole 0)), (21, .kc (.whole 1)), (22, .hv (.int .i64)), (23, .hv (.int .i64)), (27, .hv (.slice (.arr 32 (.int .u8)))), (28, .hv (.int .i64)), (29, .hv (.int .i64))], [.vec 42 (.int .u32), .vec 24 (.slice (.arr 32 (.int .u8)))], 0⟩
inductive Sp.E_74_1 where
 | e0 (p0 p1 : Int) (p5 : List Int) (p6 : Zt74_0)
noncomputable def Sp.B_74_1 {R : Type} (r : Option E_74_1) (k0 : Int → Int → List Int → Zt74_0 → Option R) : Option R := match r with
 | none => none
 | some (.e0 p0 p1 p5 p6) => k0 p0 p1 p5 p6
theorem Bn_74_1 {A R : Type} {r : Option E_74_1} {f : A → Option R} {k0 : Int → Int → List Int → Zt74_0 → Option A} {l0 : Int → Int → List Int → Zt74_0 → Option R} (h0 : ∀ p0 p1 p5 p6, (k0 p0 p1 p5 p6).bind f = l0 p0 p1 p5 p6) : (B_74_1 r k0).bind f = B_74_1 r l0 := by
 cases r with
 | none => rfl
 | some e => cases e <;> first | apply h0
noncomputable def Y_74_1 {R : Type} (k : Ex → St → Option R) : E_74_1 → Option R
 | .e0 p0 p1 p5 p6 => k (Ex.exit 2) (sx 46 [(4, CV.whole 0), (21, CV.whole 1), (22, CV.int i64 p0), (23, CV.int i64 p1)] [Blk.vec 42 (Ty.int u32) p5, Blk.vec 24 (Ty.slice (Ty.arr 32 (Ty.int u8))) p6])
noncomputable def Sp.S_74_1 {R : Type} (K : Int → Int → List (List Int) → Int → Int → List Int → (List (List (List Int))) → Option R) (k : E_74_1 → Option R) (p0 p1 : Int) (p2 : List (List Int)) (p3 p4 : Int) (p5 : List Int) (p6 : List (List (List Int))) : Option R :=
 bif decide (p4 < p3) then gd (inB p4 (length p2)) (B_74_2 (L_74_2 4611686018427387904 0 p0 p1 p2 p3 p4 p5 (getD p2 (toNat p4) (Ty.dflt (Ty.arr 32 (Ty.int u8)))) p6) fun y7 y8 y9 y10 y11 y12 y13 => K y7 y8 y9 y10 (wrap i64 (y11 + 1)) y12 y13) else k (E_74_1.e0 p0 p1 p5 p6)
noncomputable def Sp.L_74_1 : Nat → Int → Int → List (List Int) → Int → Int → List Int → (List (List (List Int))) → Option E_74_1
 | 0, _, _, _, _, _, _, _ => none
 | m + 1, p0, p1, p2, p3, p4, p5, p6 => S_74_1 (L_74_1 m) some p0 p1 p2 p3 p4 p5 p6
noncomputable def l_74_1 (m : Nat) (a : T_74_1.E) : Option E_74_1 := L_74_1 m a.1 a.2.1 a.2.2.1 a.2.2.2.1 a.2.2.2.2.1 a.2.2.2.2.2.1 a.2.2.2.2.2.2.1
noncomputable def O_74_1 {R : Type} : Orc R := orL T_74_1 (l_74_1 FU) Y_74_1
theorem OK_74_1 {R : Type} : okF (R := R) sm_74 0 (ni (nf 74 0) 0) O_74_1 := lp noO_ok (os := [O_74_2]) ⟨OK_74_2, trivial⟩ T_74_1 l_74_1 (fun R K k a => S_74_1 (fun p0 p1 p2 p3 p4 p5 p6 => K (p0, p1, p2, p3, p4, p5, p6, ())) k a.1 a.2.1 a.2.2.1 a.2.2.2.1 a.2.2.2.2.1 a.2.2.2.2.2.1 a.2.2.2.2.2.2.1) Y_74_1 (fun _ => rfl) (fun _ _ => rfl) (fun k K a => by kernel_rfl) (fun Y K a => by
 unfold S_74_1
 repeat' first | apply gdN | apply condN | (apply Bn_74_2 <;> intros) | rfl) (ok0 _)
noncomputable def T_74_0 : PS := ⟨46, [(4, .kc (.whole 0)), (21, .kc (.whole 1)), (22, .hv (.int .i64)), (23, .hv (.int .i64))], [.vec 42 (.int .u32), .vec 24 (.slice (.arr 32 (.int .u8)))], 0⟩
inductive Sp.E_74_0 where
 | e0 (p2 : List Int)
noncomputable def Sp.B_74_0 {R : Type} (r : Option E_74_0) (k0 : List Int → Option R) : Option R := match r with
 | none => none
 | some (.e0 p2) => k0 p2
noncomputable def Y_74_0 {R : Type} (k : Ex → St → Option R) : E_74_0 → Option R
 | .e0 p2 => k (Ex.exit 0) (sx 46 [(4, CV.whole 0)] [Blk.vec 42 (Ty.int u32) p2])
noncomputable def Sp.S_74_0 {R : Type} (K : Int → Int → List Int → (List (List (List Int))) → Option R) (k : E_74_0 → Option R) (p0 p1 : Int) (p2 : List Int) (p3 : List (List (List Int))) : Option R :=
 bif decide (p1 < p0) then gd (inB p1 (length p3)) (gd (decide (toNat p1 < length p3) && true) (B_74_1 (L_74_1 4611686018427387904 p0 p1 (getD p3 (toNat p1) (Ty.dflt (Ty.slice (Ty.arr 32 (Ty.int u8))))) (↑(length (getD p3 (toNat p1) (Ty.dflt (Ty.slice (Ty.arr 32 (Ty.int u8)))))) : Int) 0 p2 p3) fun y4 y5 y6 y7 => K y4 (wrap i64 (y5 + 1)) y6 y7)) else k (E_74_0.e0 p2)
noncomputable def Sp.L_74_0 : Nat → Int → Int → List Int → (List (List (List Int))) → Option E_74_0
 | 0, _, _, _, _ => none
 | m + 1, p0, p1, p2, p3 => S_74_0 (L_74_0 m) some p0 p1 p2 p3
noncomputable def l_74_0 (m : Nat) (a : T_74_0.E) : Option E_74_0 := L_74_0 m a.1 a.2.1 a.2.2.1 a.2.2.2.1
noncomputable def O_74_0 {R : Type} : Orc R := orL T_74_0 (l_74_0 FU) Y_74_0
theorem OK_74_0 {R : Type} : okF (R := R) sm_74 0 (nf 74 0) O_74_0 := lp noO_ok (os := [O_74_1]) ⟨OK_74_1, trivial⟩ T_74_0 l_74_0 (fun R K k a => S_74_0 (fun p0 p1 p2 p3 => K (p0, p1, p2, p3, ())) k a.1 a.2.1 a.2.2.1 a.2.2.2.1) Y_74_0 (fun _ => rfl) (fun _ _ => rfl) (fun k K a => by kernel_rfl) (fun Y K a => by
 unfold S_74_0
 repeat' first | apply gdN | apply condN | (apply Bn_74_1 <;> intros) | rfl) (ok0 _)
noncomputable def F_74 (a0 : (Int × ((List (List Int)) × ((List (List Int)) × Unit)))) : Option ((List Int) × Int × Unit) :=
 gd (p_85 a0) (bif !(v_85 a0).1 then some ([], 1, PUnit.unit) else B_74_0 (L_74_0 4611686018427387904 (↑(2 : Nat) : Int) 0 [wrap u32 (a0.1)] [a0.2.1, a0.2.2.1]) fun y1 => some (y1, 0, PUnit.unit))
noncomputable def Sp.p_74 (a0 : (Int × ((List (List Int)) × ((List (List Int)) × Unit)))) : Bool := (F_74 a0).isSome
noncomputable def Sp.v_74 (a0 : (Int × ((List (List Int)) × ((List (List Int)) × Unit)))) : (List Int) × Int × Unit := (F_74 a0).getD (dfH R_74)
noncomputable def s_74 : Summ := shS A_74 R_74 (fun x => p_74 x.1) (fun x => v_74 x.1)
theorem pv_74 (a0 : (Int × ((List (List Int)) × ((List (List Int)) × Unit)))) {y : (List Int) × Int × Unit} (h : F_74 a0 = some y) : p_74 a0 = true ∧ v_74 a0 = y := pvG h
theorem run_74 (x : HDen A_74) (y : HDen R_74) (h : F_74 x.1 = some y) : rnF sm_74 1 74 A_74 R_74 x y := runG noO_ok (os := [O_74_0]) ⟨OK_74_0, trivial⟩ (Eq.trans (by kernel_rfl) h)
end
noncomputable section
abbrev A_38 : List Ty := [(.pair (.int .i64) (.pair (.int .i64) (.pair (.arr 32 (.int .u8)) (.pair (.pair (.int .i64) (.pair (.slice (.arr 32 (.int .u8))) (.pair (.slice (.arr 32 (.int .u8))) .unit))) .unit)))), (.int .i64)]
abbrev R_38 : List Ty := [.bool]
noncomputable def sm_38 : Nat → Option Summ := smL [(74, s_74)]
noncomputable def F_38 (a0 : (Int × (Int × ((List Int) × ((Int × ((List (List Int)) × ((List (List Int)) × Unit))) × Unit))))) (a1 : Int) : Option (Bool × Unit) :=
 gd (p_74 (a0.2.2.2.1)) (bif decide (a0.1 ≥ 1) then bif decide (a0.1 ≤ 2147483647) then bif decide (a0.2.1 ≥ 1) then bif decide (a0.2.1 ≤ a1) then some ((v_74 (a0.2.2.2.1)).2.1 == 0, PUnit.unit) else some (false, PUnit.unit) else some (false, PUnit.unit) else some (false, PUnit.unit) else some (false, PUnit.unit))
noncomputable def Sp.p_38 (a0 : (Int × (Int × ((List Int) × ((Int × ((List (List Int)) × ((List (List Int)) × Unit))) × Unit))))) (a1 : Int) : Bool := (F_38 a0 a1).isSome
noncomputable def Sp.v_38 (a0 : (Int × (Int × ((List Int) × ((Int × ((List (List Int)) × ((List (List Int)) × Unit))) × Unit))))) (a1 : Int) : Bool × Unit := (F_38 a0 a1).getD (dfH R_38)
noncomputable def s_38 : Summ := shN A_38 R_38 (fun x => p_38 x.1 x.2.1) (fun x => v_38 x.1 x.2.1)
theorem pv_38 (a0 : (Int × (Int × ((List Int) × ((Int × ((List (List Int)) × ((List (List Int)) × Unit))) × Unit))))) (a1 : Int) {y : Bool × Unit} (h : F_38 a0 a1 = some y) : p_38 a0 a1 = true ∧ v_38 a0 a1 = y := pvG h
theorem run_38 (x : HDen A_38) (y : HDen R_38) (h : F_38 x.1 x.2.1 = some y) : rnF sm_38 1 38 A_38 R_38 x y := runG noO_ok (os := []) trivial (Eq.trans (by kernel_rfl) h)
end
noncomputable section
abbrev A_13 : List Ty := [(.pair (.int .i64) (.pair (.int .i64) (.pair (.int .i64) (.pair (.pair (.int .i64) (.pair (.int .i64) (.pair (.arr 32 (.int .u8)) (.pair (.pair (.int .i64) (.pair (.slice (.arr 32 (.int .u8))) (.pair (.slice (.arr 32 (.int .u8))) .unit))) .unit)))) .unit))))]
abbrev R_13 : List Ty := [.bool]
noncomputable def sm_13 : Nat → Option Summ := smL [(37, s_37), (38, s_38)]
noncomputable def T_13_0 : PS := ⟨48, [(1, .kc (.ptr 0 []))], [.mem (.hv (.pair (.int .i64) (.pair (.int .i64) (.pair (.int .i64) (.pair (.pair (.int .i64) (.pair (.int .i64) (.pair (.arr 32 (.int .u8)) (.pair (.pair (.int .i64) (.pair (.slice (.arr 32 (.int .u8))) (.pair (.slice (.arr 32 (.int .u8))) .unit))) .unit)))) .unit)))))], 0⟩
inductive Sp.E_13_0 where
 | e0 (p0 : Int × Int × Int × (Int × Int × List Int × (Int × List (List Int) × List (List Int) × Unit) × Unit) × Unit)
 | e1
 | e2 (p0 : Int × Int × Int × (Int × Int × List Int × (Int × List (List Int) × List (List Int) × Unit) × Unit) × Unit)
noncomputable def Sp.B_13_0 {R : Type} (r : Option E_13_0) (k0 : (Int × Int × Int × (Int × Int × List Int × (Int × List (List Int) × List (List Int) × Unit) × Unit) × Unit) → Option R) (k1 : Option R) (k2 : (Int × Int × Int × (Int × Int × List Int × (Int × List (List Int) × List (List Int) × Unit) × Unit) × Unit) → Option R) : Option R := match r with
 | none => none
 | some (.e0 p0) => k0 p0
 | some (.e1) => k1
 | some (.e2 p0) => k2 p0
noncomputable def Y_13_0 {R : Type} (k : Ex → St → Option R) : E_13_0 → Option R
 | .e0 p0 => k Ex.ret (sx 48 [(2, CV.bool (Int.tmod (p0.2.2.1) (32 :Int) == (0 :Int)))] [])
 | .e1 => k Ex.ret (sx 48 [(2, CV.bool false)] [])
 | .e2 p0 => k Ex.ret (sx 48 [(2, CV.bool (p0.2.2.1 == p0.2.2.2.1.2.1))] [])
noncomputable def Sp.S_13_0 {R : Type} (k : E_13_0 → Option R) (p0 : Int × Int × Int × (Int × Int × List Int × (Int × List (List Int) × List (List Int) × Unit) × Unit) × Unit) : Option R :=
 bif p0.1 == 1 then bif decide (p0.2.2.1 ≥ 0) then bif decide (p0.2.2.1 < p0.2.2.2.1.2.1) then k (E_13_0.e0 p0) else k (E_13_0.e1) else k (E_13_0.e1) else bif p0.1 == 2 then k (E_13_0.e2 p0) else k (E_13_0.e1)
noncomputable def Sp.J_13_0 (p0 : Int × Int × Int × (Int × Int × List Int × (Int × List (List Int) × List (List Int) × Unit) × Unit) × Unit) : Option E_13_0 := S_13_0 some p0
noncomputable def O_13_0 {R : Type} : Orc R := orL T_13_0 (fun a => J_13_0 a.1) Y_13_0
theorem OK_13_0 {R : Type} : okF (R := R) sm_13 0 (nf 13 0) O_13_0 := jp noO_ok (os := []) trivial T_13_0 (fun R k a => S_13_0 k a.1) Y_13_0 (fun k a => by kernel_rfl) (fun Y a => by
 unfold S_13_0
 repeat' first | apply gdN | apply condN | rfl) (ok0 _)
noncomputable def F_13 (a0 : (Int × (Int × (Int × ((Int × (Int × ((List Int) × ((Int × ((List (List Int)) × ((List (List Int)) × Unit))) × Unit)))) × Unit))))) : Option (Bool × Unit) :=
 gd (p_37 a0) (bif (v_37 a0).1 then some (true, PUnit.unit) else bif a0.2.1 != 0 then bif a0.2.1 != 1 then some (false, PUnit.unit) else gd (p_38 (a0.2.2.2.1) 1484) (bif !(v_38 (a0.2.2.2.1) 1484).1 then some (false, PUnit.unit) else B_13_0 (J_13_0 a0) (fun y4 => some (Int.tmod (y4.2.2.1) (32 :Int) == (0 :Int), PUnit.unit)) (some (false, PUnit.unit)) fun y5 => some (y5.2.2.1 == y5.2.2.2.1.2.1, PUnit.unit)) else gd (p_38 (a0.2.2.2.1) 1484) (bif !(v_38 (a0.2.2.2.1) 1484).1 then some (false, PUnit.unit) else B_13_0 (J_13_0 a0) (fun y6 => some (Int.tmod (y6.2.2.1) (32 :Int) == (0 :Int), PUnit.unit)) (some (false, PUnit.unit)) fun y7 => some (y7.2.2.1 == y7.2.2.2.1.2.1, PUnit.unit)))
noncomputable def Sp.p_13 (a0 : (Int × (Int × (Int × ((Int × (Int × ((List Int) × ((Int × ((List (List Int)) × ((List (List Int)) × Unit))) × Unit)))) × Unit))))) : Bool := (F_13 a0).isSome
noncomputable def Sp.v_13 (a0 : (Int × (Int × (Int × ((Int × (Int × ((List Int) × ((Int × ((List (List Int)) × ((List (List Int)) × Unit))) × Unit)))) × Unit))))) : Bool × Unit := (F_13 a0).getD (dfH R_13)
noncomputable def s_13 : Summ := shN A_13 R_13 (fun x => p_13 x.1) (fun x => v_13 x.1)
theorem pv_13 (a0 : (Int × (Int × (Int × ((Int × (Int × ((List Int) × ((Int × ((List (List Int)) × ((List (List Int)) × Unit))) × Unit)))) × Unit))))) {y : Bool × Unit} (h : F_13 a0 = some y) : p_13 a0 = true ∧ v_13 a0 = y := pvG h
theorem run_13 (x : HDen A_13) (y : HDen R_13) (h : F_13 x.1 = some y) : rnF sm_13 1 13 A_13 R_13 x y := runG noO_ok (os := [O_13_0]) ⟨OK_13_0, trivial⟩ (Eq.trans (by kernel_rfl) h)
end
noncomputable section
abbrev A_69 : List Ty := [(.pair (.slice (.int .u32)) (.pair (.slice (.int .i64)) (.pair (.int .i64) .unit)))]
abbrev R_69 : List Ty := [.bool]
noncomputable def sm_69 : Nat → Option Summ := smL []
noncomputable def T_69_114_0_0 : PS := ⟨19, [(0, .hv (.slice (.int .i64))), (1, .kc (.clo 96 (.pair (.ptr 0 []) (.pure .unit PUnit.unit)))), (7, .hv (.int .i64)), (8, .hv (.int .i64))], [.mem (.hv (.pair (.slice (.int .u32)) (.pair (.slice (.int .i64)) (.pair (.int .i64) .unit))))], 1⟩
inductive Sp.E_69_114_0_0 where
 | e0 (p2 : Int) (p3 : List Int × List Int × Int × Unit)
 | e1 (p3 : List Int × List Int × Int × Unit)
noncomputable def Sp.B_69_114_0_0 {R : Type} (r : Option E_69_114_0_0) (k0 : Int → (List Int × List Int × Int × Unit) → Option R) (k1 : (List Int × List Int × Int × Unit) → Option R) : Option R := match r with
 | none => none
 | some (.e0 p2 p3) => k0 p2 p3
 | some (.e1 p3) => k1 p3
noncomputable def Y_69_114_0_0 {R : Type} (k : Ex → St → Option R) : E_69_114_0_0 → Option R
 | .e0 p2 p3 => k Ex.ret (sx 19 [(4, CV.int i64 p2)] [Blk.mem (CV.pure (Ty.pair (Ty.slice (Ty.int u32)) (Ty.pair (Ty.slice (Ty.int i64)) (Ty.pair (Ty.int i64) Ty.unit))) p3)] 1)
 | .e1 p3 => k (Ex.exit 0) (sx 19 [] [Blk.mem (CV.pure (Ty.pair (Ty.slice (Ty.int u32)) (Ty.pair (Ty.slice (Ty.int i64)) (Ty.pair (Ty.int i64) Ty.unit))) p3)] 1)
noncomputable def Sp.S_69_114_0_0 {R : Type} (K : List Int → Int → Int → (List Int × List Int × Int × Unit) → Option R) (k : E_69_114_0_0 → Option R) (p0 : List Int) (p1 p2 : Int) (p3 : List Int × List Int × Int × Unit) : Option R :=
 bif decide (p2 < p1) then gd (inB p2 (length p0)) (bif decide (getD p0 (toNat p2) (0 :Int) < (0 :Int)) then k (E_69_114_0_0.e0 p2 p3) else bif decide (getD p0 (toNat p2) 0 > p3.2.2.1) then k (E_69_114_0_0.e0 p2 p3) else K p0 p1 (wrap i64 (p2 + 1)) p3) else k (E_69_114_0_0.e1 p3)
noncomputable def Sp.L_69_114_0_0 : Nat → List Int → Int → Int → (List Int × List Int × Int × Unit) → Option E_69_114_0_0
 | 0, _, _, _, _ => none
 | m + 1, p0, p1, p2, p3 => S_69_114_0_0 (L_69_114_0_0 m) some p0 p1 p2 p3
noncomputable def l_69_114_0_0 (m : Nat) (a : T_69_114_0_0.E) : Option E_69_114_0_0 := L_69_114_0_0 m a.1 a.2.1 a.2.2.1 a.2.2.2.1
noncomputable def O_69_114_0_0 {R : Type} : Orc R := orL T_69_114_0_0 (l_69_114_0_0 FU) Y_69_114_0_0
theorem OK_69_114_0_0 {R : Type} : okF (R := R) sm_69 1 (nf 114 0) O_69_114_0_0 := lp0 T_69_114_0_0 l_69_114_0_0 (fun R K k a => S_69_114_0_0 (fun p0 p1 p2 p3 => K (p0, p1, p2, p3, ())) k a.1 a.2.1 a.2.2.1 a.2.2.2.1) Y_69_114_0_0 (fun _ _ _ => by kernel_rfl) (fun _ _ _ => by
 unfold S_69_114_0_0
 repeat' first | apply gdN | apply condN | rfl) (ok0 _)
noncomputable def g_69_114 {R : Type} : List CV → List Blk → (CV → List Blk → Option R) → Option R := evFnL sm_69 FU (ovr noO (evFn sm_69 fns FU 1)) (mkT (fB fns 114) [O_69_114_0_0]) (fO fns 114)
theorem g_69_114_ok {R : Type} (args : List CV) (hp : List Blk) (k : CV → List Blk → Option R) (r : R) (h : g_69_114 args hp k = some r) : evFn sm_69 fns FU 2 114 args hp k = some r := runG noO_ok (os := [O_69_114_0_0]) ⟨OK_69_114_0_0, trivial⟩ h
noncomputable def ov_69_95 {R : Type} : Nat → Option (List CV → List Blk → (CV → List Blk → Option R) → Option R) := fun f' => bif Nat.beq f' 114 then some g_69_114 else none
theorem ov_69_95_ok {R : Type} : OvrOK (R := R) ov_69_95 (evFn sm_69 fns FU 2) := by
 intro f' g h args hp k r hg
 dsimp only [ov_69_95] at h
 by_cases h114 : f' = 114
 · subst h114
   injection h with h
   subst h
   exact evFn_le 0 (g_69_114_ok _ _ _ _ hg)
 rw [nbeq_ne h114, cond_false] at h
 cases h
noncomputable def g_69_95 {R : Type} : List CV → List Blk → (CV → List Blk → Option R) → Option R := evFnL sm_69 FU (ovr ov_69_95 (evFn sm_69 fns FU 2)) (mkT (fB fns 95) []) (fO fns 95)
theorem g_69_95_ok {R : Type} (args : List CV) (hp : List Blk) (k : CV → List Blk → Option R) (r : R) (h : g_69_95 args hp k = some r) : evFn sm_69 fns FU 3 95 args hp k = some r := runG ov_69_95_ok (os := []) trivial h
noncomputable def ov_69_69 {R : Type} : Nat → Option (List CV → List Blk → (CV → List Blk → Option R) → Option R) := fun f' => bif Nat.beq f' 95 then some g_69_95 else none
theorem ov_69_69_ok {R : Type} : OvrOK (R := R) ov_69_69 (evFn sm_69 fns FU 3) := by
 intro f' g h args hp k r hg
 dsimp only [ov_69_69] at h
 by_cases h95 : f' = 95
 · subst h95
   injection h with h
   subst h
   exact evFn_le 0 (g_69_95_ok _ _ _ _ hg)
 rw [nbeq_ne h95, cond_false] at h
 cases h
noncomputable def F_69 (a0 : ((List Int) × ((List Int) × (Int × Unit)))) : Option (Bool × Unit) :=
 bif decide ((↑(length (a0.2.1)) : Int) < 1) then some (false, PUnit.unit) else bif decide ((↑(length (a0.2.1)) : Int) > 64) then some (false, PUnit.unit) else bif (↑(length (a0.1)) : Int) != wrap i64 ((↑(length (a0.2.1)) : Int) * 64) then some (false, PUnit.unit) else bif decide (a0.2.2.1 < 1) then some (false, PUnit.unit) else bif decide (a0.2.2.1 > 1000000) then some (false, PUnit.unit) else B_69_114_0_0 (L_69_114_0_0 4611686018427387904 (a0.2.1) (↑(length (a0.2.1)) : Int) 0 a0) (fun y23 y24 => some (!decide (y23 ≥ 0), PUnit.unit)) fun y25 => some (true, PUnit.unit)
noncomputable def Sp.p_69 (a0 : ((List Int) × ((List Int) × (Int × Unit)))) : Bool := (F_69 a0).isSome
noncomputable def Sp.v_69 (a0 : ((List Int) × ((List Int) × (Int × Unit)))) : Bool × Unit := (F_69 a0).getD (dfH R_69)
noncomputable def s_69 : Summ := shN A_69 R_69 (fun x => p_69 x.1) (fun x => v_69 x.1)
theorem run_69 (x : HDen A_69) (y : HDen R_69) (h : F_69 x.1 = some y) : rnF sm_69 4 69 A_69 R_69 x y := runG ov_69_69_ok (os := []) trivial (Eq.trans (by kernel_rfl) h)
end
noncomputable section
abbrev A_70 : List Ty := [(.int .i64)]
abbrev R_70 : List Ty := [.bool]
noncomputable def sm_70 : Nat → Option Summ := smL []
noncomputable def F_70 (a0 : Int) : Option (Bool × Unit) :=
 bif Int.tmod a0 (2 :Int) == (0 :Int) then bif decide (a0 ≥ 18) then some (decide (a0 ≤ 64), PUnit.unit) else some (false, PUnit.unit) else some (false, PUnit.unit)
noncomputable def Sp.p_70 (a0 : Int) : Bool := (F_70 a0).isSome
noncomputable def Sp.v_70 (a0 : Int) : Bool × Unit := (F_70 a0).getD (dfH R_70)
noncomputable def s_70 : Summ := shN A_70 R_70 (fun x => p_70 x.1) (fun x => v_70 x.1)
theorem run_70 (x : HDen A_70) (y : HDen R_70) (h : F_70 x.1 = some y) : rnF sm_70 1 70 A_70 R_70 x y := runG noO_ok (os := []) trivial (Eq.trans (by kernel_rfl) h)
end
noncomputable section
abbrev A_33 : List Ty := [(.pair (.pair (.slice (.int .u32)) (.pair (.slice (.int .i64)) (.pair (.int .i64) .unit))) (.pair (.arr 32 (.int .u8)) .unit))]
abbrev R_33 : List Ty := [.bool]
noncomputable def sm_33 : Nat → Option Summ := smL [(69, s_69), (70, s_70)]
noncomputable def F_33 (a0 : (((List Int) × ((List Int) × (Int × Unit))) × ((List Int) × Unit))) : Option (Bool × Unit) :=
 gd (p_69 (a0.1)) (bif (v_69 (a0.1)).1 then gd (p_70 (↑(length (a0.1.2.1)) : Int)) (some ((v_70 (↑(length (a0.1.2.1)) : Int)).1, PUnit.unit)) else some (false, PUnit.unit))
noncomputable def Sp.p_33 (a0 : (((List Int) × ((List Int) × (Int × Unit))) × ((List Int) × Unit))) : Bool := (F_33 a0).isSome
noncomputable def Sp.v_33 (a0 : (((List Int) × ((List Int) × (Int × Unit))) × ((List Int) × Unit))) : Bool × Unit := (F_33 a0).getD (dfH R_33)
noncomputable def s_33 : Summ := shN A_33 R_33 (fun x => p_33 x.1) (fun x => v_33 x.1)
theorem run_33 (x : HDen A_33) (y : HDen R_33) (h : F_33 x.1 = some y) : rnF sm_33 1 33 A_33 R_33 x y := runG noO_ok (os := []) trivial (Eq.trans (by kernel_rfl) h)
end
noncomputable section
abbrev A_41 : List Ty := [(.int .i64)]
abbrev R_41 : List Ty := [(.pair (.int .i64) (.pair (.int .i64) (.pair (.int .i64) (.pair (.pair (.int .i64) (.pair (.int .i64) (.pair (.arr 32 (.int .u8)) (.pair (.pair (.int .i64) (.pair (.slice (.arr 32 (.int .u8))) (.pair (.slice (.arr 32 (.int .u8))) .unit))) .unit)))) .unit)))), (.pair (.pair (.slice (.int .u32)) (.pair (.slice (.int .i64)) (.pair (.int .i64) .unit))) (.pair (.arr 32 (.int .u8)) .unit)), (.pair (.int .i64) (.pair (.int .u32) .unit)), (.int .i64)]
noncomputable def sm_41 : Nat → Option Summ := smL []
noncomputable def F_41 (a0 : Int) : Option ((Int × (Int × (Int × ((Int × (Int × ((List Int) × ((Int × ((List (List Int)) × ((List (List Int)) × Unit))) × Unit)))) × Unit)))) × (((List Int) × ((List Int) × (Int × Unit))) × ((List Int) × Unit)) × (Int × (Int × Unit)) × Int × Unit) :=
 some ((0, 0, 0, (0, 0, replicate 32 (0 :Int), (0, [], [], PUnit.unit), PUnit.unit), PUnit.unit), (([], [], 0, PUnit.unit), replicate 32 (0 :Int), PUnit.unit), (0, 0, PUnit.unit), a0, PUnit.unit)
noncomputable def Sp.p_41 (a0 : Int) : Bool := (F_41 a0).isSome
noncomputable def Sp.v_41 (a0 : Int) : (Int × (Int × (Int × ((Int × (Int × ((List Int) × ((Int × ((List (List Int)) × ((List (List Int)) × Unit))) × Unit)))) × Unit)))) × (((List Int) × ((List Int) × (Int × Unit))) × ((List Int) × Unit)) × (Int × (Int × Unit)) × Int × Unit := (F_41 a0).getD (dfH R_41)
noncomputable def s_41 : Summ := shS A_41 R_41 (fun x => p_41 x.1) (fun x => v_41 x.1)
theorem run_41 (x : HDen A_41) (y : HDen R_41) (h : F_41 x.1 = some y) : rnF sm_41 1 41 A_41 R_41 x y := runG noO_ok (os := []) trivial (Eq.trans (by kernel_rfl) h)
end
noncomputable section
abbrev A_44 : List Ty := [(.pair (.pair (.slice (.int .u32)) (.pair (.slice (.int .i64)) (.pair (.int .i64) .unit))) (.pair (.arr 32 (.int .u8)) .unit))]
abbrev R_44 : List Ty := [(.int .i64)]
noncomputable def sm_44 : Nat → Option Summ := smL []
noncomputable def F_44 (a0 : (((List Int) × ((List Int) × (Int × Unit))) × ((List Int) × Unit))) : Option (Int × Unit) :=
 some (wrap i64 (Int.tdiv (↑(length (a0.1.1)) : Int) 2), PUnit.unit)
noncomputable def Sp.p_44 (a0 : (((List Int) × ((List Int) × (Int × Unit))) × ((List Int) × Unit))) : Bool := (F_44 a0).isSome
noncomputable def Sp.v_44 (a0 : (((List Int) × ((List Int) × (Int × Unit))) × ((List Int) × Unit))) : Int × Unit := (F_44 a0).getD (dfH R_44)
noncomputable def s_44 : Summ := shN A_44 R_44 (fun x => p_44 x.1) (fun x => v_44 x.1)
theorem run_44 (x : HDen A_44) (y : HDen R_44) (h : F_44 x.1 = some y) : rnF sm_44 1 44 A_44 R_44 x y := runG noO_ok (os := []) trivial (Eq.trans (by kernel_rfl) h)
end
noncomputable section
abbrev A_61 : List Ty := [(.pair (.int .i64) (.pair (.int .u32) .unit))]
abbrev R_61 : List Ty := [.bool]
noncomputable def sm_61 : Nat → Option Summ := smL []
noncomputable def F_61 (a0 : (Int × (Int × Unit))) : Option (Bool × Unit) :=
 bif decide (a0.1 ≥ 0) then some (decide (a0.1 ≤ 1099511627776), PUnit.unit) else some (false, PUnit.unit)
noncomputable def Sp.p_61 (a0 : (Int × (Int × Unit))) : Bool := (F_61 a0).isSome
noncomputable def Sp.v_61 (a0 : (Int × (Int × Unit))) : Bool × Unit := (F_61 a0).getD (dfH R_61)
noncomputable def s_61 : Summ := shN A_61 R_61 (fun x => p_61 x.1) (fun x => v_61 x.1)
theorem run_61 (x : HDen A_61) (y : HDen R_61) (h : F_61 x.1 = some y) : rnF sm_61 1 61 A_61 R_61 x y := runG noO_ok (os := []) trivial (Eq.trans (by kernel_rfl) h)
end
noncomputable section
abbrev A_101 : List Ty := [(.pair (.slice (.int .u32)) (.pair (.slice (.int .i64)) (.pair (.int .i64) .unit))), (.pair (.int .i64) (.pair (.int .u32) .unit)), (.int .i64), (.int .i64)]
abbrev R_101 : List Ty := [(.int .i64)]
noncomputable def sm_101 : Nat → Option Summ := smL [(69, s_69)]
noncomputable def F_101 (a0 : ((List Int) × ((List Int) × (Int × Unit)))) (a1 : (Int × (Int × Unit))) (a2 a3 : Int) : Option (Int × Unit) :=
 gd (p_69 a0) (bif !(v_69 a0).1 then some (1, PUnit.unit) else bif decide (a1.1 < 0) then some (1, PUnit.unit) else bif decide (a1.1 > 1099511627776) then some (1, PUnit.unit) else bif decide (a2 < 0) then some (2, PUnit.unit) else bif decide (a2 ≥ a3) then some (2, PUnit.unit) else some (0, PUnit.unit))
noncomputable def Sp.p_101 (a0 : ((List Int) × ((List Int) × (Int × Unit)))) (a1 : (Int × (Int × Unit))) (a2 a3 : Int) : Bool := (F_101 a0 a1 a2 a3).isSome
noncomputable def Sp.v_101 (a0 : ((List Int) × ((List Int) × (Int × Unit)))) (a1 : (Int × (Int × Unit))) (a2 a3 : Int) : Int × Unit := (F_101 a0 a1 a2 a3).getD (dfH R_101)
noncomputable def s_101 : Summ := shN A_101 R_101 (fun x => p_101 x.1 x.2.1 x.2.2.1 x.2.2.2.1) (fun x => v_101 x.1 x.2.1 x.2.2.1 x.2.2.2.1)
theorem run_101 (x : HDen A_101) (y : HDen R_101) (h : F_101 x.1 x.2.1 x.2.2.1 x.2.2.2.1 = some y) : rnF sm_101 1 101 A_101 R_101 x y := runG noO_ok (os := []) trivial (Eq.trans (by kernel_rfl) h)
end
noncomputable section
abbrev A_76 : List Ty := [(.pair (.slice (.int .u32)) (.pair (.slice (.int .i64)) (.pair (.int .i64) .unit))), (.int .i64), (.int .u32), (.pair (.int .i64) (.pair (.int .u32) .unit))]
abbrev R_76 : List Ty := [(.pair (.slice (.int .u32)) (.pair (.slice (.int .i64)) (.pair (.int .i64) .unit))), (.pair (.int .i64) (.pair (.int .u32) .unit)), (.int .i64)]
noncomputable def sm_76 : Nat → Option Summ := smL [(25, s_25), (75, s_75), (101, s_101)]
noncomputable def F_76 (a0 : ((List Int) × ((List Int) × (Int × Unit)))) (a1 a2 : Int) (a3 : (Int × (Int × Unit))) : Option (((List Int) × ((List Int) × (Int × Unit))) × (Int × (Int × Unit)) × Int × Unit) :=
 gd (p_101 a0 a3 a1 (↑(length (a0.1)) : Int)) (bif (v_101 a0 a3 a1 (↑(length (a0.1)) : Int)).1 != 0 then some (([], [], 0, PUnit.unit), (0, 0, PUnit.unit), (v_101 a0 a3 a1 (↑(length (a0.1)) : Int)).1, PUnit.unit) else gd (room (length (a0.1)) 4) (gd (room (length (a0.2.1)) 8) (bif a3.1 == 0 then some ((a0.1, a0.2.1, a0.2.2.1, PUnit.unit), a3, 18, PUnit.unit) else bif a3.1 == 1 then gd (inB a1 (length (a0.1))) (gd (decide (toNat a1 < length (a0.1)) && true) (gd (inB a1 (length (a0.1))) (gd (decide (toNat a1 < length (a0.1)) && true && true) (some ((List.set (a0.1) (toNat a1) (Sp.andnI u32 (getD (a0.1) (toNat a1) 0) (Sp.andnI u32 (a3.2.1) a2)), a0.2.1, a0.2.2.1, PUnit.unit), (0, a3.2), 18, PUnit.unit))))) else gd (inB a1 (length (a0.1))) (gd (decide (toNat a1 < length (a0.1)) && true) (gd (inB a1 (length (a0.1))) (gd (decide (toNat a1 < length (a0.1)) && true && true) (some ((List.set (a0.1) (toNat a1) (Sp.andnI u32 (getD (a0.1) (toNat a1) 0) (Sp.andnI u32 4294967295 a2)), a0.2.1, a0.2.2.1, PUnit.unit), (wrap i64 (a3.1 - 1), a3.2), 0, PUnit.unit))))))))
noncomputable def Sp.p_76 (a0 : ((List Int) × ((List Int) × (Int × Unit)))) (a1 a2 : Int) (a3 : (Int × (Int × Unit))) : Bool := (F_76 a0 a1 a2 a3).isSome
noncomputable def Sp.v_76 (a0 : ((List Int) × ((List Int) × (Int × Unit)))) (a1 a2 : Int) (a3 : (Int × (Int × Unit))) : ((List Int) × ((List Int) × (Int × Unit))) × (Int × (Int × Unit)) × Int × Unit := (F_76 a0 a1 a2 a3).getD (dfH R_76)
noncomputable def s_76 : Summ := shS A_76 R_76 (fun x => p_76 x.1 x.2.1 x.2.2.1 x.2.2.2.1) (fun x => v_76 x.1 x.2.1 x.2.2.1 x.2.2.2.1)
theorem run_76 (x : HDen A_76) (y : HDen R_76) (h : F_76 x.1 x.2.1 x.2.2.1 x.2.2.2.1 = some y) : rnF sm_76 3 76 A_76 R_76 x y := runG noO_ok (os := []) trivial (Eq.trans (by kernel_rfl) h)
end
noncomputable section
abbrev A_27 : List Ty := [(.pair (.int .i64) (.pair (.int .i64) (.pair (.int .i64) (.pair (.pair (.int .i64) (.pair (.int .i64) (.pair (.arr 32 (.int .u8)) (.pair (.pair (.int .i64) (.pair (.slice (.arr 32 (.int .u8))) (.pair (.slice (.arr 32 (.int .u8))) .unit))) .unit)))) .unit)))), (.pair (.pair (.slice (.int .u32)) (.pair (.slice (.int .i64)) (.pair (.int .i64) .unit))) (.pair (.arr 32 (.int .u8)) .unit)), (.pair (.int .i64) (.pair (.int .i64) (.pair (.arr 32 (.int .u8)) (.pair (.pair (.int .i64) (.pair (.slice (.arr 32 (.int .u8))) (.pair (.slice (.arr 32 (.int .u8))) .unit))) .unit)))), (.pair (.int .i64) (.pair (.int .u32) .unit))]
abbrev R_27 : List Ty := [(.pair (.int .i64) (.pair (.int .i64) (.pair (.int .i64) (.pair (.pair (.int .i64) (.pair (.int .i64) (.pair (.arr 32 (.int .u8)) (.pair (.pair (.int .i64) (.pair (.slice (.arr 32 (.int .u8))) (.pair (.slice (.arr 32 (.int .u8))) .unit))) .unit)))) .unit)))), (.pair (.pair (.slice (.int .u32)) (.pair (.slice (.int .i64)) (.pair (.int .i64) .unit))) (.pair (.arr 32 (.int .u8)) .unit)), (.pair (.int .i64) (.pair (.int .u32) .unit)), (.int .i64)]
noncomputable def sm_27 : Nat → Option Summ := smL [(13, s_13), (25, s_25), (33, s_33), (37, s_37), (38, s_38), (41, s_41), (44, s_44), (61, s_61), (75, s_75), (76, s_76)]
noncomputable def g_27_43 {R : Type} : List CV → List Blk → (CV → List Blk → Option R) → Option R := evFnL sm_27 FU (ovr noO (evFn sm_27 fns FU 0)) (mkT (fB fns 43) [(fun _ _ => none)]) (fO fns 43)
theorem g_27_43_ok {R : Type} (args : List CV) (hp : List Blk) (k : CV → List Blk → Option R) (r : R) (h : g_27_43 args hp k = some r) : evFn sm_27 fns FU 1 43 args hp k = some r := runG noO_ok (os := [(fun _ _ => none)]) ⟨ok0 _, trivial⟩ h
noncomputable def ov_27_27 {R : Type} : Nat → Option (List CV → List Blk → (CV → List Blk → Option R) → Option R) := fun f' => bif Nat.beq f' 43 then some g_27_43 else none
theorem ov_27_27_ok {R : Type} : OvrOK (R := R) ov_27_27 (evFn sm_27 fns FU 1) := by
 intro f' g h args hp k r hg
 dsimp only [ov_27_27] at h
 by_cases h43 : f' = 43
 · subst h43
   injection h with h
   subst h
   exact evFn_le 0 (g_27_43_ok _ _ _ _ hg)
 rw [nbeq_ne h43, cond_false] at h
 cases h
noncomputable def F_27 (a0 : (Int × (Int × (Int × ((Int × (Int × ((List Int) × ((Int × ((List (List Int)) × ((List (List Int)) × Unit))) × Unit)))) × Unit))))) (a1 : (((List Int) × ((List Int) × (Int × Unit))) × ((List Int) × Unit))) (a2 : (Int × (Int × ((List Int) × ((Int × ((List (List Int)) × ((List (List Int)) × Unit))) × Unit))))) (a3 : (Int × (Int × Unit))) : Option ((Int × (Int × (Int × ((Int × (Int × ((List Int) × ((Int × ((List (List Int)) × ((List (List Int)) × Unit))) × Unit)))) × Unit)))) × (((List Int) × ((List Int) × (Int × Unit))) × ((List Int) × Unit)) × (Int × (Int × Unit)) × Int × Unit) :=
 gd (p_13 a0) (bif !(v_13 a0).1 then gd (p_41 1) (some ((v_41 1).1, (v_41 1).2.1, (v_41 1).2.2.1, (v_41 1).2.2.2.1, PUnit.unit)) else gd (p_33 a1) (bif !(v_33 a1).1 then gd (p_41 1) (some ((v_41 1).1, (v_41 1).2.1, (v_41 1).2.2.1, (v_41 1).2.2.2.1, PUnit.unit)) else gd (p_61 a3) (bif !(v_61 a3).1 then gd (p_41 1) (some ((v_41 1).1, (v_41 1).2.1, (v_41 1).2.2.1, (v_41 1).2.2.2.1, PUnit.unit)) else gd (p_44 a1) (gd (p_38 a2 (wrap i64 ((v_44 a1).1 - 564))) (bif !(v_38 a2 (wrap i64 ((v_44 a1).1 - 564))).1 then gd (p_41 1) (some ((v_41 1).1, (v_41 1).2.1, (v_41 1).2.2.1, (v_41 1).2.2.2.1, PUnit.unit)) else gd (p_37 a0) (gd (!(v_37 a0).1) (gd (p_41 6) (some ((v_41 6).1, (v_41 6).2.1, (v_41 6).2.2.1, (v_41 6).2.2.2.1, PUnit.unit)))))))))
noncomputable def Sp.p_27 (a0 : (Int × (Int × (Int × ((Int × (Int × ((List Int) × ((Int × ((List (List Int)) × ((List (List Int)) × Unit))) × Unit)))) × Unit))))) (a1 : (((List Int) × ((List Int) × (Int × Unit))) × ((List Int) × Unit))) (a2 : (Int × (Int × ((List Int) × ((Int × ((List (List Int)) × ((List (List Int)) × Unit))) × Unit))))) (a3 : (Int × (Int × Unit))) : Bool := (F_27 a0 a1 a2 a3).isSome
noncomputable def Sp.v_27 (a0 : (Int × (Int × (Int × ((Int × (Int × ((List Int) × ((Int × ((List (List Int)) × ((List (List Int)) × Unit))) × Unit)))) × Unit))))) (a1 : (((List Int) × ((List Int) × (Int × Unit))) × ((List Int) × Unit))) (a2 : (Int × (Int × ((List Int) × ((Int × ((List (List Int)) × ((List (List Int)) × Unit))) × Unit))))) (a3 : (Int × (Int × Unit))) : (Int × (Int × (Int × ((Int × (Int × ((List Int) × ((Int × ((List (List Int)) × ((List (List Int)) × Unit))) × Unit)))) × Unit)))) × (((List Int) × ((List Int) × (Int × Unit))) × ((List Int) × Unit)) × (Int × (Int × Unit)) × Int × Unit := (F_27 a0 a1 a2 a3).getD (dfH R_27)
noncomputable def s_27 : Summ := shS A_27 R_27 (fun x => p_27 x.1 x.2.1 x.2.2.1 x.2.2.2.1) (fun x => v_27 x.1 x.2.1 x.2.2.1 x.2.2.2.1)
theorem run_27 (x : HDen A_27) (y : HDen R_27) (h : F_27 x.1 x.2.1 x.2.2.1 x.2.2.2.1 = some y) : rnF sm_27 2 27 A_27 R_27 x y := runG ov_27_27_ok (os := [(fun _ _ => none)]) ⟨ok0 _, trivial⟩ (Eq.trans (by kernel_rfl) h)
end
noncomputable section
abbrev A_28 : List Ty := []
abbrev R_28 : List Ty := [(.pair (.int .i64) (.pair (.int .u32) .unit))]
noncomputable def sm_28 : Nat → Option Summ := smL []
noncomputable def F_28  : Option ((Int × (Int × Unit)) × Unit) :=
 some ((1099511627776, 0, PUnit.unit), PUnit.unit)
noncomputable def Sp.p_28  : Bool := (F_28 ).isSome
noncomputable def Sp.v_28  : (Int × (Int × Unit)) × Unit := (F_28 ).getD (dfH R_28)
noncomputable def s_28 : Summ := shN A_28 R_28 (fun x => p_28 ) (fun x => v_28 )
theorem run_28 (x : HDen A_28) (y : HDen R_28) (h : F_28  = some y) : rnF sm_28 1 28 A_28 R_28 x y := runG noO_ok (os := []) trivial (Eq.trans (by kernel_rfl) h)
end
noncomputable section
abbrev A_68 : List Ty := [(.pair (.slice (.int .u32)) (.pair (.slice (.int .i64)) (.pair (.int .i64) .unit))), (.pair (.slice (.int .u32)) (.pair (.slice (.int .i64)) (.pair (.int .i64) .unit)))]
abbrev R_68 : List Ty := [.bool]
noncomputable def sm_68 : Nat → Option Summ := smL []
noncomputable def T_68_0 : PS := ⟨66, [(2, .kc (.ptr 0 [])), (3, .kc (.ptr 1 [])), (5, .hv (.int .i64))], [.mem (.hv (.pair (.slice (.int .u32)) (.pair (.slice (.int .i64)) (.pair (.int .i64) .unit)))), .mem (.hv (.pair (.slice (.int .u32)) (.pair (.slice (.int .i64)) (.pair (.int .i64) .unit))))], 0⟩
inductive Sp.E_68_0 where
 | e0
 | e1 (p1 p2 : List Int × List Int × Int × Unit)
noncomputable def Sp.B_68_0 {R : Type} (r : Option E_68_0) (k0 : Option R) (k1 : (List Int × List Int × Int × Unit) → (List Int × List Int × Int × Unit) → Option R) : Option R := match r with
 | none => none
 | some (.e0) => k0
 | some (.e1 p1 p2) => k1 p1 p2
noncomputable def Y_68_0 {R : Type} (k : Ex → St → Option R) : E_68_0 → Option R
 | .e0 => k Ex.ret (sx 66 [(4, CV.bool false)] [])
 | .e1 p1 p2 => k (Ex.exit 0) (sx 66 [(2, CV.ptr 0 []), (3, CV.ptr 1 [])] [Blk.mem (CV.pure (Ty.pair (Ty.slice (Ty.int u32)) (Ty.pair (Ty.slice (Ty.int i64)) (Ty.pair (Ty.int i64) Ty.unit))) p1), Blk.mem (CV.pure (Ty.pair (Ty.slice (Ty.int u32)) (Ty.pair (Ty.slice (Ty.int i64)) (Ty.pair (Ty.int i64) Ty.unit))) p2)])
noncomputable def Sp.S_68_0 {R : Type} (K : Int → (List Int × List Int × Int × Unit) → (List Int × List Int × Int × Unit) → Option R) (k : E_68_0 → Option R) (p0 : Int) (p1 p2 : List Int × List Int × Int × Unit) : Option R :=
 bif decide (p0 < (↑(length (p1.1)) : Int)) then gd (inB p0 (length (p1.1))) (gd (inB p0 (length (p2.1))) (bif getD (p1.1) (toNat p0) 0 != getD (p2.1) (toNat p0) 0 then k (E_68_0.e0) else K (wrap i64 (p0 + 1)) p1 p2)) else k (E_68_0.e1 p1 p2)
noncomputable def Sp.L_68_0 : Nat → Int → (List Int × List Int × Int × Unit) → (List Int × List Int × Int × Unit) → Option E_68_0
 | 0, _, _, _ => none
 | m + 1, p0, p1, p2 => S_68_0 (L_68_0 m) some p0 p1 p2
noncomputable def l_68_0 (m : Nat) (a : T_68_0.E) : Option E_68_0 := L_68_0 m a.1 a.2.1 a.2.2.1
noncomputable def O_68_0 {R : Type} : Orc R := orL T_68_0 (l_68_0 FU) Y_68_0
theorem OK_68_0 {R : Type} : okF (R := R) sm_68 0 (nf 68 0) O_68_0 := lp0 T_68_0 l_68_0 (fun R K k a => S_68_0 (fun p0 p1 p2 => K (p0, p1, p2, ())) k a.1 a.2.1 a.2.2.1) Y_68_0 (fun _ _ _ => by kernel_rfl) (fun _ _ _ => by
 unfold S_68_0
 repeat' first | apply gdN | apply condN | rfl) (ok0 _)
noncomputable def T_68_1 : PS := ⟨66, [(2, .kc (.ptr 0 [])), (3, .kc (.ptr 1 [])), (6, .hv (.int .i64))], [.mem (.hv (.pair (.slice (.int .u32)) (.pair (.slice (.int .i64)) (.pair (.int .i64) .unit)))), .mem (.hv (.pair (.slice (.int .u32)) (.pair (.slice (.int .i64)) (.pair (.int .i64) .unit))))], 0⟩
inductive Sp.E_68_1 where
 | e0
 | e1
noncomputable def Sp.B_68_1 {R : Type} (r : Option E_68_1) (k0 k1 : Option R) : Option R := match r with
 | none => none
 | some (.e0) => k0
 | some (.e1) => k1
noncomputable def Y_68_1 {R : Type} (k : Ex → St → Option R) : E_68_1 → Option R
 | .e0 => k Ex.ret (sx 66 [(4, CV.bool false)] [])
 | .e1 => k (Ex.exit 2) (sx 66 [] [])
noncomputable def Sp.S_68_1 {R : Type} (K : Int → (List Int × List Int × Int × Unit) → (List Int × List Int × Int × Unit) → Option R) (k : E_68_1 → Option R) (p0 : Int) (p1 p2 : List Int × List Int × Int × Unit) : Option R :=
 bif decide (p0 < (↑(length (p1.2.1)) : Int)) then gd (inB p0 (length (p1.2.1))) (gd (inB p0 (length (p2.2.1))) (bif getD (p1.2.1) (toNat p0) 0 != getD (p2.2.1) (toNat p0) 0 then k (E_68_1.e0) else K (wrap i64 (p0 + 1)) p1 p2)) else k (E_68_1.e1)
noncomputable def Sp.L_68_1 : Nat → Int → (List Int × List Int × Int × Unit) → (List Int × List Int × Int × Unit) → Option E_68_1
 | 0, _, _, _ => none
 | m + 1, p0, p1, p2 => S_68_1 (L_68_1 m) some p0 p1 p2
noncomputable def l_68_1 (m : Nat) (a : T_68_1.E) : Option E_68_1 := L_68_1 m a.1 a.2.1 a.2.2.1
noncomputable def O_68_1 {R : Type} : Orc R := orL T_68_1 (l_68_1 FU) Y_68_1
theorem OK_68_1 {R : Type} : okF (R := R) sm_68 0 (nf 68 1) O_68_1 := lp0 T_68_1 l_68_1 (fun R K k a => S_68_1 (fun p0 p1 p2 => K (p0, p1, p2, ())) k a.1 a.2.1 a.2.2.1) Y_68_1 (fun _ _ _ => by kernel_rfl) (fun _ _ _ => by
 unfold S_68_1
 repeat' first | apply gdN | apply condN | rfl) (ok0 _)
noncomputable def F_68 (a0 : ((List Int) × ((List Int) × (Int × Unit)))) (a1 : ((List Int) × ((List Int) × (Int × Unit)))) : Option (Bool × Unit) :=
 bif a0.2.2.1 != a1.2.2.1 then some (false, PUnit.unit) else bif (↑(length (a0.1)) : Int) != (↑(length (a1.1)) : Int) then some (false, PUnit.unit) else bif (↑(length (a0.2.1)) : Int) != (↑(length (a1.2.1)) : Int) then some (false, PUnit.unit) else B_68_0 (L_68_0 4611686018427387904 0 a0 a1) (some (false, PUnit.unit)) fun y2 y3 => B_68_1 (L_68_1 4611686018427387904 0 y2 y3) (some (false, PUnit.unit)) (some (true, PUnit.unit))
noncomputable def Sp.p_68 (a0 : ((List Int) × ((List Int) × (Int × Unit)))) (a1 : ((List Int) × ((List Int) × (Int × Unit)))) : Bool := (F_68 a0 a1).isSome
noncomputable def Sp.v_68 (a0 : ((List Int) × ((List Int) × (Int × Unit)))) (a1 : ((List Int) × ((List Int) × (Int × Unit)))) : Bool × Unit := (F_68 a0 a1).getD (dfH R_68)
noncomputable def s_68 : Summ := shN A_68 R_68 (fun x => p_68 x.1 x.2.1) (fun x => v_68 x.1 x.2.1)
theorem run_68 (x : HDen A_68) (y : HDen R_68) (h : F_68 x.1 x.2.1 = some y) : rnF sm_68 1 68 A_68 R_68 x y := runG noO_ok (os := [O_68_0, O_68_1]) ⟨OK_68_0, OK_68_1, trivial⟩ (Eq.trans (by kernel_rfl) h)
end
noncomputable section
abbrev A_32 : List Ty := [(.pair (.pair (.slice (.int .u32)) (.pair (.slice (.int .i64)) (.pair (.int .i64) .unit))) (.pair (.arr 32 (.int .u8)) .unit)), (.pair (.pair (.slice (.int .u32)) (.pair (.slice (.int .i64)) (.pair (.int .i64) .unit))) (.pair (.arr 32 (.int .u8)) .unit))]
abbrev R_32 : List Ty := [.bool]
noncomputable def sm_32 : Nat → Option Summ := smL [(68, s_68)]
noncomputable def F_32 (a0 : (((List Int) × ((List Int) × (Int × Unit))) × ((List Int) × Unit))) (a1 : (((List Int) × ((List Int) × (Int × Unit))) × ((List Int) × Unit))) : Option (Bool × Unit) :=
 bif Ty.beq (Ty.arr 32 (Ty.int u8)) (a0.2.1) (a1.2.1) then gd (p_68 (a0.1) (a1.1)) (some ((v_68 (a0.1) (a1.1)).1, PUnit.unit)) else some (false, PUnit.unit)
noncomputable def Sp.p_32 (a0 : (((List Int) × ((List Int) × (Int × Unit))) × ((List Int) × Unit))) (a1 : (((List Int) × ((List Int) × (Int × Unit))) × ((List Int) × Unit))) : Bool := (F_32 a0 a1).isSome
noncomputable def Sp.v_32 (a0 : (((List Int) × ((List Int) × (Int × Unit))) × ((List Int) × Unit))) (a1 : (((List Int) × ((List Int) × (Int × Unit))) × ((List Int) × Unit))) : Bool × Unit := (F_32 a0 a1).getD (dfH R_32)
noncomputable def s_32 : Summ := shN A_32 R_32 (fun x => p_32 x.1 x.2.1) (fun x => v_32 x.1 x.2.1)
theorem run_32 (x : HDen A_32) (y : HDen R_32) (h : F_32 x.1 x.2.1 = some y) : rnF sm_32 1 32 A_32 R_32 x y := runG noO_ok (os := []) trivial (Eq.trans (by kernel_rfl) h)
end
noncomputable section
abbrev A_124 : List Ty := [(.int .u32), (.int .u32)]
abbrev R_124 : List Ty := [(.int .u32), (.int .u32)]
noncomputable def sm_124 : Nat → Option Summ := smL []
noncomputable def F_124 (a0 a1 : Int) : Option (Int × Int × Unit) :=
 some (wrap u32 (Int.fdiv (wrap u64 (wrap u64 a0 * wrap u64 a1)) 4294967296), wrap u32 (wrap u64 (wrap u64 a0 * wrap u64 a1)), PUnit.unit)
noncomputable def Sp.p_124 (a0 a1 : Int) : Bool := (F_124 a0 a1).isSome
noncomputable def Sp.v_124 (a0 a1 : Int) : Int × Int × Unit := (F_124 a0 a1).getD (dfH R_124)
noncomputable def s_124 : Summ := shN A_124 R_124 (fun x => p_124 x.1 x.2.1) (fun x => v_124 x.1 x.2.1)
theorem run_124 (x : HDen A_124) (y : HDen R_124) (h : F_124 x.1 x.2.1 = some y) : rnF sm_124 1 124 A_124 R_124 x y := runG noO_ok (os := []) trivial (Eq.trans (by kernel_rfl) h)
end
noncomputable section
abbrev A_125 : List Ty := [(.int .u64), (.int .u64)]
abbrev R_125 : List Ty := [(.int .u64), (.int .u64)]
noncomputable def sm_125 : Nat → Option Summ := smL []
noncomputable def F_125 (a0 a1 : Int) : Option (Int × Int × Unit) :=
 some (wrap u64 (wrap u64 (wrap u64 (Int.fdiv a0 4294967296 * Int.fdiv a1 4294967296) + Int.fdiv (wrap u64 (wrap u64 (Int.fdiv a0 4294967296 * Sp.andI u64 a1 4294967295) + Int.fdiv (wrap u64 (Sp.andI u64 a0 4294967295 * Sp.andI u64 a1 4294967295)) 4294967296)) 4294967296) + Int.fdiv (wrap u64 (Sp.andI u64 (wrap u64 (wrap u64 (Int.fdiv a0 4294967296 * Sp.andI u64 a1 4294967295) + Int.fdiv (wrap u64 (Sp.andI u64 a0 4294967295 * Sp.andI u64 a1 4294967295)) 4294967296)) 4294967295 + wrap u64 (Sp.andI u64 a0 4294967295 * Int.fdiv a1 4294967296))) 4294967296), wrap u64 (a0 * a1), PUnit.unit)
noncomputable def Sp.p_125 (a0 a1 : Int) : Bool := (F_125 a0 a1).isSome
noncomputable def Sp.v_125 (a0 a1 : Int) : Int × Int × Unit := (F_125 a0 a1).getD (dfH R_125)
noncomputable def s_125 : Summ := shN A_125 R_125 (fun x => p_125 x.1 x.2.1) (fun x => v_125 x.1 x.2.1)
theorem run_125 (x : HDen A_125) (y : HDen R_125) (h : F_125 x.1 x.2.1 = some y) : rnF sm_125 1 125 A_125 R_125 x y := runG noO_ok (os := []) trivial (Eq.trans (by kernel_rfl) h)
end
noncomputable section
abbrev A_118 : List Ty := [(.int .u64), (.int .u64)]
abbrev R_118 : List Ty := [(.int .u64), (.int .u64)]
noncomputable def sm_118 : Nat → Option Summ := smL [(124, s_124), (125, s_125)]
noncomputable def F_118 (a0 a1 : Int) : Option (Int × Int × Unit) :=
 gd (p_125 a0 a1) (some ((v_125 a0 a1).1, (v_125 a0 a1).2.1, PUnit.unit))
noncomputable def Sp.p_118 (a0 a1 : Int) : Bool := (F_118 a0 a1).isSome
noncomputable def Sp.v_118 (a0 a1 : Int) : Int × Int × Unit := (F_118 a0 a1).getD (dfH R_118)
noncomputable def s_118 : Summ := shN A_118 R_118 (fun x => p_118 x.1 x.2.1) (fun x => v_118 x.1 x.2.1)
theorem run_118 (x : HDen A_118) (y : HDen R_118) (h : F_118 x.1 x.2.1 = some y) : rnF sm_118 1 118 A_118 R_118 x y := runG noO_ok (os := []) trivial (Eq.trans (by kernel_rfl) h)
end
noncomputable section
abbrev A_99 : List Ty := [(.slice (.int .u32)), (.int .i64)]
abbrev R_99 : List Ty := [(.slice (.int .u32))]
noncomputable def sm_99 : Nat → Option Summ := smL [(118, s_118)]
noncomputable def T_99_2 : PS := ⟨48, [(7, .kc (.whole 0)), (8, .hv (.int .i64))], [.vec 42 (.int .u32)], 0⟩
inductive Sp.E_99_2 where
 | e0 (p1 : List Int)
noncomputable def Sp.B_99_2 {R : Type} (r : Option E_99_2) (k0 : List Int → Option R) : Option R := match r with
 | none => none
 | some (.e0 p1) => k0 p1
theorem Bn_99_2 {A R : Type} {r : Option E_99_2} {f : A → Option R} {k0 : List Int → Option A} {l0 : List Int → Option R} (h0 : ∀ p1, (k0 p1).bind f = l0 p1) : (B_99_2 r k0).bind f = B_99_2 r l0 := by
 cases r with
 | none => rfl
 | some e => cases e <;> first | apply h0
noncomputable def Y_99_2 {R : Type} (k : Ex → St → Option R) : E_99_2 → Option R
 | .e0 p1 => k (Ex.exit 0) (sx 48 [(7, CV.whole 0)] [Blk.vec 42 (Ty.int u32) p1])
noncomputable def Sp.S_99_2 {R : Type} (K : Int → List Int → Option R) (k : E_99_2 → Option R) (p0 : Int) (p1 : List Int) : Option R :=
 bif decide (p0 < (↑(length p1) : Int)) then gd (sl3 p0 (↑(length p1) : Int) (↑(length p1) : Int)) (gd (sl3 0 p0 (↑(length p1) : Int)) (gd (decide (0 + (toNat p0 - 0) ≤ length p1) && (decide (toNat p0 + (toNat (↑(length p1) : Int) - toNat p0) ≤ length p1) && decide (0 < length p1))) (K (wrap i64 (p0 + (↑(Nat.min (length (take (toNat p0 - 0) (drop 0 p1))) (toNat (↑(length p1) : Int) - toNat p0)) : Int))) (over p1 (toNat p0) (take (toNat (↑(length p1) : Int) - toNat p0) (take (toNat p0 - 0) (drop 0 p1))))))) else k (E_99_2.e0 p1)
noncomputable def Sp.L_99_2 : Nat → Int → List Int → Option E_99_2
 | 0, _, _ => none
 | m + 1, p0, p1 => S_99_2 (L_99_2 m) some p0 p1
noncomputable def l_99_2 (m : Nat) (a : T_99_2.E) : Option E_99_2 := L_99_2 m a.1 a.2.1
noncomputable def O_99_2 {R : Type} : Orc R := orL T_99_2 (l_99_2 FU) Y_99_2
theorem OK_99_2 {R : Type} : okF (R := R) sm_99 0 (ni (ni (nf 99 0) 0) 0) O_99_2 := lp0 T_99_2 l_99_2 (fun R K k a => S_99_2 (fun p0 p1 => K (p0, p1, ())) k a.1 a.2.1) Y_99_2 (fun _ _ _ => by kernel_rfl) (fun _ _ _ => by
 unfold S_99_2
 repeat' first | apply gdN | apply condN | rfl) (ok0 _)
noncomputable def T_99_1 : PS := ⟨48, [(0, .hv (.slice (.int .u32))), (6, .hv (.int .u64))], [], 0⟩
inductive Sp.E_99_1 where
 | e0 (y5 : List Int)
noncomputable def Sp.B_99_1 {R : Type} (r : Option E_99_1) (k0 : List Int → Option R) : Option R := match r with
 | none => none
 | some (.e0 y5) => k0 y5
theorem Bn_99_1 {A R : Type} {r : Option E_99_1} {f : A → Option R} {k0 : List Int → Option A} {l0 : List Int → Option R} (h0 : ∀ y5, (k0 y5).bind f = l0 y5) : (B_99_1 r k0).bind f = B_99_1 r l0 := by
 cases r with
 | none => rfl
 | some e => cases e <;> first | apply h0
noncomputable def Y_99_1 {R : Type} (k : Ex → St → Option R) : E_99_1 → Option R
 | .e0 y5 => k Ex.ret (sx 48 [(4, CV.whole 0)] [Blk.vec 42 (Ty.int u32) y5])
noncomputable def Sp.S_99_1 {R : Type} (k : E_99_1 → Option R) (p0 : List Int) (p1 : Int) : Option R :=
 gd (decide (0 ≤ wrap i64 p1) && (wrap i64 p1 == wrap i64 p1 && room (toNat (wrap i64 p1)) 4)) (gd (decide (0 + length (replicate (toNat (wrap i64 p1)) (0 :Int)) ≤ length (replicate (toNat (wrap i64 p1)) (0 :Int))) && decide (0 < length (replicate (toNat (wrap i64 p1)) (0 :Int)))) (B_99_2 (L_99_2 4611686018427387904 (↑(Nat.min (length p0) (length (replicate (toNat (wrap i64 p1)) (0 :Int)))) : Int) (over (replicate (toNat (wrap i64 p1)) (0 :Int)) 0 (take (length (replicate (toNat (wrap i64 p1)) (0 :Int))) p0))) fun y5 => k (E_99_1.e0 y5)))
noncomputable def Sp.J_99_1 (p0 : List Int) (p1 : Int) : Option E_99_1 := S_99_1 some p0 p1
noncomputable def O_99_1 {R : Type} : Orc R := orL T_99_1 (fun a => J_99_1 a.1 a.2.1) Y_99_1
theorem OK_99_1 {R : Type} : okF (R := R) sm_99 0 (ni (nf 99 0) 0) O_99_1 := jp noO_ok (os := [O_99_2]) ⟨OK_99_2, trivial⟩ T_99_1 (fun R k a => S_99_1 k a.1 a.2.1) Y_99_1 (fun k a => by kernel_rfl) (fun Y a => by
 unfold S_99_1
 repeat' first | apply gdN | apply condN | (apply Bn_99_2 <;> intros) | rfl) (ok0 _)
noncomputable def T_99_0 : PS := ⟨48, [(0, .hv (.slice (.int .u32))), (1, .hv (.int .i64))], [], 0⟩
inductive Sp.E_99_0 where
 | e0 (y1 : List Int)
noncomputable def Sp.B_99_0 {R : Type} (r : Option E_99_0) (k0 : List Int → Option R) : Option R := match r with
 | none => none
 | some (.e0 y1) => k0 y1
noncomputable def Y_99_0 {R : Type} (k : Ex → St → Option R) : E_99_0 → Option R
 | .e0 y1 => k Ex.ret (sx 48 [(4, CV.whole 0)] [Blk.vec 42 (Ty.int u32) y1])
noncomputable def Sp.S_99_0 {R : Type} (k : E_99_0 → Option R) (p0 : List Int) (p1 : Int) : Option R :=
 gd (p_118 (wrap u64 (↑(length p0) : Int)) (wrap u64 p1)) (bif decide ((v_118 (wrap u64 (↑(length p0) : Int)) (wrap u64 p1)).1 > 0) then none else bif decide ((v_118 (wrap u64 (↑(length p0) : Int)) (wrap u64 p1)).2.1 > 9223372036854775807) then none else B_99_1 (J_99_1 p0 ((v_118 (wrap u64 (↑(length p0) : Int)) (wrap u64 p1)).2.1)) fun y1 => k (E_99_0.e0 y1))
noncomputable def Sp.J_99_0 (p0 : List Int) (p1 : Int) : Option E_99_0 := S_99_0 some p0 p1
noncomputable def O_99_0 {R : Type} : Orc R := orL T_99_0 (fun a => J_99_0 a.1 a.2.1) Y_99_0
theorem OK_99_0 {R : Type} : okF (R := R) sm_99 0 (nf 99 0) O_99_0 := jp noO_ok (os := [O_99_1]) ⟨OK_99_1, trivial⟩ T_99_0 (fun R k a => S_99_0 k a.1 a.2.1) Y_99_0 (fun k a => by kernel_rfl) (fun Y a => by
 unfold S_99_0
 repeat' first | apply gdN | apply condN | (apply Bn_99_1 <;> intros) | rfl) (ok0 _)
noncomputable def F_99 (a0 : (List Int)) (a1 : Int) : Option ((List Int) × Unit) :=
 bif decide (a1 < 0) then none else B_99_0 (J_99_0 a0 a1) fun y1 => some (y1, PUnit.unit)
noncomputable def Sp.p_99 (a0 : (List Int)) (a1 : Int) : Bool := (F_99 a0 a1).isSome
noncomputable def Sp.v_99 (a0 : (List Int)) (a1 : Int) : (List Int) × Unit := (F_99 a0 a1).getD (dfH R_99)
noncomputable def s_99 : Summ := shS A_99 R_99 (fun x => p_99 x.1 x.2.1) (fun x => v_99 x.1 x.2.1)
theorem run_99 (x : HDen A_99) (y : HDen R_99) (h : F_99 x.1 x.2.1 = some y) : rnF sm_99 1 99 A_99 R_99 x y := runG noO_ok (os := [O_99_0]) ⟨OK_99_0, trivial⟩ (Eq.trans (by kernel_rfl) h)
end
noncomputable section
abbrev A_72 : List Ty := [(.int .i64), (.int .i64)]
abbrev R_72 : List Ty := [(.pair (.slice (.int .u32)) (.pair (.slice (.int .i64)) (.pair (.int .i64) .unit))), (.int .i64)]
noncomputable def sm_72 : Nat → Option Summ := smL [(99, s_99)]
noncomputable def F_72 (a0 a1 : Int) : Option (((List Int) × ((List Int) × (Int × Unit))) × Int × Unit) :=
 bif decide (a0 < 1) then some (([], [], 0, PUnit.unit), 2, PUnit.unit) else bif decide (a0 > 64) then some (([], [], 0, PUnit.unit), 2, PUnit.unit) else bif decide (a1 < 1) then some (([], [], 0, PUnit.unit), 2, PUnit.unit) else bif decide (a1 > 1000000) then some (([], [], 0, PUnit.unit), 2, PUnit.unit) else gd (p_99 [4294967295] (wrap i64 (a0 * 64))) (gd (decide (0 ≤ a0) && (a0 == a0 && room (toNat a0) 8)) (some (((v_99 [4294967295] (wrap i64 (a0 * 64))).1, replicate (toNat a0) (0 :Int), a1, PUnit.unit), 0, PUnit.unit)))
noncomputable def Sp.p_72 (a0 a1 : Int) : Bool := (F_72 a0 a1).isSome
noncomputable def Sp.v_72 (a0 a1 : Int) : ((List Int) × ((List Int) × (Int × Unit))) × Int × Unit := (F_72 a0 a1).getD (dfH R_72)
noncomputable def s_72 : Summ := shS A_72 R_72 (fun x => p_72 x.1 x.2.1) (fun x => v_72 x.1 x.2.1)
theorem run_72 (x : HDen A_72) (y : HDen R_72) (h : F_72 x.1 x.2.1 = some y) : rnF sm_72 1 72 A_72 R_72 x y := runG noO_ok (os := []) trivial (Eq.trans (by kernel_rfl) h)
end
noncomputable section
abbrev A_35 : List Ty := [(.int .i64), (.int .i64), (.arr 32 (.int .u8))]
abbrev R_35 : List Ty := [(.pair (.pair (.slice (.int .u32)) (.pair (.slice (.int .i64)) (.pair (.int .i64) .unit))) (.pair (.arr 32 (.int .u8)) .unit)), (.int .i64)]
noncomputable def sm_35 : Nat → Option Summ := smL [(70, s_70), (72, s_72)]
noncomputable def F_35 (a0 a1 : Int) (a2 : (List Int)) : Option ((((List Int) × ((List Int) × (Int × Unit))) × ((List Int) × Unit)) × Int × Unit) :=
 gd (p_70 a0) (bif !(v_70 a0).1 then some ((([], [], 0, PUnit.unit), replicate 32 (0 :Int), PUnit.unit), 2, PUnit.unit) else gd (p_72 a0 a1) (bif (v_72 a0 a1).2.1 != 0 then some ((([], [], 0, PUnit.unit), replicate 32 (0 :Int), PUnit.unit), 2, PUnit.unit) else some (((v_72 a0 a1).1, a2, PUnit.unit), 0, PUnit.unit)))
noncomputable def Sp.p_35 (a0 a1 : Int) (a2 : (List Int)) : Bool := (F_35 a0 a1 a2).isSome
noncomputable def Sp.v_35 (a0 a1 : Int) (a2 : (List Int)) : (((List Int) × ((List Int) × (Int × Unit))) × ((List Int) × Unit)) × Int × Unit := (F_35 a0 a1 a2).getD (dfH R_35)
noncomputable def s_35 : Summ := shS A_35 R_35 (fun x => p_35 x.1 x.2.1 x.2.2.1) (fun x => v_35 x.1 x.2.1 x.2.2.1)
theorem run_35 (x : HDen A_35) (y : HDen R_35) (h : F_35 x.1 x.2.1 x.2.2.1 = some y) : rnF sm_35 1 35 A_35 R_35 x y := runG noO_ok (os := []) trivial (Eq.trans (by kernel_rfl) h)
end
noncomputable section
abbrev A_8 : List Ty := []
abbrev R_8 : List Ty := [.bool]
noncomputable def sm_8 : Nat → Option Summ := smL [(10, s_10), (11, s_11), (13, s_13), (27, s_27), (28, s_28), (32, s_32), (35, s_35)]
noncomputable def F_8  : Option (Bool × Unit) :=
 gd (p_35 18 10 (replicate 32 (0 :Int))) (gd p_11 (gd p_28 (gd (p_27 (v_11.1) ((v_35 18 10 (replicate 32 (0 :Int))).1) (1, 1, replicate 32 (0 :Int), (0, [], [], PUnit.unit), PUnit.unit) (v_28.1)) (bif (v_35 18 10 (replicate 32 (0 :Int))).2.1 == 0 then gd p_11 (gd (p_13 (v_11.1)) (bif (v_13 (v_11.1)).1 then bif (v_27 (v_11.1) ((v_35 18 10 (replicate 32 (0 :Int))).1) (1, 1, replicate 32 (0 :Int), (0, [], [], PUnit.unit), PUnit.unit) (v_28.1)).2.2.2.1 == 1 then gd (p_10 ((v_27 (v_11.1) ((v_35 18 10 (replicate 32 (0 :Int))).1) (1, 1, replicate 32 (0 :Int), (0, [], [], PUnit.unit), PUnit.unit) (v_28.1)).1)) (bif (v_10 ((v_27 (v_11.1) ((v_35 18 10 (replicate 32 (0 :Int))).1) (1, 1, replicate 32 (0 :Int), (0, [], [], PUnit.unit), PUnit.unit) (v_28.1)).1)).1 then gd (p_32 ((v_27 (v_11.1) ((v_35 18 10 (replicate 32 (0 :Int))).1) (1, 1, replicate 32 (0 :Int), (0, [], [], PUnit.unit), PUnit.unit) (v_28.1)).2.1) (([], [], 0, PUnit.unit), replicate 32 (0 :Int), PUnit.unit)) (bif (v_32 ((v_27 (v_11.1) ((v_35 18 10 (replicate 32 (0 :Int))).1) (1, 1, replicate 32 (0 :Int), (0, [], [], PUnit.unit), PUnit.unit) (v_28.1)).2.1) (([], [], 0, PUnit.unit), replicate 32 (0 :Int), PUnit.unit)).1 then some (Ty.beq (Ty.pair (Ty.int i64) (Ty.pair (Ty.int u32) Ty.unit)) ((v_27 (v_11.1) ((v_35 18 10 (replicate 32 (0 :Int))).1) (1, 1, replicate 32 (0 :Int), (0, [], [], PUnit.unit), PUnit.unit) (v_28.1)).2.2.1) (0, 0, PUnit.unit), PUnit.unit) else some (false, PUnit.unit)) else some (false, PUnit.unit)) else some (false, PUnit.unit) else some (false, PUnit.unit))) else some (false, PUnit.unit)))))
noncomputable def Sp.p_8  : Bool := (F_8 ).isSome
noncomputable def Sp.v_8  : Bool × Unit := (F_8 ).getD (dfH R_8)
noncomputable def s_8 : Summ := shN A_8 R_8 (fun x => p_8 ) (fun x => v_8 )
theorem pv_8  {y : Bool × Unit} (h : F_8  = some y) : p_8  = true ∧ v_8  = y := pvG h
theorem run_8 (x : HDen A_8) (y : HDen R_8) (h : F_8  = some y) : rnF sm_8 1 8 A_8 R_8 x y := runG noO_ok (os := []) trivial (Eq.trans (by kernel_rfl) h)
end
noncomputable section
abbrev A_9 : List Ty := [(.pair (.int .i64) (.pair (.int .i64) (.pair (.arr 32 (.int .u8)) (.pair (.pair (.int .i64) (.pair (.slice (.arr 32 (.int .u8))) (.pair (.slice (.arr 32 (.int .u8))) .unit))) .unit))))]
abbrev R_9 : List Ty := [.bool]
noncomputable def sm_9 : Nat → Option Summ := smL []
noncomputable def F_9 (a0 : (Int × (Int × ((List Int) × ((Int × ((List (List Int)) × ((List (List Int)) × Unit))) × Unit))))) : Option (Bool × Unit) :=
 bif decide ((↑(length (a0.2.2.2.1.2.1)) : Int) > 100) then some (true, PUnit.unit) else some (decide ((↑(length (a0.2.2.2.1.2.2.1)) : Int) > 100), PUnit.unit)
noncomputable def Sp.p_9 (a0 : (Int × (Int × ((List Int) × ((Int × ((List (List Int)) × ((List (List Int)) × Unit))) × Unit))))) : Bool := (F_9 a0).isSome
noncomputable def Sp.v_9 (a0 : (Int × (Int × ((List Int) × ((Int × ((List (List Int)) × ((List (List Int)) × Unit))) × Unit))))) : Bool × Unit := (F_9 a0).getD (dfH R_9)
noncomputable def s_9 : Summ := shN A_9 R_9 (fun x => p_9 x.1) (fun x => v_9 x.1)
theorem pv_9 (a0 : (Int × (Int × ((List Int) × ((Int × ((List (List Int)) × ((List (List Int)) × Unit))) × Unit))))) {y : Bool × Unit} (h : F_9 a0 = some y) : p_9 a0 = true ∧ v_9 a0 = y := pvG h
theorem run_9 (x : HDen A_9) (y : HDen R_9) (h : F_9 x.1 = some y) : rnF sm_9 1 9 A_9 R_9 x y := runG noO_ok (os := []) trivial (Eq.trans (by kernel_rfl) h)
end
noncomputable section
abbrev A_12 : List Ty := [(.pair (.int .i64) (.pair (.int .i64) (.pair (.int .i64) (.pair (.pair (.int .i64) (.pair (.int .i64) (.pair (.arr 32 (.int .u8)) (.pair (.pair (.int .i64) (.pair (.slice (.arr 32 (.int .u8))) (.pair (.slice (.arr 32 (.int .u8))) .unit))) .unit)))) .unit))))]
abbrev R_12 : List Ty := [(.pair (.int .i64) (.pair (.int .i64) (.pair (.int .i64) (.pair (.pair (.int .i64) (.pair (.int .i64) (.pair (.arr 32 (.int .u8)) (.pair (.pair (.int .i64) (.pair (.slice (.arr 32 (.int .u8))) (.pair (.slice (.arr 32 (.int .u8))) .unit))) .unit)))) .unit))))]
noncomputable def sm_12 : Nat → Option Summ := smL []
noncomputable def F_12 (a0 : (Int × (Int × (Int × ((Int × (Int × ((List Int) × ((Int × ((List (List Int)) × ((List (List Int)) × Unit))) × Unit)))) × Unit))))) : Option ((Int × (Int × (Int × ((Int × (Int × ((List Int) × ((Int × ((List (List Int)) × ((List (List Int)) × Unit))) × Unit)))) × Unit)))) × Unit) :=
 some ((0, 0, 0, (0, 0, replicate 32 (0 :Int), (0, [], [], PUnit.unit), PUnit.unit), PUnit.unit), PUnit.unit)
noncomputable def Sp.p_12 (a0 : (Int × (Int × (Int × ((Int × (Int × ((List Int) × ((Int × ((List (List Int)) × ((List (List Int)) × Unit))) × Unit)))) × Unit))))) : Bool := (F_12 a0).isSome
noncomputable def Sp.v_12 (a0 : (Int × (Int × (Int × ((Int × (Int × ((List Int) × ((Int × ((List (List Int)) × ((List (List Int)) × Unit))) × Unit)))) × Unit))))) : (Int × (Int × (Int × ((Int × (Int × ((List Int) × ((Int × ((List (List Int)) × ((List (List Int)) × Unit))) × Unit)))) × Unit)))) × Unit := (F_12 a0).getD (dfH R_12)
noncomputable def s_12 : Summ := shS A_12 R_12 (fun x => p_12 x.1) (fun x => v_12 x.1)
theorem pv_12 (a0 : (Int × (Int × (Int × ((Int × (Int × ((List Int) × ((Int × ((List (List Int)) × ((List (List Int)) × Unit))) × Unit)))) × Unit))))) {y : (Int × (Int × (Int × ((Int × (Int × ((List Int) × ((Int × ((List (List Int)) × ((List (List Int)) × Unit))) × Unit)))) × Unit)))) × Unit} (h : F_12 a0 = some y) : p_12 a0 = true ∧ v_12 a0 = y := pvG h
theorem run_12 (x : HDen A_12) (y : HDen R_12) (h : F_12 x.1 = some y) : rnF sm_12 1 12 A_12 R_12 x y := runG noO_ok (os := []) trivial (Eq.trans (by kernel_rfl) h)
end
noncomputable section
abbrev A_56 : List Ty := [(.pair (.int .i64) (.pair (.slice (.arr 32 (.int .u8))) (.pair (.slice (.arr 32 (.int .u8))) .unit)))]
abbrev R_56 : List Ty := [.bool]
noncomputable def sm_56 : Nat → Option Summ := smL []
noncomputable def F_56 (a0 : (Int × ((List (List Int)) × ((List (List Int)) × Unit)))) : Option (Bool × Unit) :=
 bif decide (a0.1 ≥ 0) then bif decide (a0.1 ≤ 3) then bif (↑(length (a0.2.1)) : Int) == 67 then some ((↑(length (a0.2.2.1)) : Int) == 2, PUnit.unit) else some (false, PUnit.unit) else some (false, PUnit.unit) else some (false, PUnit.unit)
noncomputable def Sp.p_56 (a0 : (Int × ((List (List Int)) × ((List (List Int)) × Unit)))) : Bool := (F_56 a0).isSome
noncomputable def Sp.v_56 (a0 : (Int × ((List (List Int)) × ((List (List Int)) × Unit)))) : Bool × Unit := (F_56 a0).getD (dfH R_56)
noncomputable def s_56 : Summ := shN A_56 R_56 (fun x => p_56 x.1) (fun x => v_56 x.1)
theorem pv_56 (a0 : (Int × ((List (List Int)) × ((List (List Int)) × Unit)))) {y : Bool × Unit} (h : F_56 a0 = some y) : p_56 a0 = true ∧ v_56 a0 = y := pvG h
theorem run_56 (x : HDen A_56) (y : HDen R_56) (h : F_56 x.1 = some y) : rnF sm_56 1 56 A_56 R_56 x y := runG noO_ok (os := []) trivial (Eq.trans (by kernel_rfl) h)
end
noncomputable section
abbrev A_39 : List Ty := [(.pair (.int .i64) (.pair (.int .i64) (.pair (.arr 32 (.int .u8)) (.pair (.pair (.int .i64) (.pair (.slice (.arr 32 (.int .u8))) (.pair (.slice (.arr 32 (.int .u8))) .unit))) .unit)))), (.int .i64)]
abbrev R_39 : List Ty := [.bool]
noncomputable def sm_39 : Nat → Option Summ := smL [(56, s_56)]
noncomputable def F_39 (a0 : (Int × (Int × ((List Int) × ((Int × ((List (List Int)) × ((List (List Int)) × Unit))) × Unit))))) (a1 : Int) : Option (Bool × Unit) :=
 bif decide (a0.1 ≥ 1) then bif decide (a0.1 < 2147483648) then bif decide (a0.2.1 ≥ 1) then bif decide (a0.2.1 ≤ a1) then gd (p_56 (a0.2.2.2.1)) (some ((v_56 (a0.2.2.2.1)).1, PUnit.unit)) else some (false, PUnit.unit) else some (false, PUnit.unit) else some (false, PUnit.unit) else some (false, PUnit.unit)
noncomputable def Sp.p_39 (a0 : (Int × (Int × ((List Int) × ((Int × ((List (List Int)) × ((List (List Int)) × Unit))) × Unit))))) (a1 : Int) : Bool := (F_39 a0 a1).isSome
noncomputable def Sp.v_39 (a0 : (Int × (Int × ((List Int) × ((Int × ((List (List Int)) × ((List (List Int)) × Unit))) × Unit))))) (a1 : Int) : Bool × Unit := (F_39 a0 a1).getD (dfH R_39)
noncomputable def s_39 : Summ := shN A_39 R_39 (fun x => p_39 x.1 x.2.1) (fun x => v_39 x.1 x.2.1)
theorem pv_39 (a0 : (Int × (Int × ((List Int) × ((Int × ((List (List Int)) × ((List (List Int)) × Unit))) × Unit))))) (a1 : Int) {y : Bool × Unit} (h : F_39 a0 a1 = some y) : p_39 a0 a1 = true ∧ v_39 a0 a1 = y := pvG h
theorem run_39 (x : HDen A_39) (y : HDen R_39) (h : F_39 x.1 x.2.1 = some y) : rnF sm_39 1 39 A_39 R_39 x y := runG noO_ok (os := []) trivial (Eq.trans (by kernel_rfl) h)
end
noncomputable section
abbrev A_14 : List Ty := [(.pair (.int .i64) (.pair (.int .i64) (.pair (.int .i64) (.pair (.pair (.int .i64) (.pair (.int .i64) (.pair (.arr 32 (.int .u8)) (.pair (.pair (.int .i64) (.pair (.slice (.arr 32 (.int .u8))) (.pair (.slice (.arr 32 (.int .u8))) .unit))) .unit)))) .unit))))]
abbrev R_14 : List Ty := [.bool]
noncomputable def sm_14 : Nat → Option Summ := smL [(10, s_10), (39, s_39)]
noncomputable def T_14_0 : PS := ⟨53, [(1, .kc (.ptr 0 []))], [.mem (.hv (.pair (.int .i64) (.pair (.int .i64) (.pair (.int .i64) (.pair (.pair (.int .i64) (.pair (.int .i64) (.pair (.arr 32 (.int .u8)) (.pair (.pair (.int .i64) (.pair (.slice (.arr 32 (.int .u8))) (.pair (.slice (.arr 32 (.int .u8))) .unit))) .unit)))) .unit)))))], 0⟩
inductive Sp.E_14_0 where
 | e0 (p0 : Int × Int × Int × (Int × Int × List Int × (Int × List (List Int) × List (List Int) × Unit) × Unit) × Unit)
 | e1
 | e2 (p0 : Int × Int × Int × (Int × Int × List Int × (Int × List (List Int) × List (List Int) × Unit) × Unit) × Unit)
noncomputable def Sp.B_14_0 {R : Type} (r : Option E_14_0) (k0 : (Int × Int × Int × (Int × Int × List Int × (Int × List (List Int) × List (List Int) × Unit) × Unit) × Unit) → Option R) (k1 : Option R) (k2 : (Int × Int × Int × (Int × Int × List Int × (Int × List (List Int) × List (List Int) × Unit) × Unit) × Unit) → Option R) : Option R := match r with
 | none => none
 | some (.e0 p0) => k0 p0
 | some (.e1) => k1
 | some (.e2 p0) => k2 p0
noncomputable def Y_14_0 {R : Type} (k : Ex → St → Option R) : E_14_0 → Option R
 | .e0 p0 => k Ex.ret (sx 53 [(2, CV.bool (Int.tmod (p0.2.2.1) (32 :Int) == (0 :Int)))] [])
 | .e1 => k Ex.ret (sx 53 [(2, CV.bool false)] [])
 | .e2 p0 => k Ex.ret (sx 53 [(2, CV.bool (p0.2.2.1 == p0.2.2.2.1.2.1))] [])
noncomputable def Sp.S_14_0 {R : Type} (k : E_14_0 → Option R) (p0 : Int × Int × Int × (Int × Int × List Int × (Int × List (List Int) × List (List Int) × Unit) × Unit) × Unit) : Option R :=
 bif p0.1 == 1 then bif decide (p0.2.2.1 ≥ 0) then bif decide (p0.2.2.1 < p0.2.2.2.1.2.1) then k (E_14_0.e0 p0) else k (E_14_0.e1) else k (E_14_0.e1) else bif p0.1 == 2 then k (E_14_0.e2 p0) else k (E_14_0.e1)
noncomputable def Sp.J_14_0 (p0 : Int × Int × Int × (Int × Int × List Int × (Int × List (List Int) × List (List Int) × Unit) × Unit) × Unit) : Option E_14_0 := S_14_0 some p0
noncomputable def O_14_0 {R : Type} : Orc R := orL T_14_0 (fun a => J_14_0 a.1) Y_14_0
theorem OK_14_0 {R : Type} : okF (R := R) sm_14 0 (nf 14 0) O_14_0 := jp noO_ok (os := []) trivial T_14_0 (fun R k a => S_14_0 k a.1) Y_14_0 (fun k a => by kernel_rfl) (fun Y a => by
 unfold S_14_0
 repeat' first | apply gdN | apply condN | rfl) (ok0 _)
noncomputable def F_14 (a0 : (Int × (Int × (Int × ((Int × (Int × ((List Int) × ((Int × ((List (List Int)) × ((List (List Int)) × Unit))) × Unit)))) × Unit))))) : Option (Bool × Unit) :=
 bif a0.1 == 0 then gd (p_10 a0) (some ((v_10 a0).1, PUnit.unit)) else bif a0.2.1 != 0 then bif a0.2.1 != 1 then some (false, PUnit.unit) else gd (p_39 (a0.2.2.2.1) 1484) (bif !(v_39 (a0.2.2.2.1) 1484).1 then some (false, PUnit.unit) else B_14_0 (J_14_0 a0) (fun y4 => some (Int.tmod (y4.2.2.1) (32 :Int) == (0 :Int), PUnit.unit)) (some (false, PUnit.unit)) fun y5 => some (y5.2.2.1 == y5.2.2.2.1.2.1, PUnit.unit)) else gd (p_39 (a0.2.2.2.1) 1484) (bif !(v_39 (a0.2.2.2.1) 1484).1 then some (false, PUnit.unit) else B_14_0 (J_14_0 a0) (fun y6 => some (Int.tmod (y6.2.2.1) (32 :Int) == (0 :Int), PUnit.unit)) (some (false, PUnit.unit)) fun y7 => some (y7.2.2.1 == y7.2.2.2.1.2.1, PUnit.unit))
noncomputable def Sp.p_14 (a0 : (Int × (Int × (Int × ((Int × (Int × ((List Int) × ((Int × ((List (List Int)) × ((List (List Int)) × Unit))) × Unit)))) × Unit))))) : Bool := (F_14 a0).isSome
noncomputable def Sp.v_14 (a0 : (Int × (Int × (Int × ((Int × (Int × ((List Int) × ((Int × ((List (List Int)) × ((List (List Int)) × Unit))) × Unit)))) × Unit))))) : Bool × Unit := (F_14 a0).getD (dfH R_14)
noncomputable def s_14 : Summ := shN A_14 R_14 (fun x => p_14 x.1) (fun x => v_14 x.1)
theorem pv_14 (a0 : (Int × (Int × (Int × ((Int × (Int × ((List Int) × ((Int × ((List (List Int)) × ((List (List Int)) × Unit))) × Unit)))) × Unit))))) {y : Bool × Unit} (h : F_14 a0 = some y) : p_14 a0 = true ∧ v_14 a0 = y := pvG h
theorem run_14 (x : HDen A_14) (y : HDen R_14) (h : F_14 x.1 = some y) : rnF sm_14 1 14 A_14 R_14 x y := runG noO_ok (os := [O_14_0]) ⟨OK_14_0, trivial⟩ (Eq.trans (by kernel_rfl) h)
end
noncomputable section
abbrev A_3 : List Ty := [(.pair (.int .i64) (.pair (.int .i64) (.pair (.int .i64) (.pair (.pair (.int .i64) (.pair (.int .i64) (.pair (.arr 32 (.int .u8)) (.pair (.pair (.int .i64) (.pair (.slice (.arr 32 (.int .u8))) (.pair (.slice (.arr 32 (.int .u8))) .unit))) .unit)))) .unit))))]
abbrev R_3 : List Ty := [.bool]
noncomputable def sm_3 : Nat → Option Summ := smL [(8, s_8), (9, s_9), (10, s_10), (11, s_11), (12, s_12), (13, s_13), (14, s_14)]
noncomputable def F_3 (a0 : (Int × (Int × (Int × ((Int × (Int × ((List Int) × ((Int × ((List (List Int)) × ((List (List Int)) × Unit))) × Unit)))) × Unit))))) : Option (Bool) :=
 gd p_8 (bif !v_8.1 then some false else gd (p_9 (a0.2.2.2.1)) (bif (v_9 (a0.2.2.2.1)).1 then some true else gd p_11 (gd (p_10 (v_11.1)) (bif (v_10 (v_11.1)).1 then gd (p_12 a0) (gd (p_10 ((v_12 a0).1)) (bif (v_10 ((v_12 a0).1)).1 then gd (p_13 a0) (gd (p_14 a0) (some ((v_13 a0).1 == (v_14 a0).1))) else some false)) else some false))))
theorem run_3 (a0 : (Int × (Int × (Int × ((Int × (Int × ((List Int) × ((Int × ((List (List Int)) × ((List (List Int)) × Unit))) × Unit)))) × Unit))))) {b : Bool} (h : F_3 a0 = some b) : evFn sm_3 fns FU 1 3 (ofH A_3 (a0, ())) [] bk = some b := runG noO_ok (os := []) trivial (Eq.trans (by kernel_rfl) h)
end
end Go.Ev
namespace Go.Proofs
open Go.Shelf
noncomputable def Try.clone25_ren : Go.Shelf.Ren := ⟨fun | 41 => 25 | n => n, fun | 22 => 36 | 23 => 42 | 4 => 4 | n => n, fun | n => n⟩
theorem Try.clone25 : Go.Proofs.SlLaysE0.n41 Try.prog Try.clone25_ren := {
 mixed := by kernel_rfl
 f41 := ⟨Try.f25.name, by decide, Try.func25.trans (congrArg some (by kernel_rfl))⟩
 t4 := Try.underlying4
 a4 := Try.isAgg4
 z4 := Try.sizeOf4
 v4 := Try.zeroValue4
 t22 := Try.underlying36
 a22 := Try.isAgg36
 z22 := Try.sizeOf36
 v22 := Try.zeroValue36 }
noncomputable def Try.clone75_ren : Go.Shelf.Ren := ⟨fun | 41 => 75 | n => n, fun | 22 => 37 | 23 => 3 | 4 => 4 | n => n, fun | n => n⟩
theorem Try.clone75 : Go.Proofs.SlLaysE0.n41 Try.prog Try.clone75_ren := {
 mixed := by kernel_rfl
 f41 := ⟨Try.f75.name, by decide, Try.func75.trans (congrArg some (by kernel_rfl))⟩
 t4 := Try.underlying4
 a4 := Try.isAgg4
 z4 := Try.sizeOf4
 v4 := Try.zeroValue4
 t22 := Try.underlying37
 a22 := Try.isAgg37
 z22 := Try.sizeOf37
 v22 := Try.zeroValue37 }
end Go.Proofs
namespace Go.Ev
open Go Go.Proofs Go.RowKit
set_option maxRecDepth 100000
set_option maxHeartbeats 4000000
theorem info25 : ∃ i, Try.prog.info? 42 = some i ∧ i.zero = some (.int .u32 0) ∧ i.size = 1 ∧ i.bytes = 4 := ⟨_, rfl, by kernel_rfl, by kernel_rfl, by kernel_rfl⟩
theorem sok_25 : SummOK Try.prog 25 (vecS (.int .u32) 42 4) := by
 obtain ⟨i, hi, h0, h1, h2⟩ := info25
 exact clone_vec (by kernel_rfl) (by decide)
   (fun b off n c news w hl hn hb hc h3 => AnyE.slices_Clone Try.clone25 i _ 1 4 hi h0 h1 h2 (by kernel_rfl) (by decide) Try.sizeOf42 b off n c news w hl hn hb hc h3)
   (fun n c w => AnyE.slices_Clone_nil Try.clone25 n c w)
   (fun a c w => clone_zero Try.clone25 i _ 1 4 hi h0 h1 h2 (by kernel_rfl) (by decide) Try.sizeOf42 a c w)
theorem info75 : ∃ i, Try.prog.info? 3 = some i ∧ i.zero = some (.int .i64 0) ∧ i.size = 1 ∧ i.bytes = 8 := ⟨_, rfl, by kernel_rfl, by kernel_rfl, by kernel_rfl⟩
theorem sok_75 : SummOK Try.prog 75 (vecS (.int .i64) 3 8) := by
 obtain ⟨i, hi, h0, h1, h2⟩ := info75
 exact clone_vec (by kernel_rfl) (by decide)
   (fun b off n c news w hl hn hb hc h3 => AnyE.slices_Clone Try.clone75 i _ 1 8 hi h0 h1 h2 (by kernel_rfl) (by decide) Try.sizeOf3 b off n c news w hl hn hb hc h3)
   (fun n c w => AnyE.slices_Clone_nil Try.clone75 n c w)
   (fun a c w => clone_zero Try.clone75 i _ 1 8 hi h0 h1 h2 (by kernel_rfl) (by decide) Try.sizeOf3 a c w)
theorem sok_73 : SummOK Try.prog 73 s_73 := sokN hm0 run_73 trivial
theorem sok_36 : SummOK Try.prog 36 s_36 := sokN hm0 run_36 ⟨sok_73, trivial⟩
theorem sok_10 : SummOK Try.prog 10 s_10 := sokN hm0 run_10 ⟨sok_36, trivial⟩
theorem sok_11 : SummOK Try.prog 11 s_11 := sokS hm0 run_11 trivial
theorem sok_37 : SummOK Try.prog 37 s_37 := sokN hm0 run_37 trivial
theorem sok_85 : SummOK Try.prog 85 s_85 := sokN hm0 run_85 trivial
theorem sok_100 : SummOK Try.prog 100 s_100 := sokN hm0 run_100 trivial
theorem sok_74 : SummOK Try.prog 74 s_74 := sokS hm0 run_74 ⟨sok_85, sok_100, trivial⟩
theorem sok_38 : SummOK Try.prog 38 s_38 := sokN hm0 run_38 ⟨sok_74, trivial⟩
theorem sok_13 : SummOK Try.prog 13 s_13 := sokN hm0 run_13 ⟨sok_37, sok_38, trivial⟩
theorem sok_69 : SummOK Try.prog 69 s_69 := sokN hm0 run_69 trivial
theorem sok_70 : SummOK Try.prog 70 s_70 := sokN hm0 run_70 trivial
theorem sok_33 : SummOK Try.prog 33 s_33 := sokN hm0 run_33 ⟨sok_69, sok_70, trivial⟩
theorem sok_41 : SummOK Try.prog 41 s_41 := sokS hm0 run_41 trivial
theorem sok_44 : SummOK Try.prog 44 s_44 := sokN hm0 run_44 trivial
theorem sok_61 : SummOK Try.prog 61 s_61 := sokN hm0 run_61 trivial
theorem sok_101 : SummOK Try.prog 101 s_101 := sokN hm0 run_101 ⟨sok_69, trivial⟩
theorem sok_76 : SummOK Try.prog 76 s_76 := sokS hm0 run_76 ⟨sok_25, sok_75, sok_101, trivial⟩
theorem sok_27 : SummOK Try.prog 27 s_27 := sokS hm0 run_27 ⟨sok_13, sok_25, sok_33, sok_37, sok_38, sok_41, sok_44, sok_61, sok_75, sok_76, trivial⟩
theorem sok_28 : SummOK Try.prog 28 s_28 := sokN hm0 run_28 trivial
theorem sok_68 : SummOK Try.prog 68 s_68 := sokN hm0 run_68 trivial
theorem sok_32 : SummOK Try.prog 32 s_32 := sokN hm0 run_32 ⟨sok_68, trivial⟩
theorem sok_124 : SummOK Try.prog 124 s_124 := sokN hm0 run_124 trivial
theorem sok_125 : SummOK Try.prog 125 s_125 := sokN hm0 run_125 trivial
theorem sok_118 : SummOK Try.prog 118 s_118 := sokN hm0 run_118 ⟨sok_124, sok_125, trivial⟩
theorem sok_99 : SummOK Try.prog 99 s_99 := sokS hm0 run_99 ⟨sok_118, trivial⟩
theorem sok_72 : SummOK Try.prog 72 s_72 := sokS hm0 run_72 ⟨sok_99, trivial⟩
theorem sok_35 : SummOK Try.prog 35 s_35 := sokS hm0 run_35 ⟨sok_70, sok_72, trivial⟩
theorem sok_8 : SummOK Try.prog 8 s_8 := sokN hm0 run_8 ⟨sok_10, sok_11, sok_13, sok_27, sok_28, sok_32, sok_35, trivial⟩
theorem sok_9 : SummOK Try.prog 9 s_9 := sokN hm0 run_9 trivial
theorem sok_12 : SummOK Try.prog 12 s_12 := sokS hm0 run_12 trivial
theorem sok_56 : SummOK Try.prog 56 s_56 := sokN hm0 run_56 trivial
theorem sok_39 : SummOK Try.prog 39 s_39 := sokN hm0 run_39 ⟨sok_56, trivial⟩
theorem sok_14 : SummOK Try.prog 14 s_14 := sokN hm0 run_14 ⟨sok_10, sok_39, trivial⟩
theorem call_3 {R : Type} (n base : Nat) : CallOK Try.prog base (evFn (R := R) sm_3 fns FU n) := callG hm0 (l := [(8, s_8), (9, s_9), (10, s_10), (11, s_11), (12, s_12), (13, s_13), (14, s_14)]) ⟨sok_8, sok_9, sok_10, sok_11, sok_12, sok_13, sok_14, trivial⟩ n base
end Go.Ev
