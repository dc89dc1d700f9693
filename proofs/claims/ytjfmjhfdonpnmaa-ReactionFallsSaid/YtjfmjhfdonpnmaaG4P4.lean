/- Helpers: functions of the program as Lean functions, and what they compute. No condition. -/
import Derived.Test.YtjfmjhfdonpnmaaE4P2
import Derived.Test.YtjfmjhfdonpnmaaG4P1
import Derived.Test.YtjfmjhfdonpnmaaG4P2
import Derived.Test.YtjfmjhfdonpnmaaE4P5
import Derived.Test.YtjfmjhfdonpnmaaG4P3
set_option maxRecDepth 10000
set_option linter.unusedVariables false
set_option linter.unusedSimpArgs false
namespace Go.Ev
open Go
set_option maxRecDepth 100000
set_option maxHeartbeats 4000000
set_option linter.unusedVariables false
noncomputable section

noncomputable def sm_39 : Nat → Option Summ := fun f => none
noncomputable def T_39_0 (p0 : List Int) (p1 : Int) : St := St.mk ([CV.pure Ty.str p0, jk, jk, CV.int IntKind.i64 p1] ++ (jl 24)) [] (0 : Nat)
noncomputable def X_39_0_0 : St := St.mk ([jk, jk, CV.bool false] ++ (jl 25)) [] (0 : Nat)
noncomputable def X_39_0_1 : St := St.mk (jl 28) [] (0 : Nat)
inductive Sp.E_39_0 where
  | e0
  | e1
noncomputable def Sp.B_39_0 {R : Type} (r : Option Sp.E_39_0) (k0 : Option R) (k1 : Option R) : Option R := match r with
  | none => none
  | some (.e0) => k0
  | some (.e1) => k1
noncomputable def Sp.L_39_0 : Nat → (List Int) → (Int) → Option Sp.E_39_0
  | 0, _, _ => none
  | m + 1, p0, p1 => bif decide (p1 < (↑(List.length p0) : Int)) then gd (inB p1 (List.length p0)) (bif decide (List.getD p0 (Int.toNat p1) (0 : Int) < (33 : Int)) then some (Sp.E_39_0.e0) else gd (inB p1 (List.length p0)) (bif decide (List.getD p0 (Int.toNat p1) (0 : Int) > (126 : Int)) then some (Sp.E_39_0.e0) else Sp.L_39_0 m p0 (IntKind.wrap IntKind.i64 (p1 + (1 : Int))))) else some (Sp.E_39_0.e1)
noncomputable def G_39_0 {R : Type} (p0 : List Int) (p1 : Int) (k : Ex → St → Option R) : Option R := Sp.B_39_0 (Sp.L_39_0 FU p0 p1) (k Ex.ret (X_39_0_0)) (k (Ex.exit (0 : Nat)) (X_39_0_1))
noncomputable def o_39_0 {R : Type} (G : (List Int) → (Int) → (Ex → St → Option R) → Option R) : St → (Ex → St → Option R) → Option R := fun T k => match T.sl.getD 0 .junk, T.sl.getD 3 .junk, T.hp with
  | CV.pure Ty.str p0, CV.int IntKind.i64 p1, [] => gd (shapeOK T 28 [0, 3] (0 : Nat)) (G p0 p1 k)
  | _, _, _ => none
noncomputable def O_39_39_0 {R : Type} : St → (Ex → St → Option R) → Option R := fun T k => o_39_0 G_39_0 T k
noncomputable def F_39 (a0 : (List Int)) : Option (Bool × Unit) :=
  bif decide ((↑(List.length a0) : Int) < (1 : Int)) then some (false, PUnit.unit) else bif decide ((↑(List.length a0) : Int) > (24 : Int)) then some (false, PUnit.unit) else Sp.B_39_0 (Sp.L_39_0 (4611686018427387904 : Nat) a0 (0 : Int)) (some (false, PUnit.unit)) (some (true, PUnit.unit))
noncomputable def Sp.p_39 (a0 : (List Int)) : Bool := (F_39 a0).isSome
noncomputable def Sp.v_39 (a0 : (List Int)) : Bool × Unit := (F_39 a0).getD (dfH [.bool])
noncomputable def s_39 : Summ := shN [.str] [.bool] (fun x => Sp.p_39 x.1) (fun x => Sp.v_39 x.1)
end
end Go.Ev
namespace Go.Ev
open Go
set_option maxRecDepth 100000
set_option maxHeartbeats 4000000
set_option linter.unusedVariables false
noncomputable section
abbrev Zy11_0 : Ty := (Ty.pair (Ty.int IntKind.i64) (Ty.pair (Ty.int IntKind.i64) (Ty.pair (Ty.slice (Ty.int IntKind.i64)) (Ty.pair (Ty.int IntKind.i64) Ty.unit))))
abbrev Zt11_1 : Type := List (List Int × Int × Int × List Int × Int × Unit)
abbrev Zt11_2 : Type := List Int × Int × Int × List Int × Int × Unit
abbrev Zy11_3 : Ty := (.pair (.int .i64) (.pair (.int .i64) (.pair (.slice (.int .i64)) (.pair (.int .i64) .unit))))

noncomputable def sm_11 : Nat → Option Summ := fun f => bif Nat.beq f 39 then some s_39 else none
noncomputable def T_11_1 (p0 : Zt11_1) (p1 : Int) (p2 : Int) (p3 : Int) (p4 : Zt11_2) : St := St.mk ([CV.pure (Ty.slice (Ty.pair Ty.str Zy11_0)) p0, CV.int IntKind.i64 p1, jk, jk, jk, CV.int IntKind.i64 p2, CV.ptr (0 : Nat) [], CV.int IntKind.i64 p3] ++ (jl 121)) [Blk.mem (CV.pure (Ty.pair Ty.str Zy11_0) p4)] (0 : Nat)
noncomputable def X_11_1_0 : St := St.mk ([jk, jk, jk, jk, CV.bool false] ++ (jl 124)) [] (0 : Nat)
noncomputable def X_11_1_1 (p0 : Zt11_1) (p1 : Int) (p2 : Int) (p4 : Zt11_2) : St := St.mk ([CV.pure (Ty.slice (Ty.pair Ty.str Zy11_0)) p0, CV.int IntKind.i64 p1, jk, jk, jk, CV.int IntKind.i64 p2, CV.ptr (0 : Nat) []] ++ (jl 122)) [Blk.mem (CV.pure (Ty.pair Ty.str Zy11_0) p4)] (0 : Nat)
inductive Sp.E_11_1 where
  | e0
  | e1 (p0 : Zt11_1) (p1 : Int) (p2 : Int) (p4 : Zt11_2)
noncomputable def Sp.B_11_1 {R : Type} (r : Option Sp.E_11_1) (k0 : Option R) (k1 : (Zt11_1) → (Int) → (Int) → (Zt11_2) → Option R) : Option R := match r with
  | none => none
  | some (.e0) => k0
  | some (.e1 p0 p1 p2 p4) => k1 p0 p1 p2 p4
noncomputable def Sp.L_11_1 : Nat → (List (List Int × Int × Int × List Int × Int × Unit)) → (Int) → (Int) → (Int) → (List Int × Int × Int × List Int × Int × Unit) → Option Sp.E_11_1
  | 0, _, _, _, _, _ => none
  | m + 1, p0, p1, p2, p3, p4 => bif decide (p3 < p2) then gd (inB p3 (List.length p0)) (bif (List.getD p0 (Int.toNat p3) (Ty.dflt (Ty.pair Ty.str (Ty.pair (Ty.int IntKind.i64) (Ty.pair (Ty.int IntKind.i64) (Ty.pair (Ty.slice (Ty.int IntKind.i64)) (Ty.pair (Ty.int IntKind.i64) Ty.unit))))))).1 == p4.1 then some (Sp.E_11_1.e0) else Sp.L_11_1 m p0 p1 p2 (IntKind.wrap IntKind.i64 (p3 + (1 : Int))) p4) else some (Sp.E_11_1.e1 p0 p1 p2 p4)
noncomputable def G_11_1 {R : Type} (p0 : Zt11_1) (p1 : Int) (p2 : Int) (p3 : Int) (p4 : Zt11_2) (k : Ex → St → Option R) : Option R := Sp.B_11_1 (Sp.L_11_1 FU p0 p1 p2 p3 p4) (k Ex.ret (X_11_1_0)) (fun p0 p1 p2 p4 => k (Ex.exit (2 : Nat)) (X_11_1_1 p0 p1 p2 p4))
noncomputable def o_11_1 {R : Type} (G : (Zt11_1) → (Int) → (Int) → (Int) → (Zt11_2) → (Ex → St → Option R) → Option R) : St → (Ex → St → Option R) → Option R := fun T k => match T.sl.getD 0 .junk, T.sl.getD 1 .junk, T.sl.getD 5 .junk, T.sl.getD 6 .junk, T.sl.getD 7 .junk, T.hp with
  | CV.pure (Ty.slice (Ty.pair Ty.str (Ty.pair (Ty.int IntKind.i64) (Ty.pair (Ty.int IntKind.i64) (Ty.pair (Ty.slice (Ty.int IntKind.i64)) (Ty.pair (Ty.int IntKind.i64) Ty.unit)))))) p0, CV.int IntKind.i64 p1, CV.int IntKind.i64 p2, CV.ptr (0 : Nat) [], CV.int IntKind.i64 p3, ((Blk.mem (CV.pure (Ty.pair Ty.str (Ty.pair (Ty.int IntKind.i64) (Ty.pair (Ty.int IntKind.i64) (Ty.pair (Ty.slice (Ty.int IntKind.i64)) (Ty.pair (Ty.int IntKind.i64) Ty.unit))))) p4)) :: []) => gd (shapeOK T 129 [0, 1, 5, 6, 7] (0 : Nat)) (G p0 p1 p2 p3 p4 k)
  | _, _, _, _, _, _ => none
noncomputable def T_11_2 (p0 : Zt11_1) (p1 : Int) (p2 : Int) (p3 : Int) (p4 : Zt11_2) : St := St.mk ([CV.pure (Ty.slice (Ty.pair Ty.str Zy11_0)) p0, CV.int IntKind.i64 p1, jk, jk, jk, CV.int IntKind.i64 p2, CV.ptr (0 : Nat) [], jk, CV.int IntKind.i64 p3] ++ (jl 120)) [Blk.mem (CV.pure (Ty.pair Ty.str Zy11_0) p4)] (0 : Nat)
noncomputable def X_11_2_0 : St := St.mk ([jk, jk, jk, jk, CV.bool false] ++ (jl 124)) [] (0 : Nat)
noncomputable def X_11_2_1 (p0 : Zt11_1) (p1 : Int) (p2 : Int) : St := St.mk ([CV.pure (Ty.slice (Ty.pair Ty.str Zy11_0)) p0, CV.int IntKind.i64 p1, jk, jk, jk, CV.int IntKind.i64 p2] ++ (jl 123)) [] (0 : Nat)
inductive Sp.E_11_2 where
  | e0
  | e1 (p0 : Zt11_1) (p1 : Int) (p2 : Int)
noncomputable def Sp.B_11_2 {R : Type} (r : Option Sp.E_11_2) (k0 : Option R) (k1 : (Zt11_1) → (Int) → (Int) → Option R) : Option R := match r with
  | none => none
  | some (.e0) => k0
  | some (.e1 p0 p1 p2) => k1 p0 p1 p2
noncomputable def Sp.L_11_2 : Nat → (List (List Int × Int × Int × List Int × Int × Unit)) → (Int) → (Int) → (Int) → (List Int × Int × Int × List Int × Int × Unit) → Option Sp.E_11_2
  | 0, _, _, _, _, _ => none
  | m + 1, p0, p1, p2, p3, p4 => bif decide (p3 < (↑(List.length (p4.2.2.2.1)) : Int)) then gd (inB p3 (List.length (p4.2.2.2.1))) (bif decide (List.getD (p4.2.2.2.1) (Int.toNat p3) (0 : Int) < (0 : Int)) then some (Sp.E_11_2.e0) else gd (inB p3 (List.length (p4.2.2.2.1))) (bif decide (List.getD (p4.2.2.2.1) (Int.toNat p3) (0 : Int) ≥ p1) then some (Sp.E_11_2.e0) else bif decide (p3 > (0 : Int)) then gd (inB p3 (List.length (p4.2.2.2.1))) (gd (inB (IntKind.wrap IntKind.i64 (p3 - (1 : Int))) (List.length (p4.2.2.2.1))) (bif decide (List.getD (p4.2.2.2.1) (Int.toNat p3) (0 : Int) ≤ List.getD (p4.2.2.2.1) (Int.toNat (IntKind.wrap IntKind.i64 (p3 - (1 : Int)))) (0 : Int)) then some (Sp.E_11_2.e0) else Sp.L_11_2 m p0 p1 p2 (IntKind.wrap IntKind.i64 (p3 + (1 : Int))) p4)) else Sp.L_11_2 m p0 p1 p2 (IntKind.wrap IntKind.i64 (p3 + (1 : Int))) p4)) else some (Sp.E_11_2.e1 p0 p1 p2)
noncomputable def G_11_2 {R : Type} (p0 : Zt11_1) (p1 : Int) (p2 : Int) (p3 : Int) (p4 : Zt11_2) (k : Ex → St → Option R) : Option R := Sp.B_11_2 (Sp.L_11_2 FU p0 p1 p2 p3 p4) (k Ex.ret (X_11_2_0)) (fun p0 p1 p2 => k (Ex.exit (4 : Nat)) (X_11_2_1 p0 p1 p2))
noncomputable def o_11_2 {R : Type} (G : (Zt11_1) → (Int) → (Int) → (Int) → (Zt11_2) → (Ex → St → Option R) → Option R) : St → (Ex → St → Option R) → Option R := fun T k => match T.sl.getD 0 .junk, T.sl.getD 1 .junk, T.sl.getD 5 .junk, T.sl.getD 6 .junk, T.sl.getD 8 .junk, T.hp with
  | CV.pure (Ty.slice (Ty.pair Ty.str (Ty.pair (Ty.int IntKind.i64) (Ty.pair (Ty.int IntKind.i64) (Ty.pair (Ty.slice (Ty.int IntKind.i64)) (Ty.pair (Ty.int IntKind.i64) Ty.unit)))))) p0, CV.int IntKind.i64 p1, CV.int IntKind.i64 p2, CV.ptr (0 : Nat) [], CV.int IntKind.i64 p3, ((Blk.mem (CV.pure (Ty.pair Ty.str (Ty.pair (Ty.int IntKind.i64) (Ty.pair (Ty.int IntKind.i64) (Ty.pair (Ty.slice (Ty.int IntKind.i64)) (Ty.pair (Ty.int IntKind.i64) Ty.unit))))) p4)) :: []) => gd (shapeOK T 129 [0, 1, 5, 6, 8] (0 : Nat)) (G p0 p1 p2 p3 p4 k)
  | _, _, _, _, _, _ => none
noncomputable def T_11_0 (p0 : Zt11_1) (p1 : Int) (p2 : Int) : St := St.mk ([CV.pure (Ty.slice (Ty.pair Ty.str Zy11_0)) p0, CV.int IntKind.i64 p1, jk, jk, jk, CV.int IntKind.i64 p2] ++ (jl 123)) [] (0 : Nat)
noncomputable def X_11_0_0 : St := St.mk ([jk, jk, jk, jk, CV.bool false] ++ (jl 124)) [] (0 : Nat)
noncomputable def X_11_0_1 : St := St.mk (jl 129) [] (0 : Nat)
inductive Sp.E_11_0 where
  | e0
  | e1
noncomputable def Sp.B_11_0 {R : Type} (r : Option Sp.E_11_0) (k0 : Option R) (k1 : Option R) : Option R := match r with
  | none => none
  | some (.e0) => k0
  | some (.e1) => k1
noncomputable def Sp.L_11_0 : Nat → (List (List Int × Int × Int × List Int × Int × Unit)) → (Int) → (Int) → Option Sp.E_11_0
  | 0, _, _, _ => none
  | m + 1, p0, p1, p2 => bif decide (p2 < (↑(List.length p0) : Int)) then gd (inB p2 (List.length p0)) (gd (Sp.p_39 ((List.getD p0 (Int.toNat p2) (Ty.dflt (Ty.pair Ty.str (Ty.pair (Ty.int IntKind.i64) (Ty.pair (Ty.int IntKind.i64) (Ty.pair (Ty.slice (Ty.int IntKind.i64)) (Ty.pair (Ty.int IntKind.i64) Ty.unit))))))).1)) (bif !(Sp.v_39 ((List.getD p0 (Int.toNat p2) (Ty.dflt (Ty.pair Ty.str (Ty.pair (Ty.int IntKind.i64) (Ty.pair (Ty.int IntKind.i64) (Ty.pair (Ty.slice (Ty.int IntKind.i64)) (Ty.pair (Ty.int IntKind.i64) Ty.unit))))))).1)).1 then some (Sp.E_11_0.e0) else bif decide ((List.getD p0 (Int.toNat p2) (Ty.dflt (Ty.pair Ty.str (Ty.pair (Ty.int IntKind.i64) (Ty.pair (Ty.int IntKind.i64) (Ty.pair (Ty.slice (Ty.int IntKind.i64)) (Ty.pair (Ty.int IntKind.i64) Ty.unit))))))).2.1 < (0 : Int)) then some (Sp.E_11_0.e0) else bif decide ((List.getD p0 (Int.toNat p2) (Ty.dflt (Ty.pair Ty.str (Ty.pair (Ty.int IntKind.i64) (Ty.pair (Ty.int IntKind.i64) (Ty.pair (Ty.slice (Ty.int IntKind.i64)) (Ty.pair (Ty.int IntKind.i64) Ty.unit))))))).2.1 > (15 : Int)) then some (Sp.E_11_0.e0) else bif decide ((List.getD p0 (Int.toNat p2) (Ty.dflt (Ty.pair Ty.str (Ty.pair (Ty.int IntKind.i64) (Ty.pair (Ty.int IntKind.i64) (Ty.pair (Ty.slice (Ty.int IntKind.i64)) (Ty.pair (Ty.int IntKind.i64) Ty.unit))))))).2.2.1 < (0 : Int)) then some (Sp.E_11_0.e0) else bif decide ((List.getD p0 (Int.toNat p2) (Ty.dflt (Ty.pair Ty.str (Ty.pair (Ty.int IntKind.i64) (Ty.pair (Ty.int IntKind.i64) (Ty.pair (Ty.slice (Ty.int IntKind.i64)) (Ty.pair (Ty.int IntKind.i64) Ty.unit))))))).2.2.1 > (15 : Int)) then some (Sp.E_11_0.e0) else bif decide ((↑(List.length ((List.getD p0 (Int.toNat p2) (Ty.dflt (Ty.pair Ty.str (Ty.pair (Ty.int IntKind.i64) (Ty.pair (Ty.int IntKind.i64) (Ty.pair (Ty.slice (Ty.int IntKind.i64)) (Ty.pair (Ty.int IntKind.i64) Ty.unit))))))).2.2.2.1)) : Int) < (1 : Int)) then some (Sp.E_11_0.e0) else bif decide ((↑(List.length ((List.getD p0 (Int.toNat p2) (Ty.dflt (Ty.pair Ty.str (Ty.pair (Ty.int IntKind.i64) (Ty.pair (Ty.int IntKind.i64) (Ty.pair (Ty.slice (Ty.int IntKind.i64)) (Ty.pair (Ty.int IntKind.i64) Ty.unit))))))).2.2.2.1)) : Int) > (16 : Int)) then some (Sp.E_11_0.e0) else bif decide ((List.getD p0 (Int.toNat p2) (Ty.dflt (Ty.pair Ty.str (Ty.pair (Ty.int IntKind.i64) (Ty.pair (Ty.int IntKind.i64) (Ty.pair (Ty.slice (Ty.int IntKind.i64)) (Ty.pair (Ty.int IntKind.i64) Ty.unit))))))).2.2.2.2.1 < (-5000 : Int)) then some (Sp.E_11_0.e0) else bif decide ((List.getD p0 (Int.toNat p2) (Ty.dflt (Ty.pair Ty.str (Ty.pair (Ty.int IntKind.i64) (Ty.pair (Ty.int IntKind.i64) (Ty.pair (Ty.slice (Ty.int IntKind.i64)) (Ty.pair (Ty.int IntKind.i64) Ty.unit))))))).2.2.2.2.1 > (10000 : Int)) then some (Sp.E_11_0.e0) else Sp.B_11_1 (Sp.L_11_1 (4611686018427387904 : Nat) p0 p1 p2 (0 : Int) (List.getD p0 (Int.toNat p2) (Ty.dflt (Ty.pair Ty.str (Ty.pair (Ty.int IntKind.i64) (Ty.pair (Ty.int IntKind.i64) (Ty.pair (Ty.slice (Ty.int IntKind.i64)) (Ty.pair (Ty.int IntKind.i64) Ty.unit)))))))) (some (Sp.E_11_0.e0)) fun y39 y40 y41 y42 => Sp.B_11_2 (Sp.L_11_2 (4611686018427387904 : Nat) y39 y40 y41 (0 : Int) y42) (some (Sp.E_11_0.e0)) fun y43 y44 y45 => Sp.L_11_0 m y43 y44 (IntKind.wrap IntKind.i64 (y45 + (1 : Int))))) else some (Sp.E_11_0.e1)
noncomputable def G_11_0 {R : Type} (p0 : Zt11_1) (p1 : Int) (p2 : Int) (k : Ex → St → Option R) : Option R := Sp.B_11_0 (Sp.L_11_0 FU p0 p1 p2) (k Ex.ret (X_11_0_0)) (k (Ex.exit (0 : Nat)) (X_11_0_1))
noncomputable def o_11_0 {R : Type} (G : (Zt11_1) → (Int) → (Int) → (Ex → St → Option R) → Option R) : St → (Ex → St → Option R) → Option R := fun T k => match T.sl.getD 0 .junk, T.sl.getD 1 .junk, T.sl.getD 5 .junk, T.hp with
  | CV.pure (Ty.slice (Ty.pair Ty.str (Ty.pair (Ty.int IntKind.i64) (Ty.pair (Ty.int IntKind.i64) (Ty.pair (Ty.slice (Ty.int IntKind.i64)) (Ty.pair (Ty.int IntKind.i64) Ty.unit)))))) p0, CV.int IntKind.i64 p1, CV.int IntKind.i64 p2, [] => gd (shapeOK T 129 [0, 1, 5] (0 : Nat)) (G p0 p1 p2 k)
  | _, _, _, _ => none
noncomputable def O_11_11_1 {R : Type} : St → (Ex → St → Option R) → Option R := fun T k => o_11_1 G_11_1 T k
noncomputable def O_11_11_2 {R : Type} : St → (Ex → St → Option R) → Option R := fun T k => o_11_2 G_11_2 T k
noncomputable def O_11_11_0 {R : Type} : St → (Ex → St → Option R) → Option R := fun T k => o_11_0 G_11_0 T k
noncomputable def F_11 (a0 : (List ((List Int) × (Int × (Int × ((List Int) × (Int × Unit))))))) (a1 : Int) : Option (Bool × Unit) :=
  bif decide ((↑(List.length a0) : Int) > (64 : Int)) then some (false, PUnit.unit) else bif decide (a1 < (0 : Int)) then some (false, PUnit.unit) else bif decide (a1 > (64 : Int)) then some (false, PUnit.unit) else Sp.B_11_0 (Sp.L_11_0 (4611686018427387904 : Nat) a0 a1 (0 : Int)) (some (false, PUnit.unit)) (some (true, PUnit.unit))
noncomputable def Sp.p_11 (a0 : (List ((List Int) × (Int × (Int × ((List Int) × (Int × Unit))))))) (a1 : Int) : Bool := (F_11 a0 a1).isSome
noncomputable def Sp.v_11 (a0 : (List ((List Int) × (Int × (Int × ((List Int) × (Int × Unit))))))) (a1 : Int) : Bool × Unit := (F_11 a0 a1).getD (dfH [.bool])
noncomputable def s_11 : Summ := shN [(.slice (.pair .str Zy11_3)), (.int .i64)] [.bool] (fun x => Sp.p_11 x.1 x.2.1) (fun x => Sp.v_11 x.1 x.2.1)
end
end Go.Ev
set_option linter.unusedSimpArgs false
set_option linter.unusedVariables false
namespace Go.Ev
open Go
set_option maxRecDepth 100000
set_option maxHeartbeats 4000000
abbrev RxT := List Int × Int × Int × List Int × Int × Unit
abbrev AcT := Int × List Int × Unit
namespace Sp
noncomputable def rin (x l h : Int) : Bool := decide (l ≤ x) && decide (x ≤ h)
/-- A name. -/
noncomputable def nm (s : List Int) : Bool := rin s.length 1 24 && (fnd (fun j => !rin (s.getD j 0) 33 126) s.length 0).isNone
noncomputable def cbad (l : List Int) (n : Int) (j : Nat) : Bool := decide (l.getD j 0 < 0) || (decide (l.getD j 0 ≥ n) || (decide (0 < j) && decide (l.getD j 0 ≤ l.getD (j - 1) 0)))
/-- Causes. -/
noncomputable def cz (l : List Int) (n : Int) : Bool := (fnd (cbad l n) l.length 0).isNone
noncomputable def rt0 (r : RxT) : Bool := nm r.1 && (rin r.2.1 0 15 && (rin r.2.2.1 0 15 && (rin r.2.2.2.1.length 1 16 && rin r.2.2.2.2.1 (-5000) 10000)))
noncomputable def rt (r : RxT) (n : Int) : Bool := rt0 r && cz r.2.2.2.1 n
/-- The name comes before. -/
noncomputable def bef (l : List RxT) (i : Nat) : Bool := !(fnd (fun k => (l.getD k (Ty.dflt (.pair .str (.pair (.int .i64) (.pair (.int .i64) (.pair (.slice (.int .i64)) (.pair (.int .i64) .unit))))))).1 == (l.getD i (Ty.dflt (.pair .str (.pair (.int .i64) (.pair (.int .i64) (.pair (.slice (.int .i64)) (.pair (.int .i64) .unit))))))).1) i 0).isNone
/-- A valid list of reactions. -/
noncomputable def rv (l : List RxT) (n : Int) : Bool := rin n 0 64 && (decide (l.length ≤ 64) && (List.range l.length).all fun i => rt (l.getD i (Ty.dflt (.pair .str (.pair (.int .i64) (.pair (.int .i64) (.pair (.slice (.int .i64)) (.pair (.int .i64) .unit))))))) n && !bef l i)
end Sp
theorem rin_iff {x l h : Int} : Sp.rin x l h = true ↔ l ≤ x ∧ x ≤ h := by simp [Sp.rin]
theorem rin_f {x l h : Int} (k : x < l ∨ h < x) : Sp.rin x l h = false := by
  unfold Sp.rin
  rcases k with k | k
  · rw [decide_eq_false (by omega)]; rfl
  · rw [decide_eq_false (p := x ≤ h) (by omega), Bool.and_false]
theorem rin_t {x l h : Int} (k1 : l ≤ x) (k2 : x ≤ h) : Sp.rin x l h = true := rin_iff.2 ⟨k1, k2⟩
theorem nm_lo {s : List Int} (h : (s.length : Int) < 1) : Sp.nm s = false := by unfold Sp.nm; rw [rin_f (Or.inl h)]; rfl
theorem nm_hi {s : List Int} (h : (s.length : Int) > 24) : Sp.nm s = false := by unfold Sp.nm; rw [rin_f (Or.inr h)]; rfl
theorem nm_in {s : List Int} (h : ¬ (s.length : Int) < 1) (h' : ¬ (s.length : Int) > 24) : Sp.nm s = (fnd (fun j => !Sp.rin (s.getD j 0) 33 126) s.length 0).isNone := by unfold Sp.nm; rw [rin_t (by omega) (by omega)]; rfl
theorem nm_ok (s : List Int) : F_57 s = some (Sp.nm s, ()) := by
  unfold F_57
  by_cases h1 : (s.length : Int) < 1
  · rw [cond_dtt h1, nm_lo h1]
  by_cases h2 : (s.length : Int) > 24
  · rw [cond_dff h1, cond_dtt h2, nm_hi h2]
  rw [cond_dff h1, cond_dff h2, nm_in h1 h2]
  have hf := find0 (fun m i => Sp.L_57_0 m s s.length i) (n := s.length) (fun j => !Sp.rin (s.getD j 0) 33 126) (ex := fun _ => some .e0) (e1 := some .e1) (by omega) (fun m j hj => by
    show Sp.L_57_0 (m + 1) s s.length j = bif !Sp.rin (s.getD j 0) 33 126 then some .e0 else Sp.L_57_0 m s s.length ((j + 1 : Nat) : Int)
    rw [Sp.L_57_0, cond_dtt (by omega), gd_inB (by omega) (by omega), gd_inB (by omega) (by omega), Int.toNat_natCast, wi64 (by omega) (by omega)]
    by_cases a : s.getD j 0 < 33
    · rw [cond_dtt a, rin_f (Or.inl a)]; rfl
    by_cases b : s.getD j 0 > 126
    · rw [cond_dff a, cond_dtt b, rin_f (Or.inr b)]; rfl
    rw [cond_dff a, cond_dff b, rin_t (by omega) (by omega)]
    push_cast
    rfl) (fun m => by
    show Sp.L_57_0 (m + 1) s s.length s.length = _
    rw [Sp.L_57_0, cond_dff (by omega)])
  rw [hf]
  cases fnd (fun j => !Sp.rin (s.getD j 0) 33 126) s.length 0 <;> rfl
theorem nm_pv (s : List Int) : Sp.p_57 s = true ∧ Sp.v_57 s = (Sp.nm s, ()) := pv_57 s (nm_ok s)
/-- A chain of tests. -/
theorem chain_rt {R : Type} (r : RxT) (nmb : Bool) (h : nmb = Sp.nm r.1) (x y : R) : (bif !nmb then x else bif decide (r.2.1 < 0) then x else bif decide (r.2.1 > 15) then x else bif decide (r.2.2.1 < 0) then x else bif decide (r.2.2.1 > 15) then x else bif decide ((r.2.2.2.1.length : Int) < 1) then x else bif decide ((r.2.2.2.1.length : Int) > 16) then x else bif decide (r.2.2.2.2.1 < -5000) then x else bif decide (r.2.2.2.2.1 > 10000) then x else y) = bif Sp.rt0 r then y else x := by
  subst h
  unfold Sp.rt0
  cases Sp.nm r.1
  · rfl
  rw [Bool.not_true, cond_f, Bool.true_and]
  by_cases a1 : r.2.1 < 0
  · rw [cond_dtt a1, rin_f (Or.inl a1)]; rfl
  by_cases a2 : r.2.1 > 15
  · rw [cond_dff a1, cond_dtt a2, rin_f (Or.inr a2)]; rfl
  rw [cond_dff a1, cond_dff a2, rin_t (by omega) (by omega), Bool.true_and]
  by_cases a3 : r.2.2.1 < 0
  · rw [cond_dtt a3, rin_f (Or.inl a3)]; rfl
  by_cases a4 : r.2.2.1 > 15
  · rw [cond_dff a3, cond_dtt a4, rin_f (Or.inr a4)]; rfl
  rw [cond_dff a3, cond_dff a4, rin_t (by omega) (by omega), Bool.true_and]
  by_cases a5 : (r.2.2.2.1.length : Int) < 1
  · rw [cond_dtt a5, rin_f (Or.inl a5)]; rfl
  by_cases a6 : (r.2.2.2.1.length : Int) > 16
  · rw [cond_dff a5, cond_dtt a6, rin_f (Or.inr a6)]; rfl
  rw [cond_dff a5, cond_dff a6, rin_t (by omega) (by omega), Bool.true_and]
  by_cases a7 : r.2.2.2.2.1 < -5000
  · rw [cond_dtt a7, rin_f (Or.inl a7)]; rfl
  by_cases a8 : r.2.2.2.2.1 > 10000
  · rw [cond_dff a7, cond_dtt a8, rin_f (Or.inr a8)]; rfl
  rw [cond_dff a7, cond_dff a8, rin_t (by omega) (by omega)]
  rfl
theorem rt0_len {r : RxT} (h : Sp.rt0 r = true) : 1 ≤ r.2.2.2.1.length ∧ r.2.2.2.1.length ≤ 16 := by
  unfold Sp.rt0 at h
  simp only [Bool.and_eq_true, rin_iff] at h
  omega
theorem rt_ok (r : RxT) (n : Int) : F_51 r n = some (Sp.rt r n, ()) := by
  unfold F_51
  rw [(nm_pv r.1).1, (nm_pv r.1).2, gd_tt, chain_rt r _ rfl]
  unfold Sp.rt
  cases h : Sp.rt0 r
  · rfl
  obtain ⟨l1, l2⟩ := rt0_len h
  rw [cond_t, Bool.true_and]
  have hf := find0 (fun m i => Sp.L_51_0 m n r.2.2.2.1 r.2.2.2.1.length i r) (n := r.2.2.2.1.length) (Sp.cbad r.2.2.2.1 n) (ex := fun _ => some .e0) (e1 := some .e1) (by omega) (fun m j hj => by
    show Sp.L_51_0 (m + 1) n r.2.2.2.1 r.2.2.2.1.length j r = bif Sp.cbad r.2.2.2.1 n j then some .e0 else Sp.L_51_0 m n r.2.2.2.1 r.2.2.2.1.length ((j + 1 : Nat) : Int) r
    rw [Sp.L_51_0, cond_dtt (by omega), gd_inB (by omega) (by omega), Int.toNat_natCast, wi64 (n := (j : Int) + 1) (by omega) (by omega)]
    unfold Sp.cbad
    by_cases a : r.2.2.2.1.getD j 0 < 0
    · rw [cond_dtt a, decide_eq_true a]; rfl
    by_cases b : r.2.2.2.1.getD j 0 ≥ n
    · rw [cond_dff a, cond_dtt b, decide_eq_false a, decide_eq_true b]; rfl
    rw [cond_dff a, cond_dff b, decide_eq_false a, decide_eq_false b, Bool.false_or, Bool.false_or]
    by_cases c : (j : Int) > 0
    · rw [cond_dtt c, wi64 (by omega) (by omega), gd_inB (by omega) (by omega), decide_eq_true (show 0 < j by omega), Bool.true_and, show Int.toNat ((j : Int) - 1) = j - 1 by omega]
      push_cast
      rfl
    · rw [cond_dff c, decide_eq_false (show ¬ 0 < j by omega), Bool.false_and]
      push_cast
      rfl) (fun m => by
    show Sp.L_51_0 (m + 1) n r.2.2.2.1 r.2.2.2.1.length r.2.2.2.1.length r = _
    rw [Sp.L_51_0, cond_dff (by omega)])
  rw [hf]
  unfold Sp.cz
  cases fnd (Sp.cbad r.2.2.2.1 n) r.2.2.2.1.length 0 <;> rfl
theorem rt_pv (r : RxT) (n : Int) : Sp.p_51 r n = true ∧ Sp.v_51 r n = (Sp.rt r n, ()) := pv_51 r n (rt_ok r n)
namespace Sp
noncomputable def dq : List RxT → List (List Int) → Bool
  | [], _ => true
  | r :: l, seen => !seen.contains r.1 && dq l (seen ++ [r.1])
end Sp
theorem rvl_eq (n : Int) : ∀ (l : List RxT) (seen : List (List Int)), Sp.rvl n l seen = some (l.all (fun r => Sp.rt r n) && Sp.dq l seen)
  | [], seen => rfl
  | r :: l, seen => by
    rw [Sp.rvl, (rt_pv r n).1, (rt_pv r n).2, gd_tt, rvl_eq n l, List.all_cons, Sp.dq]
    cases Sp.rt r n <;> cases seen.contains r.1 <;> cases l.all (fun r => Sp.rt r n) <;> rfl
theorem dq_iff : ∀ (l : List RxT) (seen : List (List Int)), Sp.dq l seen = true ↔ ∀ i, i < l.length → (l.getD i (Ty.dflt (.pair .str (.pair (.int .i64) (.pair (.int .i64) (.pair (.slice (.int .i64)) (.pair (.int .i64) .unit))))))).1 ∉ seen ∧ ∀ k, k < i → (l.getD k (Ty.dflt (.pair .str (.pair (.int .i64) (.pair (.int .i64) (.pair (.slice (.int .i64)) (.pair (.int .i64) .unit))))))).1 ≠ (l.getD i (Ty.dflt (.pair .str (.pair (.int .i64) (.pair (.int .i64) (.pair (.slice (.int .i64)) (.pair (.int .i64) .unit))))))).1
  | [], seen => by simp [Sp.dq]
  | r :: l, seen => by
    rw [Sp.dq, Bool.and_eq_true, dq_iff l]
    constructor
    · rintro ⟨h1, h2⟩ i hi
      cases i with
      | zero => exact ⟨by simpa using h1, fun k hk => by omega⟩
      | succ i =>
        obtain ⟨h3, h4⟩ := h2 i (by simpa using hi)
        rw [List.getD_cons_succ]
        refine ⟨fun h => h3 (List.mem_append_left _ h), fun k hk => ?_⟩
        cases k with
        | zero =>
          rw [List.getD_cons_zero]
          intro h
          exact h3 (List.mem_append_right _ (by rw [← h]; exact List.mem_singleton_self _))
        | succ k => rw [List.getD_cons_succ]; exact h4 k (by omega)
    · intro h
      refine ⟨by have := (h 0 (by simp)).1; simpa using this, fun i hi => ?_⟩
      obtain ⟨h3, h4⟩ := h (i + 1) (by simpa using hi)
      rw [List.getD_cons_succ] at h3 h4
      refine ⟨?_, fun k hk => ?_⟩
      · simp only [List.mem_append, List.mem_singleton, not_or]
        exact ⟨h3, fun e => h4 0 (by omega) (by rw [List.getD_cons_zero]; exact e.symm)⟩
      · have := h4 (k + 1) (by omega)
        rwa [List.getD_cons_succ] at this
theorem bef_iff {l : List RxT} {i : Nat} : Sp.bef l i = false ↔ ∀ k, k < i → (l.getD k (Ty.dflt (.pair .str (.pair (.int .i64) (.pair (.int .i64) (.pair (.slice (.int .i64)) (.pair (.int .i64) .unit))))))).1 ≠ (l.getD i (Ty.dflt (.pair .str (.pair (.int .i64) (.pair (.int .i64) (.pair (.slice (.int .i64)) (.pair (.int .i64) .unit))))))).1 := by
  unfold Sp.bef
  rw [Bool.not_eq_false', Option.isNone_iff_eq_none, fnd_none]
  constructor
  · intro h k hk
    have := h k (by omega) (by omega)
    simpa using this
  · intro h k _ hk
    have := h k (by omega)
    simpa using this
theorem rv_all (l : List RxT) (n : Int) : ((List.range l.length).all fun i => Sp.rt (l.getD i (Ty.dflt (.pair .str (.pair (.int .i64) (.pair (.int .i64) (.pair (.slice (.int .i64)) (.pair (.int .i64) .unit))))))) n && !Sp.bef l i) = (l.all (fun r => Sp.rt r n) && Sp.dq l []) := by
  rw [Bool.eq_iff_iff, Bool.and_eq_true, List.all_eq_true, List.all_eq_true, dq_iff]
  simp only [List.mem_range, Bool.and_eq_true, Bool.not_eq_true', bef_iff]
  constructor
  · intro h
    refine ⟨fun r hr => ?_, fun i hi => ⟨by simp, (h i hi).2⟩⟩
    obtain ⟨i, hi, rfl⟩ := List.getElem_of_mem hr
    have := (h i hi).1
    rwa [getD_at _ hi] at this
  · rintro ⟨h1, h2⟩ i hi
    exact ⟨h1 _ (by rw [getD_at _ hi]; exact List.getElem_mem hi), (h2 i hi).2⟩
theorem rv_ok (l : List RxT) (n : Int) : F_37 l n = some (Sp.rv l n, ()) := by
  unfold F_37 Sp.rv
  by_cases h1 : n < 0
  · rw [cond_dtt h1, rin_f (Or.inl h1)]; rfl
  by_cases h2 : n > 64
  · rw [cond_dff h1, cond_dtt h2, rin_f (Or.inr h2)]; rfl
  rw [cond_dff h1, cond_dff h2, rin_t (by omega) (by omega), Bool.true_and]
  by_cases h3 : (l.length : Int) > 64
  · rw [cond_dtt h3, decide_eq_false (by omega)]; rfl
  rw [cond_dff h3, decide_eq_true (by omega), Bool.true_and, rv_all, rvl_eq]
  rfl
theorem rv_pv (l : List RxT) (n : Int) : Sp.p_37 l n = true ∧ Sp.v_37 l n = (Sp.rv l n, ()) := pv_37 l n (rv_ok l n)
end Go.Ev
namespace Go.Ev
open Go
set_option maxRecDepth 100000
set_option maxHeartbeats 4000000
set_option linter.unusedVariables false
noncomputable section
abbrev Zy14_0 : Ty := (Ty.pair (Ty.int IntKind.i64) (Ty.pair (Ty.int IntKind.i64) (Ty.pair (Ty.slice (Ty.int IntKind.i64)) (Ty.pair (Ty.int IntKind.i64) Ty.unit))))
abbrev Zy14_1 : Ty := (Ty.pair (Ty.int IntKind.i64) (Ty.pair (Ty.slice (Ty.int IntKind.i64)) Ty.unit))
abbrev Zy14_2 : Ty := (.pair (.int .i64) (.pair (.int .i64) (.pair (.slice (.int .i64)) (.pair (.int .i64) .unit))))
abbrev Zt14_3 : Type := List (List Int × Int × Int × List Int × Int × Unit)
abbrev Zy14_4 : Ty := (.slice (.pair (.int .i64) (.pair (.slice (.int .i64)) .unit)))
abbrev Zt14_5 : Type := List (Int × List Int × Unit)

noncomputable def sm_14 : Nat → Option Summ := fun f => none
noncomputable def T_14_0 (p0 : Zt14_3) (p1 : Zt14_5) (p2 : Int) (p3 : Int) (p4 : Int) (p5 : Int) : St := St.mk ([CV.pure (Ty.slice (Ty.pair Ty.str Zy14_0)) p0, CV.pure (Ty.slice (Ty.pair (Ty.int IntKind.i64) (Ty.pair (Ty.slice (Ty.int IntKind.i64)) Ty.unit))) p1, CV.int IntKind.i64 p2] ++ (jl 6 ++ ([CV.int IntKind.i64 p3, CV.int IntKind.i64 p4, CV.int IntKind.i64 p5] ++ (jl 39)))) [] (0 : Nat)
noncomputable def X_14_0_0 (p4 : Int) : St := St.mk (jl 10 ++ ([CV.int IntKind.i64 p4] ++ (jl 40))) [] (0 : Nat)
inductive Sp.E_14_0 where
  | e0 (p4 : Int)
noncomputable def Sp.B_14_0 {R : Type} (r : Option Sp.E_14_0) (k0 : (Int) → Option R) : Option R := match r with
  | none => none
  | some (.e0 p4) => k0 p4
noncomputable def Sp.L_14_0 : Nat → (List (List Int × Int × Int × List Int × Int × Unit)) → (List (Int × List Int × Unit)) → (Int) → (Int) → (Int) → (Int) → Option Sp.E_14_0
  | 0, _, _, _, _, _, _ => none
  | m + 1, p0, p1, p2, p3, p4, p5 => bif decide (p5 < (↑(List.length p1) : Int)) then gd (inB p5 (List.length p1)) (gd (inB ((List.getD p1 (Int.toNat p5) Zd0).1) (List.length p0)) (bif (List.getD p0 (Int.toNat ((List.getD p1 (Int.toNat p5) Zd0).1)) (Ty.dflt (Ty.pair Ty.str (Ty.pair (Ty.int IntKind.i64) (Ty.pair (Ty.int IntKind.i64) (Ty.pair (Ty.slice (Ty.int IntKind.i64)) (Ty.pair (Ty.int IntKind.i64) Ty.unit))))))).2.1 != p2 then Sp.L_14_0 m p0 p1 p2 p3 p4 (IntKind.wrap IntKind.i64 (p5 + (1 : Int))) else bif decide ((List.getD p0 (Int.toNat ((List.getD p1 (Int.toNat p5) Zd0).1)) (Ty.dflt (Ty.pair Ty.str (Ty.pair (Ty.int IntKind.i64) (Ty.pair (Ty.int IntKind.i64) (Ty.pair (Ty.slice (Ty.int IntKind.i64)) (Ty.pair (Ty.int IntKind.i64) Ty.unit))))))).2.2.1 < p3) then Sp.L_14_0 m p0 p1 p2 p3 p4 (IntKind.wrap IntKind.i64 (p5 + (1 : Int))) else bif decide ((List.getD p0 (Int.toNat ((List.getD p1 (Int.toNat p5) Zd0).1)) (Ty.dflt (Ty.pair Ty.str (Ty.pair (Ty.int IntKind.i64) (Ty.pair (Ty.int IntKind.i64) (Ty.pair (Ty.slice (Ty.int IntKind.i64)) (Ty.pair (Ty.int IntKind.i64) Ty.unit))))))).2.2.1 > p3) then Sp.L_14_0 m p0 p1 p2 ((List.getD p0 (Int.toNat ((List.getD p1 (Int.toNat p5) Zd0).1)) (Ty.dflt (Ty.pair Ty.str (Ty.pair (Ty.int IntKind.i64) (Ty.pair (Ty.int IntKind.i64) (Ty.pair (Ty.slice (Ty.int IntKind.i64)) (Ty.pair (Ty.int IntKind.i64) Ty.unit))))))).2.2.1) (if (List.getD p0 (Int.toNat ((List.getD p1 (Int.toNat p5) Zd0).1)) (Ty.dflt (Ty.pair Ty.str (Ty.pair (Ty.int IntKind.i64) (Ty.pair (Ty.int IntKind.i64) (Ty.pair (Ty.slice (Ty.int IntKind.i64)) (Ty.pair (Ty.int IntKind.i64) Ty.unit))))))).2.2.2.2.1 < (List.getD p0 (Int.toNat ((List.getD p1 (Int.toNat p5) Zd0).1)) (Ty.dflt (Ty.pair Ty.str (Ty.pair (Ty.int IntKind.i64) (Ty.pair (Ty.int IntKind.i64) (Ty.pair (Ty.slice (Ty.int IntKind.i64)) (Ty.pair (Ty.int IntKind.i64) Ty.unit))))))).2.2.2.2.1 then (List.getD p0 (Int.toNat ((List.getD p1 (Int.toNat p5) Zd0).1)) (Ty.dflt (Ty.pair Ty.str (Ty.pair (Ty.int IntKind.i64) (Ty.pair (Ty.int IntKind.i64) (Ty.pair (Ty.slice (Ty.int IntKind.i64)) (Ty.pair (Ty.int IntKind.i64) Ty.unit))))))).2.2.2.2.1 else (List.getD p0 (Int.toNat ((List.getD p1 (Int.toNat p5) Zd0).1)) (Ty.dflt (Ty.pair Ty.str (Ty.pair (Ty.int IntKind.i64) (Ty.pair (Ty.int IntKind.i64) (Ty.pair (Ty.slice (Ty.int IntKind.i64)) (Ty.pair (Ty.int IntKind.i64) Ty.unit))))))).2.2.2.2.1) (IntKind.wrap IntKind.i64 (p5 + (1 : Int))) else Sp.L_14_0 m p0 p1 p2 p3 (if (List.getD p0 (Int.toNat ((List.getD p1 (Int.toNat p5) Zd0).1)) (Ty.dflt (Ty.pair Ty.str (Ty.pair (Ty.int IntKind.i64) (Ty.pair (Ty.int IntKind.i64) (Ty.pair (Ty.slice (Ty.int IntKind.i64)) (Ty.pair (Ty.int IntKind.i64) Ty.unit))))))).2.2.2.2.1 < p4 then (List.getD p0 (Int.toNat ((List.getD p1 (Int.toNat p5) Zd0).1)) (Ty.dflt (Ty.pair Ty.str (Ty.pair (Ty.int IntKind.i64) (Ty.pair (Ty.int IntKind.i64) (Ty.pair (Ty.slice (Ty.int IntKind.i64)) (Ty.pair (Ty.int IntKind.i64) Ty.unit))))))).2.2.2.2.1 else p4) (IntKind.wrap IntKind.i64 (p5 + (1 : Int))))) else some (Sp.E_14_0.e0 p4)
noncomputable def G_14_0 {R : Type} (p0 : Zt14_3) (p1 : Zt14_5) (p2 : Int) (p3 : Int) (p4 : Int) (p5 : Int) (k : Ex → St → Option R) : Option R := Sp.B_14_0 (Sp.L_14_0 FU p0 p1 p2 p3 p4 p5) (fun p4 => k (Ex.exit (0 : Nat)) (X_14_0_0 p4))
noncomputable def o_14_0 {R : Type} (G : (Zt14_3) → (Zt14_5) → (Int) → (Int) → (Int) → (Int) → (Ex → St → Option R) → Option R) : St → (Ex → St → Option R) → Option R := fun T k => match T.sl.getD 0 .junk, T.sl.getD 1 .junk, T.sl.getD 2 .junk, T.sl.getD 9 .junk, T.sl.getD 10 .junk, T.sl.getD 11 .junk, T.hp with
  | CV.pure (Ty.slice (Ty.pair Ty.str (Ty.pair (Ty.int IntKind.i64) (Ty.pair (Ty.int IntKind.i64) (Ty.pair (Ty.slice (Ty.int IntKind.i64)) (Ty.pair (Ty.int IntKind.i64) Ty.unit)))))) p0, CV.pure (Ty.slice (Ty.pair (Ty.int IntKind.i64) (Ty.pair (Ty.slice (Ty.int IntKind.i64)) Ty.unit))) p1, CV.int IntKind.i64 p2, CV.int IntKind.i64 p3, CV.int IntKind.i64 p4, CV.int IntKind.i64 p5, [] => gd (shapeOK T 51 [0, 1, 2, 9, 10, 11] (0 : Nat)) (G p0 p1 p2 p3 p4 p5 k)
  | _, _, _, _, _, _, _ => none
noncomputable def O_14_14_0 {R : Type} : St → (Ex → St → Option R) → Option R := fun T k => o_14_0 G_14_0 T k
noncomputable def F_14 (a0 : (List ((List Int) × (Int × (Int × ((List Int) × (Int × Unit))))))) (a1 : (List (Int × ((List Int) × Unit)))) (a2 : Int) (a3 : Int) : Option (Int × Unit) :=
  Sp.B_14_0 (Sp.L_14_0 (4611686018427387904 : Nat) a0 a1 a2 (-1 : Int) a3 (0 : Int)) fun y1 => some (y1, PUnit.unit)
noncomputable def Sp.p_14 (a0 : (List ((List Int) × (Int × (Int × ((List Int) × (Int × Unit))))))) (a1 : (List (Int × ((List Int) × Unit)))) (a2 : Int) (a3 : Int) : Bool := (F_14 a0 a1 a2 a3).isSome
noncomputable def Sp.v_14 (a0 : (List ((List Int) × (Int × (Int × ((List Int) × (Int × Unit))))))) (a1 : (List (Int × ((List Int) × Unit)))) (a2 : Int) (a3 : Int) : Int × Unit := (F_14 a0 a1 a2 a3).getD (dfH [(.int .i64)])
noncomputable def s_14 : Summ := shN [(.slice (.pair .str Zy14_2)), Zy14_4, (.int .i64), (.int .i64)] [(.int .i64)] (fun x => Sp.p_14 x.1 x.2.1 x.2.2.1 x.2.2.2.1) (fun x => Sp.v_14 x.1 x.2.1 x.2.2.1 x.2.2.2.1)
end
end Go.Ev
set_option linter.unusedSimpArgs false
set_option linter.unusedVariables false
namespace Go.Ev
open Go
set_option maxRecDepth 100000
set_option maxHeartbeats 4000000
abbrev CfT := Int × Int × Int × Int × Int × Int × Bool × Int × Unit
abbrev FaT := Int × Int × Int × Int × Int × List Int × Int × Unit
abbrev FsT := List CfT × List FaT × Int × Bool × Unit
theorem aw : F_8 = some (true, ()) := by kernel_rfl
theorem aw_pv : Sp.p_8 = true ∧ Sp.v_8 = (true, ()) := pv_8 aw
theorem few_pv (l : List RxT) (F : FsT) : Sp.p_9 l F = true ∧ ((Sp.v_9 l F).1 = true → l.length ≤ 70 ∧ F.1.length ≤ 70 ∧ F.2.1.length ≤ 70 ∧ ∀ j, j < F.2.1.length → (F.2.1.getD j Zd2).2.2.2.2.2.1.length ≤ 20) := by
  have hF : ∃ b, F_9 l F = some (b, ()) ∧ (b = true → l.length ≤ 70 ∧ F.1.length ≤ 70 ∧ F.2.1.length ≤ 70 ∧ ∀ j, j < F.2.1.length → (F.2.1.getD j Zd2).2.2.2.2.2.1.length ≤ 20) := by
    unfold F_9
    by_cases h1 : (l.length : Int) ≤ 70
    rotate_left
    · rw [cond_dff h1]; exact ⟨false, rfl, fun h => by cases h⟩
    by_cases h2 : (F.1.length : Int) ≤ 70
    rotate_left
    · rw [cond_dtt h1, cond_dff h2]; exact ⟨false, rfl, fun h => by cases h⟩
    by_cases h3 : (F.2.1.length : Int) ≤ 70
    rotate_left
    · rw [cond_dtt h1, cond_dtt h2, cond_dff h3]; exact ⟨false, rfl, fun h => by cases h⟩
    rw [cond_dtt h1, cond_dtt h2, cond_dtt h3]
    have hf := find0 (fun m i => Sp.L_9_49_0_0 m l l.length i F) (n := l.length) (fun j => decide (((l.getD j (Ty.dflt (.pair .str (.pair (.int .i64) (.pair (.int .i64) (.pair (.slice (.int .i64)) (.pair (.int .i64) .unit))))))).2.2.2.1.length : Int) > 20) || decide (((l.getD j (Ty.dflt (.pair .str (.pair (.int .i64) (.pair (.int .i64) (.pair (.slice (.int .i64)) (.pair (.int .i64) .unit))))))).1.length : Int) > 60)) (ex := fun j => some (.e0 (j : Int) F)) (e1 := some (.e1 F)) (by omega) (fun m j hj => by
      show Sp.L_9_49_0_0 (m + 1) l l.length j F = bif decide (((l.getD j (Ty.dflt (.pair .str (.pair (.int .i64) (.pair (.int .i64) (.pair (.slice (.int .i64)) (.pair (.int .i64) .unit))))))).2.2.2.1.length : Int) > 20) || decide (((l.getD j (Ty.dflt (.pair .str (.pair (.int .i64) (.pair (.int .i64) (.pair (.slice (.int .i64)) (.pair (.int .i64) .unit))))))).1.length : Int) > 60) then some (.e0 (j : Int) F) else Sp.L_9_49_0_0 m l l.length ((j + 1 : Nat) : Int) F
      rw [Sp.L_9_49_0_0, cond_dtt (by omega), gd_inB (by omega) (by omega), Int.toNat_natCast, wi64 (by omega) (by omega)]
      push_cast
      cases decide (((l.getD j (Ty.dflt (.pair .str (.pair (.int .i64) (.pair (.int .i64) (.pair (.slice (.int .i64)) (.pair (.int .i64) .unit))))))).2.2.2.1.length : Int) > 20) <;> rfl) (fun m => by
      show Sp.L_9_49_0_0 (m + 1) l l.length l.length F = _
      rw [Sp.L_9_49_0_0, cond_dff (by omega)])
    have hg := find0 (fun m i => Sp.L_9_50_0_0 m F.2.1 F.2.1.length i F) (n := F.2.1.length) (fun j => decide (((F.2.1.getD j Zd2).2.2.2.2.2.1.length : Int) > 20)) (ex := fun j => some (.e0 (j : Int) F)) (e1 := some (.e1 F)) (by omega) (fun m j hj => by
      show Sp.L_9_50_0_0 (m + 1) F.2.1 F.2.1.length j F = bif decide (((F.2.1.getD j Zd2).2.2.2.2.2.1.length : Int) > 20) then some (.e0 (j : Int) F) else Sp.L_9_50_0_0 m F.2.1 F.2.1.length ((j + 1 : Nat) : Int) F
      rw [Sp.L_9_50_0_0, cond_dtt (by omega), gd_inB (by omega) (by omega), Int.toNat_natCast, wi64 (by omega) (by omega)]
      push_cast
      rfl) (fun m => by
      show Sp.L_9_50_0_0 (m + 1) F.2.1 F.2.1.length F.2.1.length F = _
      rw [Sp.L_9_50_0_0, cond_dff (by omega)])
    rw [hf]
    cases e : fnd (fun j => decide (((l.getD j (Ty.dflt (.pair .str (.pair (.int .i64) (.pair (.int .i64) (.pair (.slice (.int .i64)) (.pair (.int .i64) .unit))))))).2.2.2.1.length : Int) > 20) || decide (((l.getD j (Ty.dflt (.pair .str (.pair (.int .i64) (.pair (.int .i64) (.pair (.slice (.int .i64)) (.pair (.int .i64) .unit))))))).1.length : Int) > 60)) l.length 0 with
    | some k =>
      simp only [Sp.B_9_49_0_0]
      rw [decide_eq_true (by omega)]
      exact ⟨false, rfl, fun h => by cases h⟩
    | none =>
      simp only [Sp.B_9_49_0_0]
      rw [hg]
      cases e : fnd (fun j => decide (((F.2.1.getD j Zd2).2.2.2.2.2.1.length : Int) > 20)) F.2.1.length 0 with
      | some k =>
        simp only [Sp.B_9_50_0_0]
        rw [decide_eq_true (by omega)]
        exact ⟨false, rfl, fun h => by cases h⟩
      | none =>
        refine ⟨true, rfl, fun _ => ⟨by omega, by omega, by omega, fun j hj => ?_⟩⟩
        have := (fnd_none.1 e) j (by omega) (by omega)
        simp only [decide_eq_false_iff_not] at this
        omega
  obtain ⟨b, hb, hh⟩ := hF
  have hq := pv_9 _ _ hb
  exact ⟨hq.1, by rw [hq.2]; exact hh⟩
namespace Sp
/-- The reaction of an element. -/
noncomputable def rx (l : List RxT) (a : List AcT) (j : Nat) : RxT := l.getD (a.getD j Zd0).1.toNat (Ty.dflt (.pair .str (.pair (.int .i64) (.pair (.int .i64) (.pair (.slice (.int .i64)) (.pair (.int .i64) .unit))))))
noncomputable def abad (l : List RxT) (a : List AcT) (j : Nat) : Bool := decide ((a.getD j Zd0).1 < 0) || decide ((a.getD j Zd0).1 ≥ l.length)
noncomputable def aok (l : List RxT) (a : List AcT) : Bool := (fnd (abad l a) a.length 0).isNone
/-- Limit and priority after so many elements. -/
noncomputable def lms (l : List RxT) (a : List AcT) (g o : Int) : Nat → Int × Int
  | 0 => (o, -1)
  | j + 1 => if ¬ (rx l a j).2.1 = g ∨ (rx l a j).2.2.1 < (lms l a g o j).2 then lms l a g o j
    else if (rx l a j).2.2.1 > (lms l a g o j).2 then ((rx l a j).2.2.2.2.1, (rx l a j).2.2.1)
    else ((if (rx l a j).2.2.2.2.1 < (lms l a g o j).1 then (rx l a j).2.2.2.2.1 else (lms l a g o j).1), (lms l a g o j).2)
noncomputable def lim (l : List RxT) (a : List AcT) (g o : Int) : Int × Int × Unit :=
  bif rv l 64 && (decide (a.length ≤ 64) && aok l a) then (bif rin g 0 15 then ((lms l a g o a.length).1, 0, ()) else (0, 2, ())) else (0, 1, ())
end Sp
theorem aok_at {l : List RxT} {a : List AcT} (h : Sp.aok l a = true) {j : Nat} (hj : j < a.length) : 0 ≤ (a.getD j Zd0).1 ∧ (a.getD j Zd0).1 < l.length := by
  unfold Sp.aok at h
  rw [Option.isNone_iff_eq_none, fnd_none] at h
  have := h j (by omega) (by omega)
  unfold Sp.abad at this
  simp only [Bool.or_eq_false_iff, decide_eq_false_iff_not] at this
  omega
section
variable {l : List RxT} {a : List AcT} {g o : Int}
theorem ll_run (hl : a.length ≤ 100) (h : Sp.aok l a = true) : Sp.L_10_0 4611686018427387904 g o (-1) a a.length 0 l = some (.e0 (Sp.lms l a g o a.length).1) := by
  have hr := run0 (fun m i (s : Int × Int) => Sp.L_10_0 m g s.1 s.2 a a.length i l) (n := a.length) (fun j => Sp.lms l a g o j) (r := some (.e0 (Sp.lms l a g o a.length).1)) (by omega) (fun m j hj => by
    show Sp.L_10_0 (m + 1) g (Sp.lms l a g o j).1 (Sp.lms l a g o j).2 a a.length (j : Int) l = Sp.L_10_0 m g (Sp.lms l a g o (j + 1)).1 (Sp.lms l a g o (j + 1)).2 a a.length ((j + 1 : Nat) : Int) l
    have hb := aok_at h hj
    rw [Sp.L_10_0, cond_dtt (by omega), gd_inB (by omega) (by omega), Int.toNat_natCast, gd_inB hb.1 hb.2, wi64 (by omega) (by omega), Sp.lms]
    change (bif (Sp.rx l a j).2.1 != g then _ else bif decide ((Sp.rx l a j).2.2.1 < (Sp.lms l a g o j).2) then _ else bif decide ((Sp.rx l a j).2.2.1 > (Sp.lms l a g o j).2) then Sp.L_10_0 m g (if (Sp.rx l a j).2.2.2.2.1 < (Sp.rx l a j).2.2.2.2.1 then (Sp.rx l a j).2.2.2.2.1 else (Sp.rx l a j).2.2.2.2.1) (Sp.rx l a j).2.2.1 a a.length ((j : Int) + 1) l else Sp.L_10_0 m g (if (Sp.rx l a j).2.2.2.2.1 < (Sp.lms l a g o j).1 then (Sp.rx l a j).2.2.2.2.1 else (Sp.lms l a g o j).1) (Sp.lms l a g o j).2 a a.length ((j : Int) + 1) l) = _
    push_cast
    by_cases c1 : (Sp.rx l a j).2.1 = g
    rotate_left
    · rw [cond_ntt c1, if_pos (Or.inl c1)]
    rw [cond_nff c1]
    by_cases c2 : (Sp.rx l a j).2.2.1 < (Sp.lms l a g o j).2
    · rw [cond_dtt c2, if_pos (Or.inr c2)]
    have hc : ¬ (¬ (Sp.rx l a j).2.1 = g ∨ (Sp.rx l a j).2.2.1 < (Sp.lms l a g o j).2) := fun h => h.elim (fun h => h c1) c2
    rw [cond_dff c2, if_neg hc]
    by_cases c3 : (Sp.rx l a j).2.2.1 > (Sp.lms l a g o j).2
    · rw [cond_dtt c3, if_pos c3, if_neg (Int.lt_irrefl _)]
    · rw [cond_dff c3, if_neg c3]) (fun m => by
    show Sp.L_10_0 (m + 1) g (Sp.lms l a g o a.length).1 (Sp.lms l a g o a.length).2 a a.length a.length l = _
    rw [Sp.L_10_0, cond_dff (by omega)])
  exact hr
theorem lc_run (hl : a.length ≤ 100) : Sp.L_10_20_0_0 4611686018427387904 a a.length 0 l = (match fnd (Sp.abad l a) a.length 0 with | some k => some (.e0 (k : Int) l) | none => some (.e1 l)) := by
  have hf := find0 (fun m i => Sp.L_10_20_0_0 m a a.length i l) (n := a.length) (Sp.abad l a) (ex := fun j => some (.e0 (j : Int) l)) (e1 := some (.e1 l)) (by omega) (fun m j hj => by
    show Sp.L_10_20_0_0 (m + 1) a a.length j l = bif Sp.abad l a j then some (.e0 (j : Int) l) else Sp.L_10_20_0_0 m a a.length ((j + 1 : Nat) : Int) l
    rw [Sp.L_10_20_0_0, cond_dtt (by omega), gd_inB (by omega) (by omega), Int.toNat_natCast, wi64 (by omega) (by omega)]
    unfold Sp.abad
    push_cast
    cases decide ((a.getD j Zd0).1 < 0) <;> rfl) (fun m => by
    show Sp.L_10_20_0_0 (m + 1) a a.length a.length l = _
    rw [Sp.L_10_20_0_0, cond_dff (by omega)])
  exact hf
theorem lim_ok : F_10 l a g o = some (Sp.lim l a g o) := by
  unfold F_10 Sp.lim
  rw [(rv_pv l 64).1, (rv_pv l 64).2, gd_tt]
  cases Sp.rv l 64
  · rfl
  rw [Bool.not_true, cond_f, Bool.true_and]
  by_cases h1 : (a.length : Int) > 64
  · rw [cond_dtt h1, decide_eq_false (p := a.length ≤ 64) (by omega)]; rfl
  rw [cond_dff h1, decide_eq_true (p := a.length ≤ 64) (by omega), Bool.true_and, lc_run (by omega)]
  cases e : fnd (Sp.abad l a) a.length 0 with
  | some k =>
    simp only [Sp.B_10_20_0_0]
    rw [cond_dtt (by omega), show Sp.aok l a = false by unfold Sp.aok; rw [e]; rfl]
    rfl
  | none =>
    have ha : Sp.aok l a = true := by unfold Sp.aok; rw [e]; rfl
    simp only [Sp.B_10_20_0_0]
    rw [ha, cond_t]
    by_cases h2 : g < 0
    · rw [cond_dtt h2, rin_f (Or.inl h2)]; rfl
    by_cases h3 : g > 15
    · rw [cond_dff h2, cond_dtt h3, rin_f (Or.inr h3)]; rfl
    rw [cond_dff h2, cond_dff h3, rin_t (by omega) (by omega), ll_run (by omega) ha]
    rfl
theorem lim_pv (l : List RxT) (a : List AcT) (g o : Int) : Sp.p_10 l a g o = true ∧ Sp.v_10 l a g o = Sp.lim l a g o := pv_10 l a g o lim_ok
end
end Go.Ev
set_option linter.unusedSimpArgs false
set_option linter.unusedVariables false
namespace Go.Ev
open Go
set_option maxRecDepth 100000
set_option maxHeartbeats 4000000
section
variable {l : List RxT} {a : List AcT} {g o : Int}
theorem l4c_run (hl : a.length ≤ 100) : Sp.L_4_20_0_0 4611686018427387904 a a.length 0 l = (match fnd (Sp.abad l a) a.length 0 with | some k => some (.e0 (k : Int) l) | none => some (.e1 l)) := by
  have hf := find0 (fun m i => Sp.L_4_20_0_0 m a a.length i l) (n := a.length) (Sp.abad l a) (ex := fun j => some (.e0 (j : Int) l)) (e1 := some (.e1 l)) (by omega) (fun m j hj => by
    show Sp.L_4_20_0_0 (m + 1) a a.length j l = bif Sp.abad l a j then some (.e0 (j : Int) l) else Sp.L_4_20_0_0 m a a.length ((j + 1 : Nat) : Int) l
    rw [Sp.L_4_20_0_0, cond_dtt (by omega), gd_inB (by omega) (by omega), Int.toNat_natCast, wi64 (by omega) (by omega)]
    unfold Sp.abad
    push_cast
    cases decide ((a.getD j Zd0).1 < 0) <;> rfl) (fun m => by
    show Sp.L_4_20_0_0 (m + 1) a a.length a.length l = _
    rw [Sp.L_4_20_0_0, cond_dff (by omega)])
  exact hf
theorem rv_at (h : Sp.rv l 64 = true) {j : Nat} (hj : j < l.length) : 0 ≤ (l.getD j (Ty.dflt (.pair .str (.pair (.int .i64) (.pair (.int .i64) (.pair (.slice (.int .i64)) (.pair (.int .i64) .unit))))))).2.2.1 ∧ (l.getD j (Ty.dflt (.pair .str (.pair (.int .i64) (.pair (.int .i64) (.pair (.slice (.int .i64)) (.pair (.int .i64) .unit))))))).2.2.1 ≤ 15 := by
  unfold Sp.rv at h
  simp only [Bool.and_eq_true, List.all_eq_true, List.mem_range] at h
  have := (h.2.2 j hj).1
  unfold Sp.rt Sp.rt0 at this
  simp only [Bool.and_eq_true, rin_iff] at this
  exact this.1.2.2.1
theorem rx_at (h : Sp.rv l 64 = true) (ha : Sp.aok l a = true) {j : Nat} (hj : j < a.length) : 0 ≤ (Sp.rx l a j).2.2.1 := by
  have hb := aok_at ha hj
  exact (rv_at h (j := (a.getD j Zd0).1.toNat) (by omega)).1
/-- What the limit is. -/
structure Lm (l : List RxT) (a : List AcT) (g o : Int) (j : Nat) : Prop where
  m : -1 ≤ (Sp.lms l a g o j).2
  b : (Sp.lms l a g o j).2 < 0 → (Sp.lms l a g o j).1 = o
  c : ∀ i, i < j → (Sp.rx l a i).2.1 = g → (Sp.rx l a i).2.2.1 = (Sp.lms l a g o j).2 → (Sp.lms l a g o j).1 ≤ (Sp.rx l a i).2.2.2.2.1
  p : ∀ i, i < j → (Sp.rx l a i).2.1 = g → (Sp.rx l a i).2.2.1 ≤ (Sp.lms l a g o j).2
  d : 0 ≤ (Sp.lms l a g o j).2 → ∃ i, i < j ∧ (Sp.rx l a i).2.1 = g ∧ (Sp.rx l a i).2.2.1 = (Sp.lms l a g o j).2 ∧ (Sp.rx l a i).2.2.2.2.1 = (Sp.lms l a g o j).1
theorem lm_all (hr : ∀ j, j < a.length → 0 ≤ (Sp.rx l a j).2.2.1) : ∀ j, j ≤ a.length → Lm l a g o j
  | 0, _ => ⟨by show (-1 : Int) ≤ -1; decide, fun _ => rfl, fun i hi => by omega, fun i hi => by omega, fun h => by exact absurd h (by show ¬ (0 : Int) ≤ -1; decide)⟩
  | j + 1, hj => by
    have ih := lm_all hr j (by omega)
    have hp := hr j (by omega)
    obtain ⟨m, b, c, p, d⟩ := ih
    generalize hs : Sp.lms l a g o j = s at m b c p d
    by_cases c1 : ¬ (Sp.rx l a j).2.1 = g ∨ (Sp.rx l a j).2.2.1 < s.2
    · have e : Sp.lms l a g o (j + 1) = s := by rw [Sp.lms, hs, if_pos c1]
      refine ⟨by rw [e]; exact m, by rw [e]; exact b, ?_, ?_, ?_⟩ <;> rw [e]
      · intro i hi h1 h2
        rcases Nat.lt_succ_iff_lt_or_eq.1 hi with h | h
        · exact c i h h1 h2
        · subst h; rcases c1 with k | k
          · exact absurd h1 k
          · omega
      · intro i hi h1
        rcases Nat.lt_succ_iff_lt_or_eq.1 hi with h | h
        · exact p i h h1
        · subst h; rcases c1 with k | k
          · exact absurd h1 k
          · omega
      · intro h
        obtain ⟨i, hi, k⟩ := d h
        exact ⟨i, by omega, k⟩
    have g1 : (Sp.rx l a j).2.1 = g := Classical.byContradiction fun h => c1 (Or.inl h)
    have g2 : ¬ (Sp.rx l a j).2.2.1 < s.2 := fun h => c1 (Or.inr h)
    by_cases c3 : (Sp.rx l a j).2.2.1 > s.2
    · have e : Sp.lms l a g o (j + 1) = ((Sp.rx l a j).2.2.2.2.1, (Sp.rx l a j).2.2.1) := by rw [Sp.lms, hs, if_neg c1, if_pos c3]
      refine ⟨by rw [e]; dsimp only; omega, ?_, ?_, ?_, ?_⟩ <;> rw [e] <;> dsimp only
      · intro h; omega
      · intro i hi h1 h2
        rcases Nat.lt_succ_iff_lt_or_eq.1 hi with h | h
        · have := p i h h1; omega
        · subst h; exact Int.le_refl _
      · intro i hi h1
        rcases Nat.lt_succ_iff_lt_or_eq.1 hi with h | h
        · have := p i h h1; omega
        · subst h; exact Int.le_refl _
      · intro _
        exact ⟨j, by omega, g1, rfl, rfl⟩
    · have e : Sp.lms l a g o (j + 1) = ((if (Sp.rx l a j).2.2.2.2.1 < s.1 then (Sp.rx l a j).2.2.2.2.1 else s.1), s.2) := by rw [Sp.lms, hs, if_neg c1, if_neg c3]
      have e3 : (Sp.rx l a j).2.2.1 = s.2 := by omega
      refine ⟨by rw [e]; exact m, ?_, ?_, ?_, ?_⟩ <;> rw [e] <;> dsimp only
      · intro h; omega
      · intro i hi h1 h2
        rcases Nat.lt_succ_iff_lt_or_eq.1 hi with h | h
        · have := c i h h1 h2
          split <;> omega
        · subst h; split <;> omega
      · intro i hi h1
        rcases Nat.lt_succ_iff_lt_or_eq.1 hi with h | h
        · exact p i h h1
        · subst h; omega
      · intro h0
        by_cases c4 : (Sp.rx l a j).2.2.2.2.1 < s.1
        · exact ⟨j, by omega, g1, e3, by rw [if_pos c4]⟩
        · obtain ⟨i, hi, k1, k2, k3⟩ := d h0
          exact ⟨i, by omega, k1, k2, by rw [if_neg c4]; exact k3⟩
theorem l40_run {a4 n : Int} (hl : a.length ≤ 100) (h : Sp.aok l a = true) : Sp.L_4_0 4611686018427387904 a o a4 g n (-1) a a.length 0 l = some (.e0 a o a4 g n (Sp.lms l a g o a.length).2 l) := by
  have hr := run0 (fun m i (s : Int) => Sp.L_4_0 m a o a4 g n s a a.length i l) (n := a.length) (fun j => (Sp.lms l a g o j).2) (r := some (.e0 a o a4 g n (Sp.lms l a g o a.length).2 l)) (by omega) (fun m j hj => by
    show Sp.L_4_0 (m + 1) a o a4 g n (Sp.lms l a g o j).2 a a.length (j : Int) l = Sp.L_4_0 m a o a4 g n (Sp.lms l a g o (j + 1)).2 a a.length ((j + 1 : Nat) : Int) l
    have hb := aok_at h hj
    rw [Sp.L_4_0, cond_dtt (by omega), gd_inB (by omega) (by omega), Int.toNat_natCast, gd_inB hb.1 hb.2, wi64 (by omega) (by omega), Sp.lms]
    change (bif (Sp.rx l a j).2.1 == g then Sp.L_4_0 m a o a4 g n (if (Sp.rx l a j).2.2.1 > (Sp.lms l a g o j).2 then (Sp.rx l a j).2.2.1 else (Sp.lms l a g o j).2) a a.length ((j : Int) + 1) l else _) = _
    push_cast
    by_cases c1 : (Sp.rx l a j).2.1 = g
    rotate_left
    · rw [cond_eff c1, if_pos (Or.inl c1)]
    rw [cond_ett c1]
    by_cases c2 : (Sp.rx l a j).2.2.1 < (Sp.lms l a g o j).2
    · rw [if_pos (Or.inr c2), if_neg (by omega)]
    have hc : ¬ (¬ (Sp.rx l a j).2.1 = g ∨ (Sp.rx l a j).2.2.1 < (Sp.lms l a g o j).2) := fun h => h.elim (fun h => h c1) c2
    rw [if_neg hc]
    by_cases c3 : (Sp.rx l a j).2.2.1 > (Sp.lms l a g o j).2
    · rw [if_pos c3, if_pos c3]
    · rw [if_neg c3, if_neg c3]) (fun m => by
    show Sp.L_4_0 (m + 1) a o a4 g n (Sp.lms l a g o a.length).2 a a.length a.length l = _
    rw [Sp.L_4_0, cond_dff (by omega)])
  exact hr
namespace Sp
noncomputable def hit (l : List RxT) (a : List AcT) (g n most : Int) (j : Nat) : Bool := ((rx l a j).2.1 == g) && (((rx l a j).2.2.1 == most) && (n == (rx l a j).2.2.2.2.1))
end Sp
theorem l41_run {a4 n most : Int} (hl : a.length ≤ 100) (h : Sp.aok l a = true) (hc : ∀ i, i < a.length → (Sp.rx l a i).2.1 = g → (Sp.rx l a i).2.2.1 = most → n ≤ (Sp.rx l a i).2.2.2.2.1) : Sp.L_4_1 4611686018427387904 a o a4 g n most false a a.length 0 l = some (.e1 a o a4 g n most ((List.range a.length).any (Sp.hit l a g n most)) l) := by
  have hr := run0 (fun m i (s : Bool) => Sp.L_4_1 m a o a4 g n most s a a.length i l) (n := a.length) (fun j => (List.range j).any (Sp.hit l a g n most)) (r := some (.e1 a o a4 g n most ((List.range a.length).any (Sp.hit l a g n most)) l)) (by omega) (fun m j hj => by
    show Sp.L_4_1 (m + 1) a o a4 g n most ((List.range j).any (Sp.hit l a g n most)) a a.length (j : Int) l = Sp.L_4_1 m a o a4 g n most ((List.range (j + 1)).any (Sp.hit l a g n most)) a a.length ((j + 1 : Nat) : Int) l
    have hb := aok_at h hj
    rw [Sp.L_4_1, cond_dtt (by omega), gd_inB (by omega) (by omega), Int.toNat_natCast, gd_inB hb.1 hb.2, wi64 (by omega) (by omega), List.range_succ, List.any_append, List.any_cons, List.any_nil, Bool.or_false]
    have hcj := hc j hj
    generalize (List.range j).any (Sp.hit l a g n most) = f
    unfold Sp.hit
    change (bif (Sp.rx l a j).2.1 == g then bif (Sp.rx l a j).2.2.1 == most then bif decide (n > (Sp.rx l a j).2.2.2.2.1) then _ else bif f then _ else Sp.L_4_1 m a o a4 g n most (n == (Sp.rx l a j).2.2.2.2.1) a a.length ((j : Int) + 1) l else _ else _) = _
    push_cast
    by_cases c1 : (Sp.rx l a j).2.1 = g
    rotate_left
    · rw [cond_eff c1, beq_eq_false_iff_ne.2 c1, Bool.false_and, Bool.or_false]
    rw [cond_ett c1, beq_iff_eq.2 c1, Bool.true_and]
    by_cases c2 : (Sp.rx l a j).2.2.1 = most
    rotate_left
    · rw [cond_eff c2, beq_eq_false_iff_ne.2 c2, Bool.false_and, Bool.or_false]
    rw [cond_ett c2, beq_iff_eq.2 c2, Bool.true_and, cond_dff (by have := hcj c1 c2; omega)]
    cases f <;> rfl) (fun m => by
    show Sp.L_4_1 (m + 1) a o a4 g n most ((List.range a.length).any (Sp.hit l a g n most)) a a.length a.length l = _
    rw [Sp.L_4_1, cond_dff (by omega)])
  exact hr
theorem rx_app {x : AcT} {j : Nat} (hj : j < a.length) : Sp.rx l (a ++ [x]) j = Sp.rx l a j := by
  unfold Sp.rx
  rw [List.getD_eq_getElem?_getD, List.getD_eq_getElem?_getD, List.getElem?_append_left hj, ← List.getD_eq_getElem?_getD, ← List.getD_eq_getElem?_getD]
theorem lms_app {x : AcT} : ∀ j, j ≤ a.length → Sp.lms l (a ++ [x]) g o j = Sp.lms l a g o j
  | 0, _ => rfl
  | j + 1, hj => by rw [Sp.lms, Sp.lms, lms_app j (by omega), rx_app (by omega)]
theorem aok_app {x : AcT} (h : Sp.aok l a = true) (h0 : 0 ≤ x.1) (h1 : x.1 < l.length) : Sp.aok l (a ++ [x]) = true := by
  unfold Sp.aok
  rw [Option.isNone_iff_eq_none, fnd_none]
  intro j _ hj
  rw [List.length_append] at hj
  unfold Sp.abad
  by_cases e : j < a.length
  · have hb := aok_at h e
    have : (a ++ [x]).getD j Zd0 = a.getD j Zd0 := by
      rw [List.getD_eq_getElem?_getD, List.getD_eq_getElem?_getD, List.getElem?_append_left e]
    rw [this, decide_eq_false (by omega), decide_eq_false (by omega)]; rfl
  · have : j = a.length := by simp at hj; omega
    subst this
    have : (a ++ [x]).getD a.length Zd0 = x := by
      rw [List.getD_eq_getElem?_getD, List.getElem?_append_right (Nat.le_refl _)]; simp
    rw [this, decide_eq_false (by omega), decide_eq_false (by omega)]; rfl
end
theorem plain_4 (l : List RxT) (a : List AcT) (g0 o more : Int) (_ : wfD (.slice (.pair .str (.pair (.int .i64) (.pair (.int .i64) (.pair (.slice (.int .i64)) (.pair (.int .i64) .unit)))))) l) (_ : wfD (.slice (.pair (.int .i64) (.pair (.slice (.int .i64)) .unit))) a) (wg : wfD (.int .u8) g0) (_ : wfD (.int .i64) o) (wm : wfD (.int .u8) more) : F_4 l a g0 o more = some true := by
  simp [wfD, Lit.wf, IntKind.min, IntKind.max, IntKind.signed, IntKind.bits] at wg wm
  unfold F_4
  obtain ⟨f1, f2⟩ := few_pv l ([], [], 0, false, ())
  rw [aw_pv.1, aw_pv.2, gd_tt, Bool.not_true, cond_f, f1, gd_tt]
  cases hfe : (Sp.v_9 l ([], [], 0, false, ())).1
  · rfl
  have hl70 := (f2 hfe).1
  rw [Bool.not_true, cond_f]
  by_cases h1 : (a.length : Int) > 60
  · rw [cond_dtt h1]; rfl
  rw [cond_dff h1]
  by_cases h2 : (l.length : Int) = 0
  · rw [cond_ett h2]; rfl
  have hm0 := Int.tmod_nonneg (a := more) (l.length : Int) (by omega)
  have hm1 := Int.tmod_lt_of_pos more (b := (l.length : Int)) (by omega)
  rw [cond_eff h2, wi64 (n := g0) (by omega) (by omega)]
  generalize Int.tmod g0 16 = g
  rw [(lim_pv l a g o).1, (lim_pv l a g o).2, gd_tt]
  cases hrv : Sp.rv l 64
  · unfold Sp.lim; rw [hrv]; rfl
  cases hao : Sp.aok l a
  · unfold Sp.lim; rw [hao, Bool.and_false, Bool.and_false]; rfl
  cases hri : Sp.rin g 0 15
  · unfold Sp.lim; rw [hrv, hao, hri, decide_eq_true (p := a.length ≤ 64) (by omega)]; rfl
  have elim : Sp.lim l a g o = ((Sp.lms l a g o a.length).1, 0, ()) := by
    unfold Sp.lim; rw [hrv, hao, hri, decide_eq_true (p := a.length ≤ 64) (by omega)]; rfl
  rw [elim, cond_nff rfl, l4c_run (by omega)]
  have hnone : fnd (Sp.abad l a) a.length 0 = none := by unfold Sp.aok at hao; rwa [Option.isNone_iff_eq_none] at hao
  rw [hnone]
  dsimp only [Sp.B_4_20_0_0]
  rw [l40_run (by omega) hao]
  dsimp only [Sp.B_4_0]
  have L := lm_all (g := g) (o := o) (fun j hj => rx_at hrv hao hj) a.length (Nat.le_refl _)
  by_cases hneg : (Sp.lms l a g o a.length).2 < 0
  · rw [cond_dtt hneg, L.b hneg, beq_self_eq_true]
  rw [cond_dff hneg, l41_run (by omega) hao (fun i hi h1 h2 => L.c i hi h1 h2)]
  dsimp only [Sp.B_4_1]
  have hany : (List.range a.length).any (Sp.hit l a g (Sp.lms l a g o a.length).1 (Sp.lms l a g o a.length).2) = true := by
    obtain ⟨i, hi, k1, k2, k3⟩ := L.d (by omega)
    rw [List.any_eq_true]
    refine ⟨i, by rw [List.mem_range]; exact hi, ?_⟩
    unfold Sp.hit
    rw [k1, k2, k3]
    simp
  rw [hany, wi64 (n := more) (by omega) (by omega)]
  generalize hi : Int.tmod more (l.length : Int) = i at hm0 hm1
  have hgd0 : (!((l.length : Nat) : Int) == 0) = true := by rw [beq_eq_false_iff_ne.2 h2]; rfl
  rw [hgd0, gd_tt, gd_room (by omega) (by omega), gd_room (by omega) (by omega), (lim_pv l (a ++ [(i, [], ())]) g o).1, (lim_pv l (a ++ [(i, [], ())]) g o).2, gd_tt]
  have elim2 : Sp.lim l (a ++ [(i, [], ())]) g o = ((Sp.lms l (a ++ [(i, [], ())]) g o (a.length + 1)).1, 0, ()) := by
    unfold Sp.lim
    have hlen : decide ((a ++ [((i, [], ()) : AcT)]).length ≤ 64) = true := decide_eq_true (by simp; omega)
    rw [hrv, aok_app hao hm0 hm1, hri, hlen]
    simp
  have hrx : Sp.rx l (a ++ [(i, [], ())]) a.length = l.getD i.toNat (Ty.dflt (.pair .str (.pair (.int .i64) (.pair (.int .i64) (.pair (.slice (.int .i64)) (.pair (.int .i64) .unit)))))) := by
    unfold Sp.rx
    rw [List.getD_eq_getElem?_getD (l := a ++ _), List.getElem?_append_right (Nat.le_refl _)]
    simp
  rw [elim2, Sp.lms, lms_app a.length (Nat.le_refl _), hrx, Bool.not_true, cond_f, cond_nff rfl, gd_inB hm0 hm1]
  dsimp only
  generalize l.getD i.toNat (Ty.dflt (.pair .str (.pair (.int .i64) (.pair (.int .i64) (.pair (.slice (.int .i64)) (.pair (.int .i64) .unit)))))) = r
  generalize Sp.lms l a g o a.length = s
  by_cases c1 : r.2.1 = g
  rotate_left
  · rw [cond_ntt c1, if_pos (Or.inl c1), beq_self_eq_true]
  rw [cond_nff c1]
  by_cases c2 : r.2.2.1 < s.2
  · rw [cond_dtt c2, if_pos (Or.inr c2), beq_self_eq_true]
  have hc : ¬ (¬ r.2.1 = g ∨ r.2.2.1 < s.2) := fun h => h.elim (fun h => h c1) c2
  rw [cond_dff c2, if_neg hc]
  by_cases c3 : r.2.2.1 = s.2
  · rw [cond_ett c3, if_neg (by omega), beq_self_eq_true]
  · rw [cond_eff c3, if_pos (by omega), beq_self_eq_true]
end Go.Ev
