/- Helpers: functions of the program as Lean functions, and what they compute. No condition. -/
import Derived.Test.YtfofdehkgkjbbaaE7P2
import Derived.Test.YtfofdehkgkjbbaaG7P0
import Derived.Test.YtfofdehkgkjbbaaG7P1
import Derived.Test.YtfofdehkgkjbbaaProg
set_option maxRecDepth 10000
set_option linter.unusedVariables false
set_option linter.unusedSimpArgs false
namespace Go.Ev
open Go
set_option maxRecDepth 100000
set_option maxHeartbeats 4000000
set_option linter.unusedVariables false
noncomputable section
abbrev Zt31_0 : Type := (List Int × List Int × Int × Unit) × List Int × Unit
abbrev Zy31_1 : Ty := (.pair (.pair (.slice (.int .u32)) (.pair (.slice (.int .i64)) (.pair (.int .i64) .unit))) (.pair (.arr 32 (.int .u8)) .unit))
abbrev Zt31_2 : Type := Int × Int × Unit
abbrev Zy31_3 : Ty := (Ty.pair (Ty.pair (Ty.slice (Ty.int IntKind.u32)) (Ty.pair (Ty.slice (Ty.int IntKind.i64)) (Ty.pair (Ty.int IntKind.i64) Ty.unit))) (Ty.pair (Ty.arr (32 : Nat) (Ty.int IntKind.u8)) Ty.unit))
abbrev Zy31_4 : Ty := (Ty.pair (Ty.int IntKind.i64) (Ty.pair (Ty.int IntKind.u32) Ty.unit))
abbrev Zy31_5 : Ty := (.pair (.int .i64) (.pair (.int .u32) .unit))
abbrev Zy31_6 : Ty := (Ty.pair (Ty.arr (32 : Nat) (Ty.int IntKind.u8)) Ty.unit)
abbrev Zy31_7 : Ty := (Ty.pair (Ty.int IntKind.i64) Ty.unit)
abbrev Zt31_8 : Type := List Int × Unit
abbrev Zt31_9 : Type := ((List Int) × ((List Int) × (Int × Unit))) × ((List Int) × Unit)
abbrev Zt31_10 : Type := Int × (Int × Unit)

noncomputable def sm_31 : Nat → Option Summ := fun f => bif Nat.beq f 14 then some s_14 else bif Nat.beq f 20 then some s_20 else bif Nat.beq f 34 then some s_34 else bif Nat.beq f 51 then some s_51 else bif Nat.beq f 60 then some s_60 else bif Nat.beq f 63 then some s_63 else none
noncomputable def T_31_1 (p0 : Int) (p1 : Int) (p2 : Zt31_0) (p3 : Zt31_2) (p4 : Int × Unit) (p5 : Zt31_8) (p6 : List Int) (p7 : List Int) (p8 : Zt31_2) : St := St.mk ([jk, CV.int IntKind.i64 p0, jk, CV.ptr (0 : Nat) [], jk, CV.ptr (1 : Nat) [], CV.ptr (2 : Nat) [], CV.ptr (5 : Nat) [], jk, CV.int IntKind.i64 p1] ++ (jl 76)) [Blk.mem (CV.pure Zy31_3 p2), Blk.mem (CV.pure Zy31_4 p3), Blk.mem (CV.pair (CV.pair (CV.whole (3 : Nat)) (CV.pair (CV.whole (4 : Nat)) (CV.pure Zy31_7 p4))) (CV.pure Zy31_6 p5)), Blk.vec (42 : Nat) (Ty.int IntKind.u32) p6, Blk.vec (3 : Nat) (Ty.int IntKind.i64) p7, Blk.mem (CV.pure Zy31_4 p8)] (0 : Nat)
noncomputable def X_31_1_0 (p1 : Int) : St := St.mk (jl 6 ++ ([CV.ptr (0 : Nat) [], CV.ptr (3 : Nat) [], CV.int IntKind.i64 p1] ++ (jl 77))) [Blk.mem (CV.pair (CV.pair (CV.whole (1 : Nat)) (CV.pair (CV.whole (2 : Nat)) (CV.pure Zy31_7 (((0 : Int), PUnit.unit) : (Int × Unit))))) (CV.pure Zy31_6 ((List.replicate (32 : Nat) (0 : Int), PUnit.unit) : ((List Int) × Unit)))), Blk.vec (42 : Nat) (Ty.int IntKind.u32) [], Blk.vec (3 : Nat) (Ty.int IntKind.i64) [], Blk.mem (CV.pure Zy31_4 (((0 : Int), (0 : Int), PUnit.unit) : (Zt31_10)))] (0 : Nat)
noncomputable def X_31_1_1 (p0 : Int) (p2 : Zt31_0) (p3 : Zt31_2) : St := St.mk (jl 6 ++ ([CV.ptr (0 : Nat) [], CV.ptr (3 : Nat) [], CV.int IntKind.i64 ((Sp.v_63 (p2.1) (IntKind.wrap IntKind.i64 (IntKind.wrap IntKind.i64 (Int.tdiv (IntKind.wrap IntKind.i64 (p0 * (↑(List.length (p2.1.1)) : Int))) (2 : Int)) + (0 : Int))) (0 : Int) p3).2.2.1)] ++ (jl 77))) [Blk.mem (CV.pair (CV.pair (CV.whole (1 : Nat)) (CV.pair (CV.whole (2 : Nat)) (CV.pure Zy31_7 (((0 : Int), PUnit.unit) : (Int × Unit))))) (CV.pure Zy31_6 ((List.replicate (32 : Nat) (0 : Int), PUnit.unit) : ((List Int) × Unit)))), Blk.vec (42 : Nat) (Ty.int IntKind.u32) [], Blk.vec (3 : Nat) (Ty.int IntKind.i64) [], Blk.mem (CV.pure Zy31_4 (((0 : Int), (0 : Int), PUnit.unit) : (Zt31_10)))] (0 : Nat)
noncomputable def X_31_1_2 (p0 : Int) (p2 : Zt31_0) (p3 : Zt31_2) : St := St.mk (jl 6 ++ ([CV.ptr (0 : Nat) [], CV.ptr (1 : Nat) [], CV.int IntKind.i64 ((Sp.v_63 (p2.1) (IntKind.wrap IntKind.i64 (IntKind.wrap IntKind.i64 (Int.tdiv (IntKind.wrap IntKind.i64 (p0 * (↑(List.length (p2.1.1)) : Int))) (2 : Int)) + (0 : Int))) (0 : Int) p3).2.2.1)] ++ (jl 77))) [Blk.mem (CV.pure Zy31_3 (((Sp.v_63 (p2.1) (IntKind.wrap IntKind.i64 (IntKind.wrap IntKind.i64 (Int.tdiv (IntKind.wrap IntKind.i64 (p0 * (↑(List.length (p2.1.1)) : Int))) (2 : Int)) + (0 : Int))) (0 : Int) p3).1, p2.2.1, PUnit.unit) : (Zt31_9))), Blk.mem (CV.pure Zy31_4 (((Sp.v_63 (p2.1) (IntKind.wrap IntKind.i64 (IntKind.wrap IntKind.i64 (Int.tdiv (IntKind.wrap IntKind.i64 (p0 * (↑(List.length (p2.1.1)) : Int))) (2 : Int)) + (0 : Int))) (0 : Int) p3).2.1) : (Zt31_10)))] (0 : Nat)
inductive Sp.E_31_1 where
  | e0 (p1 : Int)
  | e1 (p0 : Int) (p2 : Zt31_0) (p3 : Zt31_2)
  | e2 (p0 : Int) (p2 : Zt31_0) (p3 : Zt31_2)
noncomputable def Sp.B_31_1 {R : Type} (r : Option Sp.E_31_1) (k0 : (Int) → Option R) (k1 : (Int) → (Zt31_0) → (Zt31_2) → Option R) (k2 : (Int) → (Zt31_0) → (Zt31_2) → Option R) : Option R := match r with
  | none => none
  | some (.e0 p1) => k0 p1
  | some (.e1 p0 p2 p3) => k1 p0 p2 p3
  | some (.e2 p0 p2 p3) => k2 p0 p2 p3
noncomputable def Sp.J_31_1 (p0 : Int) (p1 : Int) (p2 : (List Int × List Int × Int × Unit) × List Int × Unit) (p3 : Int × Int × Unit) (p4 : Int × Unit) (p5 : List Int × Unit) (p6 : List Int) (p7 : List Int) (p8 : Int × Int × Unit) : Option Sp.E_31_1 :=
  bif p1 != (0 : Int) then some (Sp.E_31_1.e0 p1) else gd (Sp.p_63 (p2.1) (IntKind.wrap IntKind.i64 (IntKind.wrap IntKind.i64 (Int.tdiv (IntKind.wrap IntKind.i64 (p0 * (↑(List.length (p2.1.1)) : Int))) (2 : Int)) + (0 : Int))) (0 : Int) p3) (bif (Sp.v_63 (p2.1) (IntKind.wrap IntKind.i64 (IntKind.wrap IntKind.i64 (Int.tdiv (IntKind.wrap IntKind.i64 (p0 * (↑(List.length (p2.1.1)) : Int))) (2 : Int)) + (0 : Int))) (0 : Int) p3).2.2.1 != (0 : Int) then bif (Sp.v_63 (p2.1) (IntKind.wrap IntKind.i64 (IntKind.wrap IntKind.i64 (Int.tdiv (IntKind.wrap IntKind.i64 (p0 * (↑(List.length (p2.1.1)) : Int))) (2 : Int)) + (0 : Int))) (0 : Int) p3).2.2.1 != (18 : Int) then some (Sp.E_31_1.e1 p0 p2 p3) else some (Sp.E_31_1.e2 p0 p2 p3) else some (Sp.E_31_1.e2 p0 p2 p3))
noncomputable def G_31_1 {R : Type} (p0 : Int) (p1 : Int) (p2 : Zt31_0) (p3 : Zt31_2) (p4 : Int × Unit) (p5 : Zt31_8) (p6 : List Int) (p7 : List Int) (p8 : Zt31_2) (k : Ex → St → Option R) : Option R := Sp.B_31_1 (Sp.J_31_1 p0 p1 p2 p3 p4 p5 p6 p7 p8) (fun p1 => k Ex.ret (X_31_1_0 p1)) (fun p0 p2 p3 => k Ex.ret (X_31_1_1 p0 p2 p3)) (fun p0 p2 p3 => k Ex.ret (X_31_1_2 p0 p2 p3))
noncomputable def o_31_1 {R : Type} (G : (Int) → (Int) → (Zt31_0) → (Zt31_2) → (Int × Unit) → (Zt31_8) → (List Int) → (List Int) → (Zt31_2) → (Ex → St → Option R) → Option R) : St → (Ex → St → Option R) → Option R := fun T k => match T.sl.getD 1 .junk, T.sl.getD 3 .junk, T.sl.getD 5 .junk, T.sl.getD 6 .junk, T.sl.getD 7 .junk, T.sl.getD 9 .junk, T.hp with
  | CV.int IntKind.i64 p0, CV.ptr (0 : Nat) [], CV.ptr (1 : Nat) [], CV.ptr (2 : Nat) [], CV.ptr (5 : Nat) [], CV.int IntKind.i64 p1, ((Blk.mem (CV.pure (Ty.pair (Ty.pair (Ty.slice (Ty.int IntKind.u32)) (Ty.pair (Ty.slice (Ty.int IntKind.i64)) (Ty.pair (Ty.int IntKind.i64) Ty.unit))) (Ty.pair (Ty.arr (32 : Nat) (Ty.int IntKind.u8)) Ty.unit)) p2)) :: (Blk.mem (CV.pure (Ty.pair (Ty.int IntKind.i64) (Ty.pair (Ty.int IntKind.u32) Ty.unit)) p3)) :: (Blk.mem (CV.pair (CV.pair (CV.whole (3 : Nat)) (CV.pair (CV.whole (4 : Nat)) (CV.pure (Ty.pair (Ty.int IntKind.i64) Ty.unit) p4))) (CV.pure (Ty.pair (Ty.arr (32 : Nat) (Ty.int IntKind.u8)) Ty.unit) p5))) :: (Blk.vec (42 : Nat) (Ty.int IntKind.u32) p6) :: (Blk.vec (3 : Nat) (Ty.int IntKind.i64) p7) :: (Blk.mem (CV.pure (Ty.pair (Ty.int IntKind.i64) (Ty.pair (Ty.int IntKind.u32) Ty.unit)) p8)) :: []) => gd (shapeOK T 86 [1, 3, 5, 6, 7, 9] (0 : Nat)) (G p0 p1 p2 p3 p4 p5 p6 p7 p8 k)
  | _, _, _, _, _, _, _ => none
theorem o_31_1_inv {R : Type} {G : (Int) → (Int) → (Zt31_0) → (Zt31_2) → (Int × Unit) → (Zt31_8) → (List Int) → (List Int) → (Zt31_2) → (Ex → St → Option R) → Option R} {T : St} {k : Ex → St → Option R} {r : R} (h : o_31_1 G T k = some r) : ∃ p0 p1 p2 p3 p4 p5 p6 p7 p8, T = T_31_1 p0 p1 p2 p3 p4 p5 p6 p7 p8 ∧ G p0 p1 p2 p3 p4 p5 p6 p7 p8 k = some r := by
  unfold o_31_1 at h
  split at h
  · obtain ⟨hs, h'⟩ := gd_some h
    refine ⟨_, _, _, _, _, _, _, _, _, (st_of (asg := [(1, _), (3, _), (5, _), (6, _), (7, _), (9, _)]) hs ⟨by assumption, by assumption, by assumption, by assumption, by assumption, by assumption, trivial⟩ (by assumption)).trans ?_, h'⟩
    kernel_rfl
  · cases h
noncomputable def T_31_0 (p0 : Int) (p1 : Int) (p2 : Zt31_0) (p3 : Zt31_2) (p4 : Int × Unit) (p5 : Zt31_8) (p6 : List Int) (p7 : List Int) (p8 : Zt31_2) : St := St.mk ([jk, CV.int IntKind.i64 p0, jk, CV.ptr (0 : Nat) [], jk, CV.ptr (1 : Nat) [], CV.ptr (2 : Nat) [], CV.ptr (5 : Nat) [], jk, CV.int IntKind.i64 p1] ++ (jl 76)) [Blk.mem (CV.pure Zy31_3 p2), Blk.mem (CV.pure Zy31_4 p3), Blk.mem (CV.pair (CV.pair (CV.whole (3 : Nat)) (CV.pair (CV.whole (4 : Nat)) (CV.pure Zy31_7 p4))) (CV.pure Zy31_6 p5)), Blk.vec (42 : Nat) (Ty.int IntKind.u32) p6, Blk.vec (3 : Nat) (Ty.int IntKind.i64) p7, Blk.mem (CV.pure Zy31_4 p8)] (0 : Nat)
noncomputable def X_31_0_0 (y21 : Int) : St := St.mk (jl 6 ++ ([CV.ptr (0 : Nat) [], CV.ptr (3 : Nat) [], CV.int IntKind.i64 y21] ++ (jl 77))) [Blk.mem (CV.pair (CV.pair (CV.whole (1 : Nat)) (CV.pair (CV.whole (2 : Nat)) (CV.pure Zy31_7 (((0 : Int), PUnit.unit) : (Int × Unit))))) (CV.pure Zy31_6 ((List.replicate (32 : Nat) (0 : Int), PUnit.unit) : ((List Int) × Unit)))), Blk.vec (42 : Nat) (Ty.int IntKind.u32) [], Blk.vec (3 : Nat) (Ty.int IntKind.i64) [], Blk.mem (CV.pure Zy31_4 (((0 : Int), (0 : Int), PUnit.unit) : (Zt31_10)))] (0 : Nat)
noncomputable def X_31_0_1 (y22 : Int) (y23 : Zt31_0) (y24 : Zt31_2) : St := St.mk (jl 6 ++ ([CV.ptr (0 : Nat) [], CV.ptr (3 : Nat) [], CV.int IntKind.i64 ((Sp.v_63 (y23.1) (IntKind.wrap IntKind.i64 (IntKind.wrap IntKind.i64 (Int.tdiv (IntKind.wrap IntKind.i64 (y22 * (↑(List.length (y23.1.1)) : Int))) (2 : Int)) + (0 : Int))) (0 : Int) y24).2.2.1)] ++ (jl 77))) [Blk.mem (CV.pair (CV.pair (CV.whole (1 : Nat)) (CV.pair (CV.whole (2 : Nat)) (CV.pure Zy31_7 (((0 : Int), PUnit.unit) : (Int × Unit))))) (CV.pure Zy31_6 ((List.replicate (32 : Nat) (0 : Int), PUnit.unit) : ((List Int) × Unit)))), Blk.vec (42 : Nat) (Ty.int IntKind.u32) [], Blk.vec (3 : Nat) (Ty.int IntKind.i64) [], Blk.mem (CV.pure Zy31_4 (((0 : Int), (0 : Int), PUnit.unit) : (Zt31_10)))] (0 : Nat)
noncomputable def X_31_0_2 (y25 : Int) (y26 : Zt31_0) (y27 : Zt31_2) : St := St.mk (jl 6 ++ ([CV.ptr (0 : Nat) [], CV.ptr (1 : Nat) [], CV.int IntKind.i64 ((Sp.v_63 (y26.1) (IntKind.wrap IntKind.i64 (IntKind.wrap IntKind.i64 (Int.tdiv (IntKind.wrap IntKind.i64 (y25 * (↑(List.length (y26.1.1)) : Int))) (2 : Int)) + (0 : Int))) (0 : Int) y27).2.2.1)] ++ (jl 77))) [Blk.mem (CV.pure Zy31_3 (((Sp.v_63 (y26.1) (IntKind.wrap IntKind.i64 (IntKind.wrap IntKind.i64 (Int.tdiv (IntKind.wrap IntKind.i64 (y25 * (↑(List.length (y26.1.1)) : Int))) (2 : Int)) + (0 : Int))) (0 : Int) y27).1, y26.2.1, PUnit.unit) : (Zt31_9))), Blk.mem (CV.pure Zy31_4 (((Sp.v_63 (y26.1) (IntKind.wrap IntKind.i64 (IntKind.wrap IntKind.i64 (Int.tdiv (IntKind.wrap IntKind.i64 (y25 * (↑(List.length (y26.1.1)) : Int))) (2 : Int)) + (0 : Int))) (0 : Int) y27).2.1) : (Zt31_10)))] (0 : Nat)
inductive Sp.E_31_0 where
  | e0 (y21 : Int)
  | e1 (y22 : Int) (y23 : Zt31_0) (y24 : Zt31_2)
  | e2 (y25 : Int) (y26 : Zt31_0) (y27 : Zt31_2)
noncomputable def Sp.B_31_0 {R : Type} (r : Option Sp.E_31_0) (k0 : (Int) → Option R) (k1 : (Int) → (Zt31_0) → (Zt31_2) → Option R) (k2 : (Int) → (Zt31_0) → (Zt31_2) → Option R) : Option R := match r with
  | none => none
  | some (.e0 y21) => k0 y21
  | some (.e1 y22 y23 y24) => k1 y22 y23 y24
  | some (.e2 y25 y26 y27) => k2 y25 y26 y27
noncomputable def Sp.J_31_0 (p0 : Int) (p1 : Int) (p2 : (List Int × List Int × Int × Unit) × List Int × Unit) (p3 : Int × Int × Unit) (p4 : Int × Unit) (p5 : List Int × Unit) (p6 : List Int) (p7 : List Int) (p8 : Int × Int × Unit) : Option Sp.E_31_0 :=
  gd (Sp.p_14 p2 p0) (bif p1 == (0 : Int) then gd (Sp.p_20 p2) (bif decide ((Sp.v_14 p2 p0).1.1 < (Sp.v_20 p2).1) then Sp.B_31_1 (Sp.J_31_1 p0 (20 : Int) p2 p3 p4 p5 p6 p7 p8) (fun y21 => some (Sp.E_31_0.e0 y21)) (fun y22 y23 y24 => some (Sp.E_31_0.e1 y22 y23 y24)) fun y25 y26 y27 => some (Sp.E_31_0.e2 y25 y26 y27) else Sp.B_31_1 (Sp.J_31_1 p0 p1 p2 p3 p4 p5 p6 p7 p8) (fun y28 => some (Sp.E_31_0.e0 y28)) (fun y29 y30 y31 => some (Sp.E_31_0.e1 y29 y30 y31)) fun y32 y33 y34 => some (Sp.E_31_0.e2 y32 y33 y34)) else Sp.B_31_1 (Sp.J_31_1 p0 p1 p2 p3 p4 p5 p6 p7 p8) (fun y35 => some (Sp.E_31_0.e0 y35)) (fun y36 y37 y38 => some (Sp.E_31_0.e1 y36 y37 y38)) fun y39 y40 y41 => some (Sp.E_31_0.e2 y39 y40 y41))
noncomputable def G_31_0 {R : Type} (p0 : Int) (p1 : Int) (p2 : Zt31_0) (p3 : Zt31_2) (p4 : Int × Unit) (p5 : Zt31_8) (p6 : List Int) (p7 : List Int) (p8 : Zt31_2) (k : Ex → St → Option R) : Option R := Sp.B_31_0 (Sp.J_31_0 p0 p1 p2 p3 p4 p5 p6 p7 p8) (fun y21 => k Ex.ret (X_31_0_0 y21)) (fun y22 y23 y24 => k Ex.ret (X_31_0_1 y22 y23 y24)) (fun y25 y26 y27 => k Ex.ret (X_31_0_2 y25 y26 y27))
noncomputable def o_31_0 {R : Type} (G : (Int) → (Int) → (Zt31_0) → (Zt31_2) → (Int × Unit) → (Zt31_8) → (List Int) → (List Int) → (Zt31_2) → (Ex → St → Option R) → Option R) : St → (Ex → St → Option R) → Option R := fun T k => match T.sl.getD 1 .junk, T.sl.getD 3 .junk, T.sl.getD 5 .junk, T.sl.getD 6 .junk, T.sl.getD 7 .junk, T.sl.getD 9 .junk, T.hp with
  | CV.int IntKind.i64 p0, CV.ptr (0 : Nat) [], CV.ptr (1 : Nat) [], CV.ptr (2 : Nat) [], CV.ptr (5 : Nat) [], CV.int IntKind.i64 p1, ((Blk.mem (CV.pure (Ty.pair (Ty.pair (Ty.slice (Ty.int IntKind.u32)) (Ty.pair (Ty.slice (Ty.int IntKind.i64)) (Ty.pair (Ty.int IntKind.i64) Ty.unit))) (Ty.pair (Ty.arr (32 : Nat) (Ty.int IntKind.u8)) Ty.unit)) p2)) :: (Blk.mem (CV.pure (Ty.pair (Ty.int IntKind.i64) (Ty.pair (Ty.int IntKind.u32) Ty.unit)) p3)) :: (Blk.mem (CV.pair (CV.pair (CV.whole (3 : Nat)) (CV.pair (CV.whole (4 : Nat)) (CV.pure (Ty.pair (Ty.int IntKind.i64) Ty.unit) p4))) (CV.pure (Ty.pair (Ty.arr (32 : Nat) (Ty.int IntKind.u8)) Ty.unit) p5))) :: (Blk.vec (42 : Nat) (Ty.int IntKind.u32) p6) :: (Blk.vec (3 : Nat) (Ty.int IntKind.i64) p7) :: (Blk.mem (CV.pure (Ty.pair (Ty.int IntKind.i64) (Ty.pair (Ty.int IntKind.u32) Ty.unit)) p8)) :: []) => gd (shapeOK T 86 [1, 3, 5, 6, 7, 9] (0 : Nat)) (G p0 p1 p2 p3 p4 p5 p6 p7 p8 k)
  | _, _, _, _, _, _, _ => none
theorem o_31_0_inv {R : Type} {G : (Int) → (Int) → (Zt31_0) → (Zt31_2) → (Int × Unit) → (Zt31_8) → (List Int) → (List Int) → (Zt31_2) → (Ex → St → Option R) → Option R} {T : St} {k : Ex → St → Option R} {r : R} (h : o_31_0 G T k = some r) : ∃ p0 p1 p2 p3 p4 p5 p6 p7 p8, T = T_31_0 p0 p1 p2 p3 p4 p5 p6 p7 p8 ∧ G p0 p1 p2 p3 p4 p5 p6 p7 p8 k = some r := by
  unfold o_31_0 at h
  split at h
  · obtain ⟨hs, h'⟩ := gd_some h
    refine ⟨_, _, _, _, _, _, _, _, _, (st_of (asg := [(1, _), (3, _), (5, _), (6, _), (7, _), (9, _)]) hs ⟨by assumption, by assumption, by assumption, by assumption, by assumption, by assumption, trivial⟩ (by assumption)).trans ?_, h'⟩
    kernel_rfl
  · cases h
noncomputable def O_31_31_1 {R : Type} : St → (Ex → St → Option R) → Option R := fun T k => o_31_1 G_31_1 T k
noncomputable def O_31_31_0 {R : Type} : St → (Ex → St → Option R) → Option R := fun T k => o_31_0 G_31_0 T k
theorem body_31_1 {R : Type} (K1 : Ex → St → Option R) (p0 : Int) (p1 : Int) (p2 : Zt31_0) (p3 : Zt31_2) (p4 : Int × Unit) (p5 : Zt31_8) (p6 : List Int) (p7 : List Int) (p8 : Zt31_2) : evJ (evCodeL sm_31 FU (ovr noO (evFn sm_31 fns FU 0)) .nil ir31_b1) (T_31_1 p0 p1 p2 p3 p4 p5 p6 p7 p8) K1 =
  bif p1 != (0 : Int) then K1 Ex.ret (X_31_1_0 p1) else gd (Sp.p_63 (p2.1) (IntKind.wrap IntKind.i64 (IntKind.wrap IntKind.i64 (Int.tdiv (IntKind.wrap IntKind.i64 (p0 * (↑(List.length (p2.1.1)) : Int))) (2 : Int)) + (0 : Int))) (0 : Int) p3) (bif (Sp.v_63 (p2.1) (IntKind.wrap IntKind.i64 (IntKind.wrap IntKind.i64 (Int.tdiv (IntKind.wrap IntKind.i64 (p0 * (↑(List.length (p2.1.1)) : Int))) (2 : Int)) + (0 : Int))) (0 : Int) p3).2.2.1 != (0 : Int) then bif (Sp.v_63 (p2.1) (IntKind.wrap IntKind.i64 (IntKind.wrap IntKind.i64 (Int.tdiv (IntKind.wrap IntKind.i64 (p0 * (↑(List.length (p2.1.1)) : Int))) (2 : Int)) + (0 : Int))) (0 : Int) p3).2.2.1 != (18 : Int) then K1 Ex.ret (X_31_1_1 p0 p2 p3) else K1 Ex.ret (X_31_1_2 p0 p2 p3) else K1 Ex.ret (X_31_1_2 p0 p2 p3)) := by kernel_rfl
theorem Bgd_31_1 {R : Type} {c : Bool} {x : Option R} {y : Option Sp.E_31_1} {k0 : (Int) → Option R} {k1 : (Int) → (Zt31_0) → (Zt31_2) → Option R} {k2 : (Int) → (Zt31_0) → (Zt31_2) → Option R} (h : x = Sp.B_31_1 y k0 k1 k2) : gd c x = Sp.B_31_1 (gd c y) k0 k1 k2 := by cases c; rfl; exact h
theorem Bcond_31_1 {R : Type} {c : Bool} {x x' : Option R} {y y' : Option Sp.E_31_1} {k0 : (Int) → Option R} {k1 : (Int) → (Zt31_0) → (Zt31_2) → Option R} {k2 : (Int) → (Zt31_0) → (Zt31_2) → Option R} (h : x = Sp.B_31_1 y k0 k1 k2) (h' : x' = Sp.B_31_1 y' k0 k1 k2) : (bif c then x else x') = Sp.B_31_1 (bif c then y else y') k0 k1 k2 := by cases c; exact h'; exact h
theorem loop_31_1 {R : Type} (k : Ex → St → Option R) (p0 : Int) (p1 : Int) (p2 : Zt31_0) (p3 : Zt31_2) (p4 : Int × Unit) (p5 : Zt31_8) (p6 : List Int) (p7 : List Int) (p8 : Zt31_2) : evJ (evCodeL sm_31 FU (ovr noO (evFn sm_31 fns FU 0)) .nil ir31_b1) (T_31_1 p0 p1 p2 p3 p4 p5 p6 p7 p8) k = Sp.B_31_1 (Sp.J_31_1 p0 p1 p2 p3 p4 p5 p6 p7 p8) (fun p1 => k Ex.ret (X_31_1_0 p1)) (fun p0 p2 p3 => k Ex.ret (X_31_1_1 p0 p2 p3)) (fun p0 p2 p3 => k Ex.ret (X_31_1_2 p0 p2 p3)) := by
  rw [body_31_1, Sp.J_31_1]
  repeat' first | apply Bgd_31_1 | apply Bcond_31_1 | rfl
theorem ok_31_1 {R : Type} (T : St) (k : Ex → St → Option R) (r : R) (h0 : o_31_1 G_31_1 T k = some r) : evCode sm_31 FU (evFn sm_31 fns FU 0) ir31_b1 T k = some r := by
  obtain ⟨p0, p1, p2, p3, p4, p5, p6, p7, p8, rfl, h⟩ := o_31_1_inv h0
  refine bodyL_sound (t := .nil) noO_ok trivial (((show ∀ (b : St → (Ex → St → Option R) → Option R) (T : St) (k : Ex → St → Option R), b T k = evJ b T k from fun _ _ _ => rfl) _ _ _).trans ((loop_31_1 k p0 p1 p2 p3 p4 p5 p6 p7 p8).trans h))
theorem OK_31_31_1 {R : Type} (T : St) (k : Ex → St → Option R) (r : R) (h : O_31_31_1 T k = some r) : evCode sm_31 FU (evFn sm_31 fns FU 0) ir31_b1 T k = some r := ok_31_1 T k r h
theorem body_31_0 {R : Type} (K1 : Ex → St → Option R) (p0 : Int) (p1 : Int) (p2 : Zt31_0) (p3 : Zt31_2) (p4 : Int × Unit) (p5 : Zt31_8) (p6 : List Int) (p7 : List Int) (p8 : Zt31_2) : evJ (evCodeL sm_31 FU (ovr noO (evFn sm_31 fns FU 0)) (ir31_bt0 O_31_31_1) ir31_b0) (T_31_0 p0 p1 p2 p3 p4 p5 p6 p7 p8) K1 =
  gd (Sp.p_14 p2 p0) (bif p1 == (0 : Int) then gd (Sp.p_20 p2) (bif decide ((Sp.v_14 p2 p0).1.1 < (Sp.v_20 p2).1) then Sp.B_31_1 (Sp.J_31_1 p0 (20 : Int) p2 p3 p4 p5 p6 p7 p8) (fun y21 => K1 Ex.ret (X_31_0_0 y21)) (fun y22 y23 y24 => K1 Ex.ret (X_31_0_1 y22 y23 y24)) fun y25 y26 y27 => K1 Ex.ret (X_31_0_2 y25 y26 y27) else Sp.B_31_1 (Sp.J_31_1 p0 p1 p2 p3 p4 p5 p6 p7 p8) (fun y28 => K1 Ex.ret (X_31_0_0 y28)) (fun y29 y30 y31 => K1 Ex.ret (X_31_0_1 y29 y30 y31)) fun y32 y33 y34 => K1 Ex.ret (X_31_0_2 y32 y33 y34)) else Sp.B_31_1 (Sp.J_31_1 p0 p1 p2 p3 p4 p5 p6 p7 p8) (fun y35 => K1 Ex.ret (X_31_0_0 y35)) (fun y36 y37 y38 => K1 Ex.ret (X_31_0_1 y36 y37 y38)) fun y39 y40 y41 => K1 Ex.ret (X_31_0_2 y39 y40 y41)) := by kernel_rfl
theorem Bgd_31_0 {R : Type} {c : Bool} {x : Option R} {y : Option Sp.E_31_0} {k0 : (Int) → Option R} {k1 : (Int) → (Zt31_0) → (Zt31_2) → Option R} {k2 : (Int) → (Zt31_0) → (Zt31_2) → Option R} (h : x = Sp.B_31_0 y k0 k1 k2) : gd c x = Sp.B_31_0 (gd c y) k0 k1 k2 := by cases c; rfl; exact h
theorem Bcond_31_0 {R : Type} {c : Bool} {x x' : Option R} {y y' : Option Sp.E_31_0} {k0 : (Int) → Option R} {k1 : (Int) → (Zt31_0) → (Zt31_2) → Option R} {k2 : (Int) → (Zt31_0) → (Zt31_2) → Option R} (h : x = Sp.B_31_0 y k0 k1 k2) (h' : x' = Sp.B_31_0 y' k0 k1 k2) : (bif c then x else x') = Sp.B_31_0 (bif c then y else y') k0 k1 k2 := by cases c; exact h'; exact h
theorem Bin_31_0_31_1 {R : Type} {r : Option Sp.E_31_1} {k0 : (Int) → Option R} {k1 : (Int) → (Zt31_0) → (Zt31_2) → Option R} {k2 : (Int) → (Zt31_0) → (Zt31_2) → Option R} {f0 : (Int) → Option R} {f1 : (Int) → (Zt31_0) → (Zt31_2) → Option R} {f2 : (Int) → (Zt31_0) → (Zt31_2) → Option R} {g0 : (Int) → Option Sp.E_31_0} {g1 : (Int) → (Zt31_0) → (Zt31_2) → Option Sp.E_31_0} {g2 : (Int) → (Zt31_0) → (Zt31_2) → Option Sp.E_31_0} (h0 : ∀ z0, f0 z0 = Sp.B_31_0 (g0 z0) k0 k1 k2) (h1 : ∀ z0 z1 z2, f1 z0 z1 z2 = Sp.B_31_0 (g1 z0 z1 z2) k0 k1 k2) (h2 : ∀ z0 z1 z2, f2 z0 z1 z2 = Sp.B_31_0 (g2 z0 z1 z2) k0 k1 k2) : Sp.B_31_1 r f0 f1 f2 = Sp.B_31_0 (Sp.B_31_1 r g0 g1 g2) k0 k1 k2 := by
  cases r with
  | none => rfl
  | some e => cases e with
    | e0 z0 => exact h0 _
    | e1 z0 z1 z2 => exact h1 _ _ _
    | e2 z0 z1 z2 => exact h2 _ _ _
theorem loop_31_0 {R : Type} (k : Ex → St → Option R) (p0 : Int) (p1 : Int) (p2 : Zt31_0) (p3 : Zt31_2) (p4 : Int × Unit) (p5 : Zt31_8) (p6 : List Int) (p7 : List Int) (p8 : Zt31_2) : evJ (evCodeL sm_31 FU (ovr noO (evFn sm_31 fns FU 0)) (ir31_bt0 O_31_31_1) ir31_b0) (T_31_0 p0 p1 p2 p3 p4 p5 p6 p7 p8) k = Sp.B_31_0 (Sp.J_31_0 p0 p1 p2 p3 p4 p5 p6 p7 p8) (fun y21 => k Ex.ret (X_31_0_0 y21)) (fun y22 y23 y24 => k Ex.ret (X_31_0_1 y22 y23 y24)) (fun y25 y26 y27 => k Ex.ret (X_31_0_2 y25 y26 y27)) := by
  rw [body_31_0, Sp.J_31_0]
  repeat' first | apply Bgd_31_0 | apply Bcond_31_0 | (apply Bin_31_0_31_1 <;> intros) | rfl
theorem ok_31_0 {R : Type} (T : St) (k : Ex → St → Option R) (r : R) (h0 : o_31_0 G_31_0 T k = some r) : evCode sm_31 FU (evFn sm_31 fns FU 0) ir31_b0 T k = some r := by
  obtain ⟨p0, p1, p2, p3, p4, p5, p6, p7, p8, rfl, h⟩ := o_31_0_inv h0
  refine bodyL_sound (t := (ir31_bt0 O_31_31_1)) noO_ok (ir31_bt0ok (fun T k r => OK_31_31_1 T k r)) (((show ∀ (b : St → (Ex → St → Option R) → Option R) (T : St) (k : Ex → St → Option R), b T k = evJ b T k from fun _ _ _ => rfl) _ _ _).trans ((loop_31_0 k p0 p1 p2 p3 p4 p5 p6 p7 p8).trans h))
theorem OK_31_31_0 {R : Type} (T : St) (k : Ex → St → Option R) (r : R) (h : O_31_31_0 T k = some r) : evCode sm_31 FU (evFn sm_31 fns FU 0) ir31_b0 T k = some r := ok_31_0 T k r h
noncomputable def F_31 (a0 : (((List Int) × ((List Int) × (Int × Unit))) × ((List Int) × Unit))) (a1 : Int) (a2 : (Int × (Int × Unit))) : Option ((((List Int) × ((List Int) × (Int × Unit))) × ((List Int) × Unit)) × (Int × (Int × Unit)) × Int × Unit) :=
  bif decide (a2.1 < (0 : Int)) then some ((([], [], (0 : Int), PUnit.unit), List.replicate (32 : Nat) (0 : Int), PUnit.unit), ((0 : Int), (0 : Int), PUnit.unit), (1 : Int), PUnit.unit) else gd Sp.p_34 (bif decide (a2.1 > Sp.v_34.1.1) then some ((([], [], (0 : Int), PUnit.unit), List.replicate (32 : Nat) (0 : Int), PUnit.unit), ((0 : Int), (0 : Int), PUnit.unit), (1 : Int), PUnit.unit) else gd (Sp.p_60 a0 a1) (bif (Sp.v_60 a0 a1).1 == (0 : Int) then gd (Sp.p_51 a0 a1) (bif (Sp.v_51 a0 a1).1 then Sp.B_31_0 (Sp.J_31_0 a1 (6 : Int) a0 a2 ((0 : Int), PUnit.unit) (List.replicate (32 : Nat) (0 : Int), PUnit.unit) [] [] ((0 : Int), (0 : Int), PUnit.unit)) (fun y25 => some ((([], [], (0 : Int), PUnit.unit), List.replicate (32 : Nat) (0 : Int), PUnit.unit), ((0 : Int), (0 : Int), PUnit.unit), y25, PUnit.unit)) (fun y26 y27 y28 => some ((([], [], (0 : Int), PUnit.unit), List.replicate (32 : Nat) (0 : Int), PUnit.unit), ((0 : Int), (0 : Int), PUnit.unit), (Sp.v_63 (y27.1) (IntKind.wrap IntKind.i64 (IntKind.wrap IntKind.i64 (Int.tdiv (IntKind.wrap IntKind.i64 (y26 * (↑(List.length (y27.1.1)) : Int))) (2 : Int)) + (0 : Int))) (0 : Int) y28).2.2.1, PUnit.unit)) fun y29 y30 y31 => some (((Sp.v_63 (y30.1) (IntKind.wrap IntKind.i64 (IntKind.wrap IntKind.i64 (Int.tdiv (IntKind.wrap IntKind.i64 (y29 * (↑(List.length (y30.1.1)) : Int))) (2 : Int)) + (0 : Int))) (0 : Int) y31).1, y30.2.1, PUnit.unit), (Sp.v_63 (y30.1) (IntKind.wrap IntKind.i64 (IntKind.wrap IntKind.i64 (Int.tdiv (IntKind.wrap IntKind.i64 (y29 * (↑(List.length (y30.1.1)) : Int))) (2 : Int)) + (0 : Int))) (0 : Int) y31).2.1, (Sp.v_63 (y30.1) (IntKind.wrap IntKind.i64 (IntKind.wrap IntKind.i64 (Int.tdiv (IntKind.wrap IntKind.i64 (y29 * (↑(List.length (y30.1.1)) : Int))) (2 : Int)) + (0 : Int))) (0 : Int) y31).2.2.1, PUnit.unit) else Sp.B_31_0 (Sp.J_31_0 a1 ((Sp.v_60 a0 a1).1) a0 a2 ((0 : Int), PUnit.unit) (List.replicate (32 : Nat) (0 : Int), PUnit.unit) [] [] ((0 : Int), (0 : Int), PUnit.unit)) (fun y32 => some ((([], [], (0 : Int), PUnit.unit), List.replicate (32 : Nat) (0 : Int), PUnit.unit), ((0 : Int), (0 : Int), PUnit.unit), y32, PUnit.unit)) (fun y33 y34 y35 => some ((([], [], (0 : Int), PUnit.unit), List.replicate (32 : Nat) (0 : Int), PUnit.unit), ((0 : Int), (0 : Int), PUnit.unit), (Sp.v_63 (y34.1) (IntKind.wrap IntKind.i64 (IntKind.wrap IntKind.i64 (Int.tdiv (IntKind.wrap IntKind.i64 (y33 * (↑(List.length (y34.1.1)) : Int))) (2 : Int)) + (0 : Int))) (0 : Int) y35).2.2.1, PUnit.unit)) fun y36 y37 y38 => some (((Sp.v_63 (y37.1) (IntKind.wrap IntKind.i64 (IntKind.wrap IntKind.i64 (Int.tdiv (IntKind.wrap IntKind.i64 (y36 * (↑(List.length (y37.1.1)) : Int))) (2 : Int)) + (0 : Int))) (0 : Int) y38).1, y37.2.1, PUnit.unit), (Sp.v_63 (y37.1) (IntKind.wrap IntKind.i64 (IntKind.wrap IntKind.i64 (Int.tdiv (IntKind.wrap IntKind.i64 (y36 * (↑(List.length (y37.1.1)) : Int))) (2 : Int)) + (0 : Int))) (0 : Int) y38).2.1, (Sp.v_63 (y37.1) (IntKind.wrap IntKind.i64 (IntKind.wrap IntKind.i64 (Int.tdiv (IntKind.wrap IntKind.i64 (y36 * (↑(List.length (y37.1.1)) : Int))) (2 : Int)) + (0 : Int))) (0 : Int) y38).2.2.1, PUnit.unit)) else Sp.B_31_0 (Sp.J_31_0 a1 ((Sp.v_60 a0 a1).1) a0 a2 ((0 : Int), PUnit.unit) (List.replicate (32 : Nat) (0 : Int), PUnit.unit) [] [] ((0 : Int), (0 : Int), PUnit.unit)) (fun y39 => some ((([], [], (0 : Int), PUnit.unit), List.replicate (32 : Nat) (0 : Int), PUnit.unit), ((0 : Int), (0 : Int), PUnit.unit), y39, PUnit.unit)) (fun y40 y41 y42 => some ((([], [], (0 : Int), PUnit.unit), List.replicate (32 : Nat) (0 : Int), PUnit.unit), ((0 : Int), (0 : Int), PUnit.unit), (Sp.v_63 (y41.1) (IntKind.wrap IntKind.i64 (IntKind.wrap IntKind.i64 (Int.tdiv (IntKind.wrap IntKind.i64 (y40 * (↑(List.length (y41.1.1)) : Int))) (2 : Int)) + (0 : Int))) (0 : Int) y42).2.2.1, PUnit.unit)) fun y43 y44 y45 => some (((Sp.v_63 (y44.1) (IntKind.wrap IntKind.i64 (IntKind.wrap IntKind.i64 (Int.tdiv (IntKind.wrap IntKind.i64 (y43 * (↑(List.length (y44.1.1)) : Int))) (2 : Int)) + (0 : Int))) (0 : Int) y45).1, y44.2.1, PUnit.unit), (Sp.v_63 (y44.1) (IntKind.wrap IntKind.i64 (IntKind.wrap IntKind.i64 (Int.tdiv (IntKind.wrap IntKind.i64 (y43 * (↑(List.length (y44.1.1)) : Int))) (2 : Int)) + (0 : Int))) (0 : Int) y45).2.1, (Sp.v_63 (y44.1) (IntKind.wrap IntKind.i64 (IntKind.wrap IntKind.i64 (Int.tdiv (IntKind.wrap IntKind.i64 (y43 * (↑(List.length (y44.1.1)) : Int))) (2 : Int)) + (0 : Int))) (0 : Int) y45).2.2.1, PUnit.unit)))
theorem fn_31 (a0 : (((List Int) × ((List Int) × (Int × Unit))) × ((List Int) × Unit))) (a1 : Int) (a2 : (Int × (Int × Unit))) : evFnL sm_31 FU (ovr noO (evFn sm_31 fns FU 0)) (ir31_t O_31_31_0) ir31 (ofH [Zy31_1, (.int .i64), Zy31_5] (a0, a1, a2, ())) [] (pureK [Zy31_1, Zy31_5, (.int .i64)]) = F_31 a0 a1 a2 := by kernel_rfl
noncomputable def Sp.p_31 (a0 : (((List Int) × ((List Int) × (Int × Unit))) × ((List Int) × Unit))) (a1 : Int) (a2 : (Int × (Int × Unit))) : Bool := (F_31 a0 a1 a2).isSome
noncomputable def Sp.v_31 (a0 : (((List Int) × ((List Int) × (Int × Unit))) × ((List Int) × Unit))) (a1 : Int) (a2 : (Int × (Int × Unit))) : (((List Int) × ((List Int) × (Int × Unit))) × ((List Int) × Unit)) × (Int × (Int × Unit)) × Int × Unit := (F_31 a0 a1 a2).getD (dfH [Zy31_1, Zy31_5, (.int .i64)])
noncomputable def s_31 : Summ := shS [Zy31_1, (.int .i64), Zy31_5] [Zy31_1, Zy31_5, (.int .i64)] (fun x => Sp.p_31 x.1 x.2.1 x.2.2.1) (fun x => Sp.v_31 x.1 x.2.1 x.2.2.1)
theorem pv_31 (a0 : (((List Int) × ((List Int) × (Int × Unit))) × ((List Int) × Unit))) (a1 : Int) (a2 : (Int × (Int × Unit))) {y : (((List Int) × ((List Int) × (Int × Unit))) × ((List Int) × Unit)) × (Int × (Int × Unit)) × Int × Unit} (h : F_31 a0 a1 a2 = some y) : Sp.p_31 a0 a1 a2 = true ∧ Sp.v_31 a0 a1 a2 = y := ⟨by rw [Sp.p_31, h]; rfl, by rw [Sp.v_31, h]; rfl⟩
theorem run_31 (x : HDen [Zy31_1, (.int .i64), Zy31_5]) (y : HDen [Zy31_1, Zy31_5, (.int .i64)]) (h : F_31 x.1 x.2.1 x.2.2.1 = some y) : evFn sm_31 fns FU 1 31 (ofH [Zy31_1, (.int .i64), Zy31_5] x) [] (pureK [Zy31_1, Zy31_5, (.int .i64)]) = some y :=
  evFnL_sound (fn := ir31) (t := (ir31_t O_31_31_0)) (o := noO) rfl noO_ok (ir31_tok (fun T k r => OK_31_31_0 T k r)) ((fn_31 _ _ _).trans h)
end
end Go.Ev
namespace Go.Ev
open Go
set_option maxRecDepth 100000
set_option maxHeartbeats 4000000
set_option linter.unusedVariables false
noncomputable section
abbrev Zt24_0 : Type := List Int × List Int × Int × Unit
abbrev Zy24_1 : Ty := (Ty.pair (Ty.slice (Ty.int IntKind.u32)) (Ty.pair (Ty.slice (Ty.int IntKind.i64)) (Ty.pair (Ty.int IntKind.i64) Ty.unit)))
abbrev Zy24_2 : Ty := (.pair (.slice (.int .u32)) (.pair (.slice (.int .i64)) (.pair (.int .i64) .unit)))

noncomputable def sm_24 : Nat → Option Summ := fun f => none
noncomputable def T_24_0 (p0 : Int) (p1 : Zt24_0) (p2 : Zt24_0) : St := St.mk ([jk, jk, CV.ptr (0 : Nat) [], CV.ptr (1 : Nat) [], jk, CV.int IntKind.i64 p0] ++ (jl 60)) [Blk.mem (CV.pure Zy24_1 p1), Blk.mem (CV.pure Zy24_1 p2)] (0 : Nat)
noncomputable def X_24_0_0 : St := St.mk ([jk, jk, jk, jk, CV.bool false] ++ (jl 61)) [] (0 : Nat)
noncomputable def X_24_0_1 (p1 : Zt24_0) (p2 : Zt24_0) : St := St.mk ([jk, jk, CV.ptr (0 : Nat) [], CV.ptr (1 : Nat) []] ++ (jl 62)) [Blk.mem (CV.pure Zy24_1 p1), Blk.mem (CV.pure Zy24_1 p2)] (0 : Nat)
inductive Sp.E_24_0 where
  | e0
  | e1 (p1 : Zt24_0) (p2 : Zt24_0)
noncomputable def Sp.B_24_0 {R : Type} (r : Option Sp.E_24_0) (k0 : Option R) (k1 : (Zt24_0) → (Zt24_0) → Option R) : Option R := match r with
  | none => none
  | some (.e0) => k0
  | some (.e1 p1 p2) => k1 p1 p2
noncomputable def Sp.L_24_0 : Nat → (Int) → (List Int × List Int × Int × Unit) → (List Int × List Int × Int × Unit) → Option Sp.E_24_0
  | 0, _, _, _ => none
  | m + 1, p0, p1, p2 => bif decide (p0 < (↑(List.length (p1.1)) : Int)) then gd (inB p0 (List.length (p1.1))) (gd (inB p0 (List.length (p2.1))) (bif List.getD (p1.1) (Int.toNat p0) (0 : Int) != List.getD (p2.1) (Int.toNat p0) (0 : Int) then some (Sp.E_24_0.e0) else Sp.L_24_0 m (IntKind.wrap IntKind.i64 (p0 + (1 : Int))) p1 p2)) else some (Sp.E_24_0.e1 p1 p2)
noncomputable def G_24_0 {R : Type} (p0 : Int) (p1 : Zt24_0) (p2 : Zt24_0) (k : Ex → St → Option R) : Option R := Sp.B_24_0 (Sp.L_24_0 FU p0 p1 p2) (k Ex.ret (X_24_0_0)) (fun p1 p2 => k (Ex.exit (0 : Nat)) (X_24_0_1 p1 p2))
noncomputable def o_24_0 {R : Type} (G : (Int) → (Zt24_0) → (Zt24_0) → (Ex → St → Option R) → Option R) : St → (Ex → St → Option R) → Option R := fun T k => match T.sl.getD 2 .junk, T.sl.getD 3 .junk, T.sl.getD 5 .junk, T.hp with
  | CV.ptr (0 : Nat) [], CV.ptr (1 : Nat) [], CV.int IntKind.i64 p0, ((Blk.mem (CV.pure (Ty.pair (Ty.slice (Ty.int IntKind.u32)) (Ty.pair (Ty.slice (Ty.int IntKind.i64)) (Ty.pair (Ty.int IntKind.i64) Ty.unit))) p1)) :: (Blk.mem (CV.pure (Ty.pair (Ty.slice (Ty.int IntKind.u32)) (Ty.pair (Ty.slice (Ty.int IntKind.i64)) (Ty.pair (Ty.int IntKind.i64) Ty.unit))) p2)) :: []) => gd (shapeOK T 66 [2, 3, 5] (0 : Nat)) (G p0 p1 p2 k)
  | _, _, _, _ => none
theorem o_24_0_inv {R : Type} {G : (Int) → (Zt24_0) → (Zt24_0) → (Ex → St → Option R) → Option R} {T : St} {k : Ex → St → Option R} {r : R} (h : o_24_0 G T k = some r) : ∃ p0 p1 p2, T = T_24_0 p0 p1 p2 ∧ G p0 p1 p2 k = some r := by
  unfold o_24_0 at h
  split at h
  · obtain ⟨hs, h'⟩ := gd_some h
    refine ⟨_, _, _, (st_of (asg := [(2, _), (3, _), (5, _)]) hs ⟨by assumption, by assumption, by assumption, trivial⟩ (by assumption)).trans ?_, h'⟩
    kernel_rfl
  · cases h
noncomputable def T_24_1 (p0 : Int) (p1 : Zt24_0) (p2 : Zt24_0) : St := St.mk ([jk, jk, CV.ptr (0 : Nat) [], CV.ptr (1 : Nat) [], jk, jk, CV.int IntKind.i64 p0] ++ (jl 59)) [Blk.mem (CV.pure Zy24_1 p1), Blk.mem (CV.pure Zy24_1 p2)] (0 : Nat)
noncomputable def X_24_1_0 : St := St.mk ([jk, jk, jk, jk, CV.bool false] ++ (jl 61)) [] (0 : Nat)
noncomputable def X_24_1_1 : St := St.mk (jl 66) [] (0 : Nat)
inductive Sp.E_24_1 where
  | e0
  | e1
noncomputable def Sp.B_24_1 {R : Type} (r : Option Sp.E_24_1) (k0 : Option R) (k1 : Option R) : Option R := match r with
  | none => none
  | some (.e0) => k0
  | some (.e1) => k1
noncomputable def Sp.L_24_1 : Nat → (Int) → (List Int × List Int × Int × Unit) → (List Int × List Int × Int × Unit) → Option Sp.E_24_1
  | 0, _, _, _ => none
  | m + 1, p0, p1, p2 => bif decide (p0 < (↑(List.length (p1.2.1)) : Int)) then gd (inB p0 (List.length (p1.2.1))) (gd (inB p0 (List.length (p2.2.1))) (bif List.getD (p1.2.1) (Int.toNat p0) (0 : Int) != List.getD (p2.2.1) (Int.toNat p0) (0 : Int) then some (Sp.E_24_1.e0) else Sp.L_24_1 m (IntKind.wrap IntKind.i64 (p0 + (1 : Int))) p1 p2)) else some (Sp.E_24_1.e1)
noncomputable def G_24_1 {R : Type} (p0 : Int) (p1 : Zt24_0) (p2 : Zt24_0) (k : Ex → St → Option R) : Option R := Sp.B_24_1 (Sp.L_24_1 FU p0 p1 p2) (k Ex.ret (X_24_1_0)) (k (Ex.exit (2 : Nat)) (X_24_1_1))
noncomputable def o_24_1 {R : Type} (G : (Int) → (Zt24_0) → (Zt24_0) → (Ex → St → Option R) → Option R) : St → (Ex → St → Option R) → Option R := fun T k => match T.sl.getD 2 .junk, T.sl.getD 3 .junk, T.sl.getD 6 .junk, T.hp with
  | CV.ptr (0 : Nat) [], CV.ptr (1 : Nat) [], CV.int IntKind.i64 p0, ((Blk.mem (CV.pure (Ty.pair (Ty.slice (Ty.int IntKind.u32)) (Ty.pair (Ty.slice (Ty.int IntKind.i64)) (Ty.pair (Ty.int IntKind.i64) Ty.unit))) p1)) :: (Blk.mem (CV.pure (Ty.pair (Ty.slice (Ty.int IntKind.u32)) (Ty.pair (Ty.slice (Ty.int IntKind.i64)) (Ty.pair (Ty.int IntKind.i64) Ty.unit))) p2)) :: []) => gd (shapeOK T 66 [2, 3, 6] (0 : Nat)) (G p0 p1 p2 k)
  | _, _, _, _ => none
theorem o_24_1_inv {R : Type} {G : (Int) → (Zt24_0) → (Zt24_0) → (Ex → St → Option R) → Option R} {T : St} {k : Ex → St → Option R} {r : R} (h : o_24_1 G T k = some r) : ∃ p0 p1 p2, T = T_24_1 p0 p1 p2 ∧ G p0 p1 p2 k = some r := by
  unfold o_24_1 at h
  split at h
  · obtain ⟨hs, h'⟩ := gd_some h
    refine ⟨_, _, _, (st_of (asg := [(2, _), (3, _), (6, _)]) hs ⟨by assumption, by assumption, by assumption, trivial⟩ (by assumption)).trans ?_, h'⟩
    kernel_rfl
  · cases h
noncomputable def O_24_24_0 {R : Type} : St → (Ex → St → Option R) → Option R := fun T k => o_24_0 G_24_0 T k
noncomputable def O_24_24_1 {R : Type} : St → (Ex → St → Option R) → Option R := fun T k => o_24_1 G_24_1 T k
theorem body_24_0 {R : Type} (K0 : St → Option R) (K1 : Ex → St → Option R) (p0 : Int) (p1 : Zt24_0) (p2 : Zt24_0) : evLB (evCodeL sm_24 FU (ovr noO (evFn sm_24 fns FU 0)) .nil ir24_b0) (St.norm ir24_v0) (T_24_0 p0 p1 p2) K0 K1 =
  bif decide (p0 < (↑(List.length (p1.1)) : Int)) then gd (inB p0 (List.length (p1.1))) (gd (inB p0 (List.length (p2.1))) (bif List.getD (p1.1) (Int.toNat p0) (0 : Int) != List.getD (p2.1) (Int.toNat p0) (0 : Int) then K1 Ex.ret X_24_0_0 else K0 (T_24_0 (IntKind.wrap IntKind.i64 (p0 + (1 : Int))) p1 p2))) else K1 (Ex.exit (0 : Nat)) (X_24_0_1 p1 p2) := by kernel_rfl
theorem Bgd_24_0 {R : Type} {c : Bool} {x : Option R} {y : Option Sp.E_24_0} {k0 : Option R} {k1 : (Zt24_0) → (Zt24_0) → Option R} (h : x = Sp.B_24_0 y k0 k1) : gd c x = Sp.B_24_0 (gd c y) k0 k1 := by cases c; rfl; exact h
theorem Bcond_24_0 {R : Type} {c : Bool} {x x' : Option R} {y y' : Option Sp.E_24_0} {k0 : Option R} {k1 : (Zt24_0) → (Zt24_0) → Option R} (h : x = Sp.B_24_0 y k0 k1) (h' : x' = Sp.B_24_0 y' k0 k1) : (bif c then x else x') = Sp.B_24_0 (bif c then y else y') k0 k1 := by cases c; exact h'; exact h
theorem loop_24_0 {R : Type} (k : Ex → St → Option R) : ∀ (m : Nat) (p0 : Int) (p1 : Zt24_0) (p2 : Zt24_0), evLoopN (evCodeL sm_24 FU (ovr noO (evFn sm_24 fns FU 0)) .nil ir24_b0) (St.norm ir24_v0) m (T_24_0 p0 p1 p2) k = Sp.B_24_0 (Sp.L_24_0 m p0 p1 p2) (k Ex.ret (X_24_0_0)) (fun p1 p2 => k (Ex.exit (0 : Nat)) (X_24_0_1 p1 p2))
  | 0, _, _, _ => rfl
  | m + 1, p0, p1, p2 => by
    rw [evLoopN_succ, body_24_0, Sp.L_24_0]
    repeat' first | apply Bgd_24_0 | apply Bcond_24_0 | exact loop_24_0 k m _ _ _ | rfl
theorem ok_24_0 {R : Type} (T : St) (k : Ex → St → Option R) (r : R) (h0 : o_24_0 G_24_0 T k = some r) : evLoopN (evCode sm_24 FU (evFn sm_24 fns FU 0) ir24_b0) (St.norm ir24_v0) FU T k = some r := by
  obtain ⟨p0, p1, p2, rfl, h⟩ := o_24_0_inv h0
  refine evLoopN_L (t := .nil) noO_ok trivial _ _ _ _ ?_
  rw [loop_24_0]
  exact h
theorem OK_24_24_0 {R : Type} (T : St) (k : Ex → St → Option R) (r : R) (h : O_24_24_0 T k = some r) : evLoopN (evCode sm_24 FU (evFn sm_24 fns FU 0) ir24_b0) (St.norm ir24_v0) FU T k = some r := ok_24_0 T k r h
theorem body_24_1 {R : Type} (K0 : St → Option R) (K1 : Ex → St → Option R) (p0 : Int) (p1 : Zt24_0) (p2 : Zt24_0) : evLB (evCodeL sm_24 FU (ovr noO (evFn sm_24 fns FU 0)) .nil ir24_b1) (St.norm ir24_v1) (T_24_1 p0 p1 p2) K0 K1 =
  bif decide (p0 < (↑(List.length (p1.2.1)) : Int)) then gd (inB p0 (List.length (p1.2.1))) (gd (inB p0 (List.length (p2.2.1))) (bif List.getD (p1.2.1) (Int.toNat p0) (0 : Int) != List.getD (p2.2.1) (Int.toNat p0) (0 : Int) then K1 Ex.ret X_24_1_0 else K0 (T_24_1 (IntKind.wrap IntKind.i64 (p0 + (1 : Int))) p1 p2))) else K1 (Ex.exit (2 : Nat)) X_24_1_1 := by kernel_rfl
theorem Bgd_24_1 {R : Type} {c : Bool} {x : Option R} {y : Option Sp.E_24_1} {k0 : Option R} {k1 : Option R} (h : x = Sp.B_24_1 y k0 k1) : gd c x = Sp.B_24_1 (gd c y) k0 k1 := by cases c; rfl; exact h
theorem Bcond_24_1 {R : Type} {c : Bool} {x x' : Option R} {y y' : Option Sp.E_24_1} {k0 : Option R} {k1 : Option R} (h : x = Sp.B_24_1 y k0 k1) (h' : x' = Sp.B_24_1 y' k0 k1) : (bif c then x else x') = Sp.B_24_1 (bif c then y else y') k0 k1 := by cases c; exact h'; exact h
theorem loop_24_1 {R : Type} (k : Ex → St → Option R) : ∀ (m : Nat) (p0 : Int) (p1 : Zt24_0) (p2 : Zt24_0), evLoopN (evCodeL sm_24 FU (ovr noO (evFn sm_24 fns FU 0)) .nil ir24_b1) (St.norm ir24_v1) m (T_24_1 p0 p1 p2) k = Sp.B_24_1 (Sp.L_24_1 m p0 p1 p2) (k Ex.ret (X_24_1_0)) (k (Ex.exit (2 : Nat)) (X_24_1_1))
  | 0, _, _, _ => rfl
  | m + 1, p0, p1, p2 => by
    rw [evLoopN_succ, body_24_1, Sp.L_24_1]
    repeat' first | apply Bgd_24_1 | apply Bcond_24_1 | exact loop_24_1 k m _ _ _ | rfl
theorem ok_24_1 {R : Type} (T : St) (k : Ex → St → Option R) (r : R) (h0 : o_24_1 G_24_1 T k = some r) : evLoopN (evCode sm_24 FU (evFn sm_24 fns FU 0) ir24_b1) (St.norm ir24_v1) FU T k = some r := by
  obtain ⟨p0, p1, p2, rfl, h⟩ := o_24_1_inv h0
  refine evLoopN_L (t := .nil) noO_ok trivial _ _ _ _ ?_
  rw [loop_24_1]
  exact h
theorem OK_24_24_1 {R : Type} (T : St) (k : Ex → St → Option R) (r : R) (h : O_24_24_1 T k = some r) : evLoopN (evCode sm_24 FU (evFn sm_24 fns FU 0) ir24_b1) (St.norm ir24_v1) FU T k = some r := ok_24_1 T k r h
noncomputable def F_24 (a0 : ((List Int) × ((List Int) × (Int × Unit)))) (a1 : ((List Int) × ((List Int) × (Int × Unit)))) : Option (Bool × Unit) :=
  bif a0.2.2.1 != a1.2.2.1 then some (false, PUnit.unit) else bif (↑(List.length (a0.1)) : Int) != (↑(List.length (a1.1)) : Int) then some (false, PUnit.unit) else bif (↑(List.length (a0.2.1)) : Int) != (↑(List.length (a1.2.1)) : Int) then some (false, PUnit.unit) else Sp.B_24_0 (Sp.L_24_0 (4611686018427387904 : Nat) (0 : Int) a0 a1) (some (false, PUnit.unit)) fun y2 y3 => Sp.B_24_1 (Sp.L_24_1 (4611686018427387904 : Nat) (0 : Int) y2 y3) (some (false, PUnit.unit)) (some (true, PUnit.unit))
theorem fn_24 (a0 : ((List Int) × ((List Int) × (Int × Unit)))) (a1 : ((List Int) × ((List Int) × (Int × Unit)))) : evFnL sm_24 FU (ovr noO (evFn sm_24 fns FU 0)) (ir24_t O_24_24_0 O_24_24_1) ir24 (ofH [Zy24_2, Zy24_2] (a0, a1, ())) [] (pureK [.bool]) = F_24 a0 a1 := by kernel_rfl
noncomputable def Sp.p_24 (a0 : ((List Int) × ((List Int) × (Int × Unit)))) (a1 : ((List Int) × ((List Int) × (Int × Unit)))) : Bool := (F_24 a0 a1).isSome
noncomputable def Sp.v_24 (a0 : ((List Int) × ((List Int) × (Int × Unit)))) (a1 : ((List Int) × ((List Int) × (Int × Unit)))) : Bool × Unit := (F_24 a0 a1).getD (dfH [.bool])
noncomputable def s_24 : Summ := shN [Zy24_2, Zy24_2] [.bool] (fun x => Sp.p_24 x.1 x.2.1) (fun x => Sp.v_24 x.1 x.2.1)
theorem pv_24 (a0 : ((List Int) × ((List Int) × (Int × Unit)))) (a1 : ((List Int) × ((List Int) × (Int × Unit)))) {y : Bool × Unit} (h : F_24 a0 a1 = some y) : Sp.p_24 a0 a1 = true ∧ Sp.v_24 a0 a1 = y := ⟨by rw [Sp.p_24, h]; rfl, by rw [Sp.v_24, h]; rfl⟩
theorem run_24 (x : HDen [Zy24_2, Zy24_2]) (y : HDen [.bool]) (h : F_24 x.1 x.2.1 = some y) : evFn sm_24 fns FU 1 24 (ofH [Zy24_2, Zy24_2] x) [] (pureK [.bool]) = some y :=
  evFnL_sound (fn := ir24) (t := (ir24_t O_24_24_0 O_24_24_1)) (o := noO) rfl noO_ok (ir24_tok (fun T k r => OK_24_24_0 T k r) (fun T k r => OK_24_24_1 T k r)) ((fn_24 _ _).trans h)
end
end Go.Ev
namespace Go.Ev
open Go
set_option maxRecDepth 100000
set_option maxHeartbeats 4000000
set_option linter.unusedVariables false
noncomputable section

noncomputable def sm_33 : Nat → Option Summ := fun f => bif Nat.beq f 24 then some s_24 else none


noncomputable def F_33 (a0 : (((List Int) × ((List Int) × (Int × Unit))) × ((List Int) × Unit))) (a1 : (((List Int) × ((List Int) × (Int × Unit))) × ((List Int) × Unit))) : Option (Bool × Unit) :=
  bif Ty.beq (Ty.arr (32 : Nat) (Ty.int IntKind.u8)) (a0.2.1) (a1.2.1) then gd (Sp.p_24 (a0.1) (a1.1)) (some ((Sp.v_24 (a0.1) (a1.1)).1, PUnit.unit)) else some (false, PUnit.unit)
theorem fn_33 (a0 : (((List Int) × ((List Int) × (Int × Unit))) × ((List Int) × Unit))) (a1 : (((List Int) × ((List Int) × (Int × Unit))) × ((List Int) × Unit))) : evFnL sm_33 FU (ovr noO (evFn sm_33 fns FU 0)) .nil ir33 (ofH [(.pair (.pair (.slice (.int .u32)) (.pair (.slice (.int .i64)) (.pair (.int .i64) .unit))) (.pair (.arr 32 (.int .u8)) .unit)), (.pair (.pair (.slice (.int .u32)) (.pair (.slice (.int .i64)) (.pair (.int .i64) .unit))) (.pair (.arr 32 (.int .u8)) .unit))] (a0, a1, ())) [] (pureK [.bool]) = F_33 a0 a1 := by kernel_rfl
noncomputable def Sp.p_33 (a0 : (((List Int) × ((List Int) × (Int × Unit))) × ((List Int) × Unit))) (a1 : (((List Int) × ((List Int) × (Int × Unit))) × ((List Int) × Unit))) : Bool := (F_33 a0 a1).isSome
noncomputable def Sp.v_33 (a0 : (((List Int) × ((List Int) × (Int × Unit))) × ((List Int) × Unit))) (a1 : (((List Int) × ((List Int) × (Int × Unit))) × ((List Int) × Unit))) : Bool × Unit := (F_33 a0 a1).getD (dfH [.bool])
noncomputable def s_33 : Summ := shN [(.pair (.pair (.slice (.int .u32)) (.pair (.slice (.int .i64)) (.pair (.int .i64) .unit))) (.pair (.arr 32 (.int .u8)) .unit)), (.pair (.pair (.slice (.int .u32)) (.pair (.slice (.int .i64)) (.pair (.int .i64) .unit))) (.pair (.arr 32 (.int .u8)) .unit))] [.bool] (fun x => Sp.p_33 x.1 x.2.1) (fun x => Sp.v_33 x.1 x.2.1)
theorem pv_33 (a0 : (((List Int) × ((List Int) × (Int × Unit))) × ((List Int) × Unit))) (a1 : (((List Int) × ((List Int) × (Int × Unit))) × ((List Int) × Unit))) {y : Bool × Unit} (h : F_33 a0 a1 = some y) : Sp.p_33 a0 a1 = true ∧ Sp.v_33 a0 a1 = y := ⟨by rw [Sp.p_33, h]; rfl, by rw [Sp.v_33, h]; rfl⟩
theorem run_33 (x : HDen [(.pair (.pair (.slice (.int .u32)) (.pair (.slice (.int .i64)) (.pair (.int .i64) .unit))) (.pair (.arr 32 (.int .u8)) .unit)), (.pair (.pair (.slice (.int .u32)) (.pair (.slice (.int .i64)) (.pair (.int .i64) .unit))) (.pair (.arr 32 (.int .u8)) .unit))]) (y : HDen [.bool]) (h : F_33 x.1 x.2.1 = some y) : evFn sm_33 fns FU 1 33 (ofH [(.pair (.pair (.slice (.int .u32)) (.pair (.slice (.int .i64)) (.pair (.int .i64) .unit))) (.pair (.arr 32 (.int .u8)) .unit)), (.pair (.pair (.slice (.int .u32)) (.pair (.slice (.int .i64)) (.pair (.int .i64) .unit))) (.pair (.arr 32 (.int .u8)) .unit))] x) [] (pureK [.bool]) = some y :=
  evFnL_sound (fn := ir33) (t := .nil) (o := noO) rfl noO_ok trivial ((fn_33 _ _).trans h)
end
end Go.Ev
namespace Go.Ev
open Go
set_option maxRecDepth 100000
set_option maxHeartbeats 4000000
set_option linter.unusedVariables false
noncomputable section
abbrev Zt7_0 : Type := (List Int × List Int × Int × Unit) × List Int × Unit
abbrev Zy7_1 : Ty := (Ty.pair (Ty.pair (Ty.slice (Ty.int IntKind.u32)) (Ty.pair (Ty.slice (Ty.int IntKind.i64)) (Ty.pair (Ty.int IntKind.i64) Ty.unit))) (Ty.pair (Ty.arr (32 : Nat) (Ty.int IntKind.u8)) Ty.unit))
abbrev Zy7_2 : Ty := (.pair (.pair (.slice (.int .u32)) (.pair (.slice (.int .i64)) (.pair (.int .i64) .unit))) (.pair (.arr 32 (.int .u8)) .unit))

noncomputable def sm_7 : Nat → Option Summ := fun f => bif Nat.beq f 10 then some s_10 else bif Nat.beq f 11 then some s_11 else bif Nat.beq f 12 then some s_12 else bif Nat.beq f 17 then some s_17 else bif Nat.beq f 19 then some s_19 else bif Nat.beq f 31 then some s_31 else bif Nat.beq f 33 then some s_33 else bif Nat.beq f 34 then some s_34 else none
noncomputable def T_7_0 (p0 : Int) (p1 : Int) (p2 : Int) (p3 : Int) (p4 : Int) (p5 : Zt7_0) (p6 : Zt7_0) (p7 : Zt7_0) : St := St.mk ([jk, jk, CV.int IntKind.u32 p0, CV.ptr (0 : Nat) [], jk, jk, jk, CV.int IntKind.i64 p1, CV.ptr (1 : Nat) [], jk, jk, CV.ptr (2 : Nat) [], jk, jk, CV.int IntKind.i64 p2] ++ (jl 87 ++ ([CV.int IntKind.i64 p3, CV.int IntKind.i64 p4] ++ (jl 116)))) [Blk.mem (CV.pure Zy7_1 p5), Blk.mem (CV.pure Zy7_1 p6), Blk.mem (CV.pure Zy7_1 p7)] (0 : Nat)
noncomputable def X_7_0_0 : St := St.mk (jl 6 ++ ([CV.bool false] ++ (jl 213))) [] (0 : Nat)
noncomputable def X_7_0_1 (p0 : Int) (p1 : Int) (p2 : Int) (p5 : Zt7_0) (p6 : Zt7_0) (p7 : Zt7_0) : St := St.mk ([jk, jk, CV.int IntKind.u32 p0, CV.ptr (0 : Nat) [], jk, jk, jk, CV.int IntKind.i64 p1, CV.ptr (1 : Nat) [], jk, jk, CV.ptr (2 : Nat) [], jk, jk, CV.int IntKind.i64 p2] ++ (jl 205)) [Blk.mem (CV.pure Zy7_1 p5), Blk.mem (CV.pure Zy7_1 p6), Blk.mem (CV.pure Zy7_1 p7)] (0 : Nat)
inductive Sp.E_7_0 where
  | e0
  | e1 (p0 : Int) (p1 : Int) (p2 : Int) (p5 : Zt7_0) (p6 : Zt7_0) (p7 : Zt7_0)
noncomputable def Sp.B_7_0 {R : Type} (r : Option Sp.E_7_0) (k0 : Option R) (k1 : (Int) → (Int) → (Int) → (Zt7_0) → (Zt7_0) → (Zt7_0) → Option R) : Option R := match r with
  | none => none
  | some (.e0) => k0
  | some (.e1 p0 p1 p2 p5 p6 p7) => k1 p0 p1 p2 p5 p6 p7
noncomputable def Sp.L_7_0 : Nat → (Int) → (Int) → (Int) → (Int) → (Int) → ((List Int × List Int × Int × Unit) × List Int × Unit) → ((List Int × List Int × Int × Unit) × List Int × Unit) → ((List Int × List Int × Int × Unit) × List Int × Unit) → Option Sp.E_7_0
  | 0, _, _, _, _, _, _, _, _ => none
  | m + 1, p0, p1, p2, p3, p4, p5, p6, p7 => bif decide (p4 < p3) then bif p4 != p2 then gd (inB p4 (List.length (p7.1.1))) (gd (inB p4 (List.length (p5.1.1))) (bif List.getD (p7.1.1) (Int.toNat p4) (0 : Int) != List.getD (p5.1.1) (Int.toNat p4) (0 : Int) then some (Sp.E_7_0.e0) else Sp.L_7_0 m p0 p1 p2 p3 (IntKind.wrap IntKind.i64 (p4 + (1 : Int))) p5 p6 p7)) else Sp.L_7_0 m p0 p1 p2 p3 (IntKind.wrap IntKind.i64 (p4 + (1 : Int))) p5 p6 p7 else some (Sp.E_7_0.e1 p0 p1 p2 p5 p6 p7)
noncomputable def G_7_0 {R : Type} (p0 : Int) (p1 : Int) (p2 : Int) (p3 : Int) (p4 : Int) (p5 : Zt7_0) (p6 : Zt7_0) (p7 : Zt7_0) (k : Ex → St → Option R) : Option R := Sp.B_7_0 (Sp.L_7_0 FU p0 p1 p2 p3 p4 p5 p6 p7) (k Ex.ret (X_7_0_0)) (fun p0 p1 p2 p5 p6 p7 => k (Ex.exit (0 : Nat)) (X_7_0_1 p0 p1 p2 p5 p6 p7))
noncomputable def o_7_0 {R : Type} (G : (Int) → (Int) → (Int) → (Int) → (Int) → (Zt7_0) → (Zt7_0) → (Zt7_0) → (Ex → St → Option R) → Option R) : St → (Ex → St → Option R) → Option R := fun T k => match T.sl.getD 2 .junk, T.sl.getD 3 .junk, T.sl.getD 7 .junk, T.sl.getD 8 .junk, T.sl.getD 11 .junk, T.sl.getD 14 .junk, T.sl.getD 102 .junk, T.sl.getD 103 .junk, T.hp with
  | CV.int IntKind.u32 p0, CV.ptr (0 : Nat) [], CV.int IntKind.i64 p1, CV.ptr (1 : Nat) [], CV.ptr (2 : Nat) [], CV.int IntKind.i64 p2, CV.int IntKind.i64 p3, CV.int IntKind.i64 p4, ((Blk.mem (CV.pure (Ty.pair (Ty.pair (Ty.slice (Ty.int IntKind.u32)) (Ty.pair (Ty.slice (Ty.int IntKind.i64)) (Ty.pair (Ty.int IntKind.i64) Ty.unit))) (Ty.pair (Ty.arr (32 : Nat) (Ty.int IntKind.u8)) Ty.unit)) p5)) :: (Blk.mem (CV.pure (Ty.pair (Ty.pair (Ty.slice (Ty.int IntKind.u32)) (Ty.pair (Ty.slice (Ty.int IntKind.i64)) (Ty.pair (Ty.int IntKind.i64) Ty.unit))) (Ty.pair (Ty.arr (32 : Nat) (Ty.int IntKind.u8)) Ty.unit)) p6)) :: (Blk.mem (CV.pure (Ty.pair (Ty.pair (Ty.slice (Ty.int IntKind.u32)) (Ty.pair (Ty.slice (Ty.int IntKind.i64)) (Ty.pair (Ty.int IntKind.i64) Ty.unit))) (Ty.pair (Ty.arr (32 : Nat) (Ty.int IntKind.u8)) Ty.unit)) p7)) :: []) => gd (shapeOK T 220 [2, 3, 7, 8, 11, 14, 102, 103] (0 : Nat)) (G p0 p1 p2 p3 p4 p5 p6 p7 k)
  | _, _, _, _, _, _, _, _, _ => none
theorem o_7_0_inv {R : Type} {G : (Int) → (Int) → (Int) → (Int) → (Int) → (Zt7_0) → (Zt7_0) → (Zt7_0) → (Ex → St → Option R) → Option R} {T : St} {k : Ex → St → Option R} {r : R} (h : o_7_0 G T k = some r) : ∃ p0 p1 p2 p3 p4 p5 p6 p7, T = T_7_0 p0 p1 p2 p3 p4 p5 p6 p7 ∧ G p0 p1 p2 p3 p4 p5 p6 p7 k = some r := by
  unfold o_7_0 at h
  split at h
  · obtain ⟨hs, h'⟩ := gd_some h
    refine ⟨_, _, _, _, _, _, _, _, (st_of (asg := [(2, _), (3, _), (7, _), (8, _), (11, _), (14, _), (102, _), (103, _)]) hs ⟨by assumption, by assumption, by assumption, by assumption, by assumption, by assumption, by assumption, by assumption, trivial⟩ (by assumption)).trans ?_, h'⟩
    kernel_rfl
  · cases h
noncomputable def T_7_2 (p0 : Int) (p1 : Zt7_0) (p2 : Zt7_0) : St := St.mk (jl 7 ++ ([CV.int IntKind.i64 p0, CV.ptr (0 : Nat) [], jk, jk, CV.ptr (1 : Nat) []] ++ (jl 208))) [Blk.mem (CV.pure Zy7_1 p1), Blk.mem (CV.pure Zy7_1 p2)] (0 : Nat)
noncomputable def X_7_2_0 (p0 : Int) (p1 : Zt7_0) (p2 : Zt7_0) : St := St.mk (jl 6 ++ ([CV.bool ((Sp.v_33 ((Sp.v_31 p2 p0 (Sp.v_34.1)).1) p1).1)] ++ (jl 213))) [] (0 : Nat)
noncomputable def X_7_2_1 : St := St.mk (jl 6 ++ ([CV.bool false] ++ (jl 213))) [] (0 : Nat)
inductive Sp.E_7_2 where
  | e0 (p0 : Int) (p1 : Zt7_0) (p2 : Zt7_0)
  | e1
noncomputable def Sp.B_7_2 {R : Type} (r : Option Sp.E_7_2) (k0 : (Int) → (Zt7_0) → (Zt7_0) → Option R) (k1 : Option R) : Option R := match r with
  | none => none
  | some (.e0 p0 p1 p2) => k0 p0 p1 p2
  | some (.e1) => k1
noncomputable def Sp.J_7_2 (p0 : Int) (p1 : (List Int × List Int × Int × Unit) × List Int × Unit) (p2 : (List Int × List Int × Int × Unit) × List Int × Unit) : Option Sp.E_7_2 :=
  gd Sp.p_34 (gd (Sp.p_31 p2 p0 (Sp.v_34.1)) (bif (Sp.v_31 p2 p0 (Sp.v_34.1)).2.2.1 == (0 : Int) then gd (Sp.p_33 ((Sp.v_31 p2 p0 (Sp.v_34.1)).1) p1) (some (Sp.E_7_2.e0 p0 p1 p2)) else some (Sp.E_7_2.e1)))
noncomputable def G_7_2 {R : Type} (p0 : Int) (p1 : Zt7_0) (p2 : Zt7_0) (k : Ex → St → Option R) : Option R := Sp.B_7_2 (Sp.J_7_2 p0 p1 p2) (fun p0 p1 p2 => k Ex.ret (X_7_2_0 p0 p1 p2)) (k Ex.ret (X_7_2_1))
noncomputable def o_7_2 {R : Type} (G : (Int) → (Zt7_0) → (Zt7_0) → (Ex → St → Option R) → Option R) : St → (Ex → St → Option R) → Option R := fun T k => match T.sl.getD 7 .junk, T.sl.getD 8 .junk, T.sl.getD 11 .junk, T.hp with
  | CV.int IntKind.i64 p0, CV.ptr (0 : Nat) [], CV.ptr (1 : Nat) [], ((Blk.mem (CV.pure (Ty.pair (Ty.pair (Ty.slice (Ty.int IntKind.u32)) (Ty.pair (Ty.slice (Ty.int IntKind.i64)) (Ty.pair (Ty.int IntKind.i64) Ty.unit))) (Ty.pair (Ty.arr (32 : Nat) (Ty.int IntKind.u8)) Ty.unit)) p1)) :: (Blk.mem (CV.pure (Ty.pair (Ty.pair (Ty.slice (Ty.int IntKind.u32)) (Ty.pair (Ty.slice (Ty.int IntKind.i64)) (Ty.pair (Ty.int IntKind.i64) Ty.unit))) (Ty.pair (Ty.arr (32 : Nat) (Ty.int IntKind.u8)) Ty.unit)) p2)) :: []) => gd (shapeOK T 220 [7, 8, 11] (0 : Nat)) (G p0 p1 p2 k)
  | _, _, _, _ => none
theorem o_7_2_inv {R : Type} {G : (Int) → (Zt7_0) → (Zt7_0) → (Ex → St → Option R) → Option R} {T : St} {k : Ex → St → Option R} {r : R} (h : o_7_2 G T k = some r) : ∃ p0 p1 p2, T = T_7_2 p0 p1 p2 ∧ G p0 p1 p2 k = some r := by
  unfold o_7_2 at h
  split at h
  · obtain ⟨hs, h'⟩ := gd_some h
    refine ⟨_, _, _, (st_of (asg := [(7, _), (8, _), (11, _)]) hs ⟨by assumption, by assumption, by assumption, trivial⟩ (by assumption)).trans ?_, h'⟩
    kernel_rfl
  · cases h
noncomputable def T_7_1 (p0 : Int) (p1 : Int) (p2 : Int) (p3 : Bool) (p4 : Int) (p5 : Bool) (p6 : Int) (p7 : Zt7_0) (p8 : Zt7_0) : St := St.mk (jl 7 ++ ([CV.int IntKind.i64 p0, CV.ptr (0 : Nat) [], jk, jk, CV.ptr (1 : Nat) [], jk, jk, CV.int IntKind.i64 p1, jk, CV.int IntKind.i64 p2, CV.bool p3, CV.int IntKind.i64 p4, CV.bool p5, CV.int IntKind.i64 p6] ++ (jl 199))) [Blk.mem (CV.pure Zy7_1 p7), Blk.mem (CV.pure Zy7_1 p8)] (0 : Nat)
noncomputable def X_7_1_0 (p4 : Int) (p6 : Int) : St := St.mk (jl 6 ++ ([CV.bool (p4 == p6)] ++ (jl 213))) [] (0 : Nat)
noncomputable def X_7_1_1 : St := St.mk (jl 6 ++ ([CV.bool false] ++ (jl 213))) [] (0 : Nat)
noncomputable def X_7_1_2 (y6 : Int) (y7 : Zt7_0) (y8 : Zt7_0) : St := St.mk (jl 6 ++ ([CV.bool ((Sp.v_33 ((Sp.v_31 y8 y6 (Sp.v_34.1)).1) y7).1)] ++ (jl 213))) [] (0 : Nat)
inductive Sp.E_7_1 where
  | e0 (p4 : Int) (p6 : Int)
  | e1
  | e2 (y6 : Int) (y7 : Zt7_0) (y8 : Zt7_0)
noncomputable def Sp.B_7_1 {R : Type} (r : Option Sp.E_7_1) (k0 : (Int) → (Int) → Option R) (k1 : Option R) (k2 : (Int) → (Zt7_0) → (Zt7_0) → Option R) : Option R := match r with
  | none => none
  | some (.e0 p4 p6) => k0 p4 p6
  | some (.e1) => k1
  | some (.e2 y6 y7 y8) => k2 y6 y7 y8
noncomputable def Sp.J_7_1 (p0 : Int) (p1 : Int) (p2 : Int) (p3 : Bool) (p4 : Int) (p5 : Bool) (p6 : Int) (p7 : (List Int × List Int × Int × Unit) × List Int × Unit) (p8 : (List Int × List Int × Int × Unit) × List Int × Unit) : Option Sp.E_7_1 :=
  gd (inB p1 (List.length (p8.1.1))) (bif List.getD (p8.1.1) (Int.toNat p1) (0 : Int) == (0 : Int) then bif p5 then some (Sp.E_7_1.e0 p4 p6) else some (Sp.E_7_1.e1) else bif !p5 == p3 then some (Sp.E_7_1.e1) else bif p3 then bif p4 != p2 then some (Sp.E_7_1.e1) else Sp.B_7_2 (Sp.J_7_2 p0 p7 p8) (fun y6 y7 y8 => some (Sp.E_7_1.e2 y6 y7 y8)) (some (Sp.E_7_1.e1)) else Sp.B_7_2 (Sp.J_7_2 p0 p7 p8) (fun y9 y10 y11 => some (Sp.E_7_1.e2 y9 y10 y11)) (some (Sp.E_7_1.e1)))
noncomputable def G_7_1 {R : Type} (p0 : Int) (p1 : Int) (p2 : Int) (p3 : Bool) (p4 : Int) (p5 : Bool) (p6 : Int) (p7 : Zt7_0) (p8 : Zt7_0) (k : Ex → St → Option R) : Option R := Sp.B_7_1 (Sp.J_7_1 p0 p1 p2 p3 p4 p5 p6 p7 p8) (fun p4 p6 => k Ex.ret (X_7_1_0 p4 p6)) (k Ex.ret (X_7_1_1)) (fun y6 y7 y8 => k Ex.ret (X_7_1_2 y6 y7 y8))
noncomputable def o_7_1 {R : Type} (G : (Int) → (Int) → (Int) → (Bool) → (Int) → (Bool) → (Int) → (Zt7_0) → (Zt7_0) → (Ex → St → Option R) → Option R) : St → (Ex → St → Option R) → Option R := fun T k => match T.sl.getD 7 .junk, T.sl.getD 8 .junk, T.sl.getD 11 .junk, T.sl.getD 14 .junk, T.sl.getD 16 .junk, T.sl.getD 17 .junk, T.sl.getD 18 .junk, T.sl.getD 19 .junk, T.sl.getD 20 .junk, T.hp with
  | CV.int IntKind.i64 p0, CV.ptr (0 : Nat) [], CV.ptr (1 : Nat) [], CV.int IntKind.i64 p1, CV.int IntKind.i64 p2, CV.bool p3, CV.int IntKind.i64 p4, CV.bool p5, CV.int IntKind.i64 p6, ((Blk.mem (CV.pure (Ty.pair (Ty.pair (Ty.slice (Ty.int IntKind.u32)) (Ty.pair (Ty.slice (Ty.int IntKind.i64)) (Ty.pair (Ty.int IntKind.i64) Ty.unit))) (Ty.pair (Ty.arr (32 : Nat) (Ty.int IntKind.u8)) Ty.unit)) p7)) :: (Blk.mem (CV.pure (Ty.pair (Ty.pair (Ty.slice (Ty.int IntKind.u32)) (Ty.pair (Ty.slice (Ty.int IntKind.i64)) (Ty.pair (Ty.int IntKind.i64) Ty.unit))) (Ty.pair (Ty.arr (32 : Nat) (Ty.int IntKind.u8)) Ty.unit)) p8)) :: []) => gd (shapeOK T 220 [7, 8, 11, 14, 16, 17, 18, 19, 20] (0 : Nat)) (G p0 p1 p2 p3 p4 p5 p6 p7 p8 k)
  | _, _, _, _, _, _, _, _, _, _ => none
theorem o_7_1_inv {R : Type} {G : (Int) → (Int) → (Int) → (Bool) → (Int) → (Bool) → (Int) → (Zt7_0) → (Zt7_0) → (Ex → St → Option R) → Option R} {T : St} {k : Ex → St → Option R} {r : R} (h : o_7_1 G T k = some r) : ∃ p0 p1 p2 p3 p4 p5 p6 p7 p8, T = T_7_1 p0 p1 p2 p3 p4 p5 p6 p7 p8 ∧ G p0 p1 p2 p3 p4 p5 p6 p7 p8 k = some r := by
  unfold o_7_1 at h
  split at h
  · obtain ⟨hs, h'⟩ := gd_some h
    refine ⟨_, _, _, _, _, _, _, _, _, (st_of (asg := [(7, _), (8, _), (11, _), (14, _), (16, _), (17, _), (18, _), (19, _), (20, _)]) hs ⟨by assumption, by assumption, by assumption, by assumption, by assumption, by assumption, by assumption, by assumption, by assumption, trivial⟩ (by assumption)).trans ?_, h'⟩
    kernel_rfl
  · cases h
noncomputable def O_7_7_0 {R : Type} : St → (Ex → St → Option R) → Option R := fun T k => o_7_0 G_7_0 T k
noncomputable def O_7_7_2 {R : Type} : St → (Ex → St → Option R) → Option R := fun T k => o_7_2 G_7_2 T k
noncomputable def O_7_7_1 {R : Type} : St → (Ex → St → Option R) → Option R := fun T k => o_7_1 G_7_1 T k
theorem body_7_0 {R : Type} (K0 : St → Option R) (K1 : Ex → St → Option R) (p0 : Int) (p1 : Int) (p2 : Int) (p3 : Int) (p4 : Int) (p5 : Zt7_0) (p6 : Zt7_0) (p7 : Zt7_0) : evLB (evCodeL sm_7 FU (ovr noO (evFn sm_7 fns FU 0)) .nil ir7_b0) (St.norm ir7_v0) (T_7_0 p0 p1 p2 p3 p4 p5 p6 p7) K0 K1 =
  bif decide (p4 < p3) then bif p4 != p2 then gd (inB p4 (List.length (p7.1.1))) (gd (inB p4 (List.length (p5.1.1))) (bif List.getD (p7.1.1) (Int.toNat p4) (0 : Int) != List.getD (p5.1.1) (Int.toNat p4) (0 : Int) then K1 Ex.ret X_7_0_0 else K0 (T_7_0 p0 p1 p2 p3 (IntKind.wrap IntKind.i64 (p4 + (1 : Int))) p5 p6 p7))) else K0 (T_7_0 p0 p1 p2 p3 (IntKind.wrap IntKind.i64 (p4 + (1 : Int))) p5 p6 p7) else K1 (Ex.exit (0 : Nat)) (X_7_0_1 p0 p1 p2 p5 p6 p7) := by kernel_rfl
theorem Bgd_7_0 {R : Type} {c : Bool} {x : Option R} {y : Option Sp.E_7_0} {k0 : Option R} {k1 : (Int) → (Int) → (Int) → (Zt7_0) → (Zt7_0) → (Zt7_0) → Option R} (h : x = Sp.B_7_0 y k0 k1) : gd c x = Sp.B_7_0 (gd c y) k0 k1 := by cases c; rfl; exact h
theorem Bcond_7_0 {R : Type} {c : Bool} {x x' : Option R} {y y' : Option Sp.E_7_0} {k0 : Option R} {k1 : (Int) → (Int) → (Int) → (Zt7_0) → (Zt7_0) → (Zt7_0) → Option R} (h : x = Sp.B_7_0 y k0 k1) (h' : x' = Sp.B_7_0 y' k0 k1) : (bif c then x else x') = Sp.B_7_0 (bif c then y else y') k0 k1 := by cases c; exact h'; exact h
theorem loop_7_0 {R : Type} (k : Ex → St → Option R) : ∀ (m : Nat) (p0 : Int) (p1 : Int) (p2 : Int) (p3 : Int) (p4 : Int) (p5 : Zt7_0) (p6 : Zt7_0) (p7 : Zt7_0), evLoopN (evCodeL sm_7 FU (ovr noO (evFn sm_7 fns FU 0)) .nil ir7_b0) (St.norm ir7_v0) m (T_7_0 p0 p1 p2 p3 p4 p5 p6 p7) k = Sp.B_7_0 (Sp.L_7_0 m p0 p1 p2 p3 p4 p5 p6 p7) (k Ex.ret (X_7_0_0)) (fun p0 p1 p2 p5 p6 p7 => k (Ex.exit (0 : Nat)) (X_7_0_1 p0 p1 p2 p5 p6 p7))
  | 0, _, _, _, _, _, _, _, _ => rfl
  | m + 1, p0, p1, p2, p3, p4, p5, p6, p7 => by
    rw [evLoopN_succ, body_7_0, Sp.L_7_0]
    repeat' first | apply Bgd_7_0 | apply Bcond_7_0 | exact loop_7_0 k m _ _ _ _ _ _ _ _ | rfl
theorem ok_7_0 {R : Type} (T : St) (k : Ex → St → Option R) (r : R) (h0 : o_7_0 G_7_0 T k = some r) : evLoopN (evCode sm_7 FU (evFn sm_7 fns FU 0) ir7_b0) (St.norm ir7_v0) FU T k = some r := by
  obtain ⟨p0, p1, p2, p3, p4, p5, p6, p7, rfl, h⟩ := o_7_0_inv h0
  refine evLoopN_L (t := .nil) noO_ok trivial _ _ _ _ ?_
  rw [loop_7_0]
  exact h
theorem OK_7_7_0 {R : Type} (T : St) (k : Ex → St → Option R) (r : R) (h : O_7_7_0 T k = some r) : evLoopN (evCode sm_7 FU (evFn sm_7 fns FU 0) ir7_b0) (St.norm ir7_v0) FU T k = some r := ok_7_0 T k r h
theorem body_7_2 {R : Type} (K1 : Ex → St → Option R) (p0 : Int) (p1 : Zt7_0) (p2 : Zt7_0) : evJ (evCodeL sm_7 FU (ovr noO (evFn sm_7 fns FU 0)) .nil ir7_b2) (T_7_2 p0 p1 p2) K1 =
  gd Sp.p_34 (gd (Sp.p_31 p2 p0 (Sp.v_34.1)) (bif (Sp.v_31 p2 p0 (Sp.v_34.1)).2.2.1 == (0 : Int) then gd (Sp.p_33 ((Sp.v_31 p2 p0 (Sp.v_34.1)).1) p1) (K1 Ex.ret (X_7_2_0 p0 p1 p2)) else K1 Ex.ret X_7_2_1)) := by kernel_rfl
theorem Bgd_7_2 {R : Type} {c : Bool} {x : Option R} {y : Option Sp.E_7_2} {k0 : (Int) → (Zt7_0) → (Zt7_0) → Option R} {k1 : Option R} (h : x = Sp.B_7_2 y k0 k1) : gd c x = Sp.B_7_2 (gd c y) k0 k1 := by cases c; rfl; exact h
theorem Bcond_7_2 {R : Type} {c : Bool} {x x' : Option R} {y y' : Option Sp.E_7_2} {k0 : (Int) → (Zt7_0) → (Zt7_0) → Option R} {k1 : Option R} (h : x = Sp.B_7_2 y k0 k1) (h' : x' = Sp.B_7_2 y' k0 k1) : (bif c then x else x') = Sp.B_7_2 (bif c then y else y') k0 k1 := by cases c; exact h'; exact h
theorem loop_7_2 {R : Type} (k : Ex → St → Option R) (p0 : Int) (p1 : Zt7_0) (p2 : Zt7_0) : evJ (evCodeL sm_7 FU (ovr noO (evFn sm_7 fns FU 0)) .nil ir7_b2) (T_7_2 p0 p1 p2) k = Sp.B_7_2 (Sp.J_7_2 p0 p1 p2) (fun p0 p1 p2 => k Ex.ret (X_7_2_0 p0 p1 p2)) (k Ex.ret (X_7_2_1)) := by
  rw [body_7_2, Sp.J_7_2]
  repeat' first | apply Bgd_7_2 | apply Bcond_7_2 | rfl
theorem ok_7_2 {R : Type} (T : St) (k : Ex → St → Option R) (r : R) (h0 : o_7_2 G_7_2 T k = some r) : evCode sm_7 FU (evFn sm_7 fns FU 0) ir7_b2 T k = some r := by
  obtain ⟨p0, p1, p2, rfl, h⟩ := o_7_2_inv h0
  refine bodyL_sound (t := .nil) noO_ok trivial (((show ∀ (b : St → (Ex → St → Option R) → Option R) (T : St) (k : Ex → St → Option R), b T k = evJ b T k from fun _ _ _ => rfl) _ _ _).trans ((loop_7_2 k p0 p1 p2).trans h))
theorem OK_7_7_2 {R : Type} (T : St) (k : Ex → St → Option R) (r : R) (h : O_7_7_2 T k = some r) : evCode sm_7 FU (evFn sm_7 fns FU 0) ir7_b2 T k = some r := ok_7_2 T k r h
theorem body_7_1 {R : Type} (K1 : Ex → St → Option R) (p0 : Int) (p1 : Int) (p2 : Int) (p3 : Bool) (p4 : Int) (p5 : Bool) (p6 : Int) (p7 : Zt7_0) (p8 : Zt7_0) : evJ (evCodeL sm_7 FU (ovr noO (evFn sm_7 fns FU 0)) (ir7_bt1 O_7_7_2) ir7_b1) (T_7_1 p0 p1 p2 p3 p4 p5 p6 p7 p8) K1 =
  gd (inB p1 (List.length (p8.1.1))) (bif List.getD (p8.1.1) (Int.toNat p1) (0 : Int) == (0 : Int) then bif p5 then K1 Ex.ret (X_7_1_0 p4 p6) else K1 Ex.ret X_7_1_1 else bif !p5 == p3 then K1 Ex.ret X_7_1_1 else bif p3 then bif p4 != p2 then K1 Ex.ret X_7_1_1 else Sp.B_7_2 (Sp.J_7_2 p0 p7 p8) (fun y6 y7 y8 => K1 Ex.ret (X_7_1_2 y6 y7 y8)) (K1 Ex.ret X_7_1_1) else Sp.B_7_2 (Sp.J_7_2 p0 p7 p8) (fun y9 y10 y11 => K1 Ex.ret (X_7_1_2 y9 y10 y11)) (K1 Ex.ret X_7_1_1)) := by kernel_rfl
theorem Bgd_7_1 {R : Type} {c : Bool} {x : Option R} {y : Option Sp.E_7_1} {k0 : (Int) → (Int) → Option R} {k1 : Option R} {k2 : (Int) → (Zt7_0) → (Zt7_0) → Option R} (h : x = Sp.B_7_1 y k0 k1 k2) : gd c x = Sp.B_7_1 (gd c y) k0 k1 k2 := by cases c; rfl; exact h
theorem Bcond_7_1 {R : Type} {c : Bool} {x x' : Option R} {y y' : Option Sp.E_7_1} {k0 : (Int) → (Int) → Option R} {k1 : Option R} {k2 : (Int) → (Zt7_0) → (Zt7_0) → Option R} (h : x = Sp.B_7_1 y k0 k1 k2) (h' : x' = Sp.B_7_1 y' k0 k1 k2) : (bif c then x else x') = Sp.B_7_1 (bif c then y else y') k0 k1 k2 := by cases c; exact h'; exact h
theorem Bin_7_1_7_2 {R : Type} {r : Option Sp.E_7_2} {k0 : (Int) → (Int) → Option R} {k1 : Option R} {k2 : (Int) → (Zt7_0) → (Zt7_0) → Option R} {f0 : (Int) → (Zt7_0) → (Zt7_0) → Option R} {f1 : Option R} {g0 : (Int) → (Zt7_0) → (Zt7_0) → Option Sp.E_7_1} {g1 : Option Sp.E_7_1} (h0 : ∀ z0 z1 z2, f0 z0 z1 z2 = Sp.B_7_1 (g0 z0 z1 z2) k0 k1 k2) (h1 : f1 = Sp.B_7_1 g1 k0 k1 k2) : Sp.B_7_2 r f0 f1 = Sp.B_7_1 (Sp.B_7_2 r g0 g1) k0 k1 k2 := by
  cases r with
  | none => rfl
  | some e => cases e with
    | e0 z0 z1 z2 => exact h0 _ _ _
    | e1 => exact h1
theorem loop_7_1 {R : Type} (k : Ex → St → Option R) (p0 : Int) (p1 : Int) (p2 : Int) (p3 : Bool) (p4 : Int) (p5 : Bool) (p6 : Int) (p7 : Zt7_0) (p8 : Zt7_0) : evJ (evCodeL sm_7 FU (ovr noO (evFn sm_7 fns FU 0)) (ir7_bt1 O_7_7_2) ir7_b1) (T_7_1 p0 p1 p2 p3 p4 p5 p6 p7 p8) k = Sp.B_7_1 (Sp.J_7_1 p0 p1 p2 p3 p4 p5 p6 p7 p8) (fun p4 p6 => k Ex.ret (X_7_1_0 p4 p6)) (k Ex.ret (X_7_1_1)) (fun y6 y7 y8 => k Ex.ret (X_7_1_2 y6 y7 y8)) := by
  rw [body_7_1, Sp.J_7_1]
  repeat' first | apply Bgd_7_1 | apply Bcond_7_1 | (apply Bin_7_1_7_2 <;> intros) | rfl
theorem ok_7_1 {R : Type} (T : St) (k : Ex → St → Option R) (r : R) (h0 : o_7_1 G_7_1 T k = some r) : evCode sm_7 FU (evFn sm_7 fns FU 0) ir7_b1 T k = some r := by
  obtain ⟨p0, p1, p2, p3, p4, p5, p6, p7, p8, rfl, h⟩ := o_7_1_inv h0
  refine bodyL_sound (t := (ir7_bt1 O_7_7_2)) noO_ok (ir7_bt1ok (fun T k r => OK_7_7_2 T k r)) (((show ∀ (b : St → (Ex → St → Option R) → Option R) (T : St) (k : Ex → St → Option R), b T k = evJ b T k from fun _ _ _ => rfl) _ _ _).trans ((loop_7_1 k p0 p1 p2 p3 p4 p5 p6 p7 p8).trans h))
theorem OK_7_7_1 {R : Type} (T : St) (k : Ex → St → Option R) (r : R) (h : O_7_7_1 T k = some r) : evCode sm_7 FU (evFn sm_7 fns FU 0) ir7_b1 T k = some r := ok_7_1 T k r h
noncomputable def F_7 (a0 : (((List Int) × ((List Int) × (Int × Unit))) × ((List Int) × Unit))) (a1 : Int) (a2 : Int) : Option (Bool) :=
  gd Sp.p_10 (bif !Sp.v_10.1 then some false else gd (Sp.p_11 a0) (bif !(Sp.v_11 a0).1 then some true else gd (Sp.p_12 a0) (bif !(Sp.v_12 a0).1 then some true else gd Sp.p_34 (gd (Sp.p_31 a0 (Int.tmod (IntKind.wrap IntKind.i64 a1) (2 : Int)) (Sp.v_34.1)) (gd (Sp.p_31 a0 (Int.tmod (IntKind.wrap IntKind.i64 a1) (2 : Int)) ((1 : Int), a2, PUnit.unit)) (bif (Sp.v_31 a0 (Int.tmod (IntKind.wrap IntKind.i64 a1) (2 : Int)) (Sp.v_34.1)).2.2.1 != (0 : Int) then bif (Sp.v_31 a0 (Int.tmod (IntKind.wrap IntKind.i64 a1) (2 : Int)) ((1 : Int), a2, PUnit.unit)).2.2.1 == (Sp.v_31 a0 (Int.tmod (IntKind.wrap IntKind.i64 a1) (2 : Int)) (Sp.v_34.1)).2.2.1 then some ((↑(List.length ((Sp.v_31 a0 (Int.tmod (IntKind.wrap IntKind.i64 a1) (2 : Int)) ((1 : Int), a2, PUnit.unit)).1.1.1)) : Int) == (0 : Int)) else some false else bif (Sp.v_31 a0 (Int.tmod (IntKind.wrap IntKind.i64 a1) (2 : Int)) ((1 : Int), a2, PUnit.unit)).2.2.1 != (18 : Int) then some false else bif (Sp.v_31 a0 (Int.tmod (IntKind.wrap IntKind.i64 a1) (2 : Int)) ((1 : Int), a2, PUnit.unit)).2.1.1 != (0 : Int) then some false else bif (↑(List.length ((Sp.v_31 a0 (Int.tmod (IntKind.wrap IntKind.i64 a1) (2 : Int)) ((1 : Int), a2, PUnit.unit)).1.1.1)) : Int) != (↑(List.length (a0.1.1)) : Int) then some false else bif !Ty.beq (Ty.arr (32 : Nat) (Ty.int IntKind.u8)) ((Sp.v_31 a0 (Int.tmod (IntKind.wrap IntKind.i64 a1) (2 : Int)) ((1 : Int), a2, PUnit.unit)).1.2.1) (a0.2.1) then some false else Sp.B_7_0 (Sp.L_7_0 (4611686018427387904 : Nat) a2 (Int.tmod (IntKind.wrap IntKind.i64 a1) (2 : Int)) (IntKind.wrap IntKind.i64 (Int.tdiv (IntKind.wrap IntKind.i64 (Int.tmod (IntKind.wrap IntKind.i64 a1) (2 : Int) * (↑(List.length (a0.1.1)) : Int))) (2 : Int))) (↑(List.length (a0.1.1)) : Int) (0 : Int) a0 ((Sp.v_31 a0 (Int.tmod (IntKind.wrap IntKind.i64 a1) (2 : Int)) (Sp.v_34.1)).1) ((Sp.v_31 a0 (Int.tmod (IntKind.wrap IntKind.i64 a1) (2 : Int)) ((1 : Int), a2, PUnit.unit)).1)) (some false) fun y36 y37 y38 y39 y40 y41 => gd (inB y38 (List.length (y41.1.1))) (gd (inB y38 (List.length (y39.1.1))) (bif List.getD (y41.1.1) (Int.toNat y38) (0 : Int) != Sp.andnI IntKind.u32 (List.getD (y39.1.1) (Int.toNat y38) (0 : Int)) y36 then some false else gd (Sp.p_19 y39) (gd (Sp.p_19 y41) (gd (Sp.p_17 y40) (bif (Sp.v_17 y40).2.1 != (0 : Int) then some false else bif (Sp.v_19 y41).2.1 then bif (Sp.v_19 y41).1 != (Sp.v_17 y40).1 then bif (Sp.v_19 y39).2.1 then bif !(Sp.v_19 y41).1 == (Sp.v_19 y39).1 then some false else bif (Sp.v_19 y39).2.1 then bif !(Sp.v_19 y41).2.1 then some false else Sp.B_7_1 (Sp.J_7_1 y37 y38 ((Sp.v_19 y39).1) ((Sp.v_19 y39).2.1) ((Sp.v_19 y41).1) ((Sp.v_19 y41).2.1) ((Sp.v_17 y40).1) y40 y41) (fun y42 y43 => some (y42 == y43)) (some false) fun y44 y45 y46 => some ((Sp.v_33 ((Sp.v_31 y46 y44 (Sp.v_34.1)).1) y45).1) else Sp.B_7_1 (Sp.J_7_1 y37 y38 ((Sp.v_19 y39).1) ((Sp.v_19 y39).2.1) ((Sp.v_19 y41).1) ((Sp.v_19 y41).2.1) ((Sp.v_17 y40).1) y40 y41) (fun y47 y48 => some (y47 == y48)) (some false) fun y49 y50 y51 => some ((Sp.v_33 ((Sp.v_31 y51 y49 (Sp.v_34.1)).1) y50).1) else some false else bif (Sp.v_19 y39).2.1 then bif !(Sp.v_19 y41).2.1 then some false else Sp.B_7_1 (Sp.J_7_1 y37 y38 ((Sp.v_19 y39).1) ((Sp.v_19 y39).2.1) ((Sp.v_19 y41).1) ((Sp.v_19 y41).2.1) ((Sp.v_17 y40).1) y40 y41) (fun y52 y53 => some (y52 == y53)) (some false) fun y54 y55 y56 => some ((Sp.v_33 ((Sp.v_31 y56 y54 (Sp.v_34.1)).1) y55).1) else Sp.B_7_1 (Sp.J_7_1 y37 y38 ((Sp.v_19 y39).1) ((Sp.v_19 y39).2.1) ((Sp.v_19 y41).1) ((Sp.v_19 y41).2.1) ((Sp.v_17 y40).1) y40 y41) (fun y57 y58 => some (y57 == y58)) (some false) fun y59 y60 y61 => some ((Sp.v_33 ((Sp.v_31 y61 y59 (Sp.v_34.1)).1) y60).1) else bif (Sp.v_19 y39).2.1 then bif !(Sp.v_19 y41).2.1 then some false else Sp.B_7_1 (Sp.J_7_1 y37 y38 ((Sp.v_19 y39).1) ((Sp.v_19 y39).2.1) ((Sp.v_19 y41).1) ((Sp.v_19 y41).2.1) ((Sp.v_17 y40).1) y40 y41) (fun y62 y63 => some (y62 == y63)) (some false) fun y64 y65 y66 => some ((Sp.v_33 ((Sp.v_31 y66 y64 (Sp.v_34.1)).1) y65).1) else Sp.B_7_1 (Sp.J_7_1 y37 y38 ((Sp.v_19 y39).1) ((Sp.v_19 y39).2.1) ((Sp.v_19 y41).1) ((Sp.v_19 y41).2.1) ((Sp.v_17 y40).1) y40 y41) (fun y67 y68 => some (y67 == y68)) (some false) fun y69 y70 y71 => some ((Sp.v_33 ((Sp.v_31 y71 y69 (Sp.v_34.1)).1) y70).1))))))))))))
theorem fn_7 (a0 : (((List Int) × ((List Int) × (Int × Unit))) × ((List Int) × Unit))) (a1 : Int) (a2 : Int) : evFnL sm_7 FU (ovr noO (evFn sm_7 fns FU 0)) (ir7_t O_7_7_0 O_7_7_1) ir7 (ofH [Zy7_2, (.int .u8), (.int .u32)] (a0, a1, a2, ())) [] bk = F_7 a0 a1 a2 := by kernel_rfl
theorem run_7 (a0 : (((List Int) × ((List Int) × (Int × Unit))) × ((List Int) × Unit))) (a1 : Int) (a2 : Int) {b : Bool} (h : F_7 a0 a1 a2 = some b) : evFn sm_7 fns FU 1 7 (ofH [Zy7_2, (.int .u8), (.int .u32)] (a0, a1, a2, ())) [] bk = some b :=
  evFnL_sound (fn := ir7) (t := (ir7_t O_7_7_0 O_7_7_1)) (o := noO) rfl noO_ok (ir7_tok (fun T k r => OK_7_7_0 T k r) (fun T k r => OK_7_7_1 T k r)) ((fn_7 _ _ _).trans h)
end
end Go.Ev
namespace Go.Proofs
open Go.Shelf
noncomputable def Try.clone61_ren : Go.Shelf.Ren := ⟨fun | 41 => 61 | n => n, fun | 22 => 22 | 23 => 42 | 4 => 4 | n => n, fun | n => n⟩
theorem Try.clone61 : Go.Proofs.SlLaysE0.n41 Try.prog Try.clone61_ren := {
  mixed := by kernel_rfl
  f41 := ⟨Try.f61.name, by decide, Try.func61.trans (congrArg some (by kernel_rfl))⟩
  t4 := Try.underlying4
  a4 := Try.isAgg4
  z4 := Try.sizeOf4
  v4 := Try.zeroValue4
  t22 := Try.underlying22
  a22 := Try.isAgg22
  z22 := Try.sizeOf22
  v22 := Try.zeroValue22 }
noncomputable def Try.clone103_ren : Go.Shelf.Ren := ⟨fun | 41 => 103 | n => n, fun | 22 => 23 | 23 => 3 | 4 => 4 | n => n, fun | n => n⟩
theorem Try.clone103 : Go.Proofs.SlLaysE0.n41 Try.prog Try.clone103_ren := {
  mixed := by kernel_rfl
  f41 := ⟨Try.f103.name, by decide, Try.func103.trans (congrArg some (by kernel_rfl))⟩
  t4 := Try.underlying4
  a4 := Try.isAgg4
  z4 := Try.sizeOf4
  v4 := Try.zeroValue4
  t22 := Try.underlying23
  a22 := Try.isAgg23
  z22 := Try.sizeOf23
  v22 := Try.zeroValue23 }
end Go.Proofs
namespace Go.Ev
open Go Go.Proofs Go.RowKit
set_option maxRecDepth 100000
set_option maxHeartbeats 4000000
noncomputable def smB : Nat → Bool := fun f => [10, 11, 12, 13, 14, 15, 16, 17, 18, 19, 20, 21, 22, 23, 24, 25, 26, 27, 28, 29, 30, 31, 32, 33, 34, 35, 36, 37, 38, 39, 40, 41, 42, 43, 44, 45, 46, 47, 48, 49, 50, 51, 52, 53, 54, 55, 56, 57, 58, 59, 60, 61, 62, 63, 64, 65, 66, 69, 70, 71, 72, 73, 74, 77, 78, 79, 81, 83, 84, 85, 86, 87, 88, 89, 90, 91, 94, 95, 96, 97, 99, 100, 101, 102, 103, 104, 105, 106, 107, 108].contains f
theorem hm0 : Try.prog.follows .mixedOrders = true := by kernel_rfl
theorem key7 : fnKey Try.prog smB 7 = ir7.key := by kernel_rfl
theorem key10 : fnKey Try.prog smB 10 = ir10.key := by kernel_rfl
theorem key11 : fnKey Try.prog smB 11 = ir11.key := by kernel_rfl
theorem key12 : fnKey Try.prog smB 12 = ir12.key := by kernel_rfl
theorem key13 : fnKey Try.prog smB 13 = ir13.key := by kernel_rfl
theorem key14 : fnKey Try.prog smB 14 = ir14.key := by kernel_rfl
theorem key17 : fnKey Try.prog smB 17 = ir17.key := by kernel_rfl
theorem key19 : fnKey Try.prog smB 19 = ir19.key := by kernel_rfl
theorem key20 : fnKey Try.prog smB 20 = ir20.key := by kernel_rfl
theorem key22 : fnKey Try.prog smB 22 = ir22.key := by kernel_rfl
theorem key24 : fnKey Try.prog smB 24 = ir24.key := by kernel_rfl
theorem key31 : fnKey Try.prog smB 31 = ir31.key := by kernel_rfl
theorem key33 : fnKey Try.prog smB 33 = ir33.key := by kernel_rfl
theorem key34 : fnKey Try.prog smB 34 = ir34.key := by kernel_rfl
theorem key35 : fnKey Try.prog smB 35 = ir35.key := by kernel_rfl
theorem key40 : fnKey Try.prog smB 40 = ir40.key := by kernel_rfl
theorem key41 : fnKey Try.prog smB 41 = ir41.key := by kernel_rfl
theorem key42 : fnKey Try.prog smB 42 = ir42.key := by kernel_rfl
theorem key43 : fnKey Try.prog smB 43 = ir43.key := by kernel_rfl
theorem key44 : fnKey Try.prog smB 44 = ir44.key := by kernel_rfl
theorem key45 : fnKey Try.prog smB 45 = ir45.key := by kernel_rfl
theorem key46 : fnKey Try.prog smB 46 = ir46.key := by kernel_rfl
theorem key47 : fnKey Try.prog smB 47 = ir47.key := by kernel_rfl
theorem key51 : fnKey Try.prog smB 51 = ir51.key := by kernel_rfl
theorem key53 : fnKey Try.prog smB 53 = ir53.key := by kernel_rfl
theorem key60 : fnKey Try.prog smB 60 = ir60.key := by kernel_rfl
theorem key63 : fnKey Try.prog smB 63 = ir63.key := by kernel_rfl
theorem key66 : fnKey Try.prog smB 66 = ir66.key := by kernel_rfl
theorem key67 : fnKey Try.prog smB 67 = ir67.key := by kernel_rfl
theorem key68 : fnKey Try.prog smB 68 = ir68.key := by kernel_rfl
theorem key69 : fnKey Try.prog smB 69 = ir69.key := by kernel_rfl
theorem key70 : fnKey Try.prog smB 70 = ir70.key := by kernel_rfl
theorem key73 : fnKey Try.prog smB 73 = ir73.key := by kernel_rfl
theorem key75 : fnKey Try.prog smB 75 = ir75.key := by kernel_rfl
theorem key76 : fnKey Try.prog smB 76 = ir76.key := by kernel_rfl
theorem key77 : fnKey Try.prog smB 77 = ir77.key := by kernel_rfl
theorem key78 : fnKey Try.prog smB 78 = ir78.key := by kernel_rfl
theorem key79 : fnKey Try.prog smB 79 = ir79.key := by kernel_rfl
theorem key80 : fnKey Try.prog smB 80 = ir80.key := by kernel_rfl
theorem key81 : fnKey Try.prog smB 81 = ir81.key := by kernel_rfl
theorem key89 : fnKey Try.prog smB 89 = ir89.key := by kernel_rfl
theorem key91 : fnKey Try.prog smB 91 = ir91.key := by kernel_rfl
theorem key92 : fnKey Try.prog smB 92 = ir92.key := by kernel_rfl
theorem key93 : fnKey Try.prog smB 93 = ir93.key := by kernel_rfl
theorem key95 : fnKey Try.prog smB 95 = ir95.key := by kernel_rfl
theorem key96 : fnKey Try.prog smB 96 = ir96.key := by kernel_rfl
theorem key98 : fnKey Try.prog smB 98 = ir98.key := by kernel_rfl
theorem key99 : fnKey Try.prog smB 99 = ir99.key := by kernel_rfl
theorem key102 : fnKey Try.prog smB 102 = ir102.key := by kernel_rfl
theorem key104 : fnKey Try.prog smB 104 = ir104.key := by kernel_rfl
theorem key107 : fnKey Try.prog smB 107 = ir107.key := by kernel_rfl
theorem key108 : fnKey Try.prog smB 108 = ir108.key := by kernel_rfl
theorem fns_ok : FnsOK Try.prog smB fns := by
  intro f fn h
  unfold fns at h
  split at h
  · simp only [Option.some.injEq] at h; subst h; exact key7
  · simp only [Option.some.injEq] at h; subst h; exact key10
  · simp only [Option.some.injEq] at h; subst h; exact key11
  · simp only [Option.some.injEq] at h; subst h; exact key12
  · simp only [Option.some.injEq] at h; subst h; exact key13
  · simp only [Option.some.injEq] at h; subst h; exact key14
  · simp only [Option.some.injEq] at h; subst h; exact key17
  · simp only [Option.some.injEq] at h; subst h; exact key19
  · simp only [Option.some.injEq] at h; subst h; exact key20
  · simp only [Option.some.injEq] at h; subst h; exact key22
  · simp only [Option.some.injEq] at h; subst h; exact key24
  · simp only [Option.some.injEq] at h; subst h; exact key31
  · simp only [Option.some.injEq] at h; subst h; exact key33
  · simp only [Option.some.injEq] at h; subst h; exact key34
  · simp only [Option.some.injEq] at h; subst h; exact key35
  · simp only [Option.some.injEq] at h; subst h; exact key40
  · simp only [Option.some.injEq] at h; subst h; exact key41
  · simp only [Option.some.injEq] at h; subst h; exact key42
  · simp only [Option.some.injEq] at h; subst h; exact key43
  · simp only [Option.some.injEq] at h; subst h; exact key44
  · simp only [Option.some.injEq] at h; subst h; exact key45
  · simp only [Option.some.injEq] at h; subst h; exact key46
  · simp only [Option.some.injEq] at h; subst h; exact key47
  · simp only [Option.some.injEq] at h; subst h; exact key51
  · simp only [Option.some.injEq] at h; subst h; exact key53
  · simp only [Option.some.injEq] at h; subst h; exact key60
  · simp only [Option.some.injEq] at h; subst h; exact key63
  · simp only [Option.some.injEq] at h; subst h; exact key66
  · simp only [Option.some.injEq] at h; subst h; exact key67
  · simp only [Option.some.injEq] at h; subst h; exact key68
  · simp only [Option.some.injEq] at h; subst h; exact key69
  · simp only [Option.some.injEq] at h; subst h; exact key70
  · simp only [Option.some.injEq] at h; subst h; exact key73
  · simp only [Option.some.injEq] at h; subst h; exact key75
  · simp only [Option.some.injEq] at h; subst h; exact key76
  · simp only [Option.some.injEq] at h; subst h; exact key77
  · simp only [Option.some.injEq] at h; subst h; exact key78
  · simp only [Option.some.injEq] at h; subst h; exact key79
  · simp only [Option.some.injEq] at h; subst h; exact key80
  · simp only [Option.some.injEq] at h; subst h; exact key81
  · simp only [Option.some.injEq] at h; subst h; exact key89
  · simp only [Option.some.injEq] at h; subst h; exact key91
  · simp only [Option.some.injEq] at h; subst h; exact key92
  · simp only [Option.some.injEq] at h; subst h; exact key93
  · simp only [Option.some.injEq] at h; subst h; exact key95
  · simp only [Option.some.injEq] at h; subst h; exact key96
  · simp only [Option.some.injEq] at h; subst h; exact key98
  · simp only [Option.some.injEq] at h; subst h; exact key99
  · simp only [Option.some.injEq] at h; subst h; exact key102
  · simp only [Option.some.injEq] at h; subst h; exact key104
  · simp only [Option.some.injEq] at h; subst h; exact key107
  · simp only [Option.some.injEq] at h; subst h; exact key108
  · cases h
theorem info61 : ∃ i, Try.prog.info? 42 = some i ∧ i.zero = some (.int .u32 0) ∧ i.size = 1 ∧ i.bytes = 4 := ⟨_, rfl, by kernel_rfl, by kernel_rfl, by kernel_rfl⟩
theorem sok_61 : SummOK Try.prog 61 (vecS (.int .u32) 42 4) := by
  obtain ⟨i, hi, h0, h1, h2⟩ := info61
  exact clone_vec (by kernel_rfl) (by decide)
    (fun b off n c news w hl hn hb hc h3 => AnyE.slices_Clone Try.clone61 i _ 1 4 hi h0 h1 h2 (by kernel_rfl) (by decide) Try.sizeOf42 b off n c news w hl hn hb hc h3)
    (fun n c w => AnyE.slices_Clone_nil Try.clone61 n c w)
    (fun a c w => clone_zero Try.clone61 i _ 1 4 hi h0 h1 h2 (by kernel_rfl) (by decide) Try.sizeOf42 a c w)
theorem info103 : ∃ i, Try.prog.info? 3 = some i ∧ i.zero = some (.int .i64 0) ∧ i.size = 1 ∧ i.bytes = 8 := ⟨_, rfl, by kernel_rfl, by kernel_rfl, by kernel_rfl⟩
theorem sok_103 : SummOK Try.prog 103 (vecS (.int .i64) 3 8) := by
  obtain ⟨i, hi, h0, h1, h2⟩ := info103
  exact clone_vec (by kernel_rfl) (by decide)
    (fun b off n c news w hl hn hb hc h3 => AnyE.slices_Clone Try.clone103 i _ 1 8 hi h0 h1 h2 (by kernel_rfl) (by decide) Try.sizeOf3 b off n c news w hl hn hb hc h3)
    (fun n c w => AnyE.slices_Clone_nil Try.clone103 n c w)
    (fun a c w => clone_zero Try.clone103 i _ 1 8 hi h0 h1 h2 (by kernel_rfl) (by decide) Try.sizeOf3 a c w)
noncomputable def grow77_ren : Go.Shelf.Ren := ⟨fun | 4 => 77 | n => n, fun | 25 => 42 | 22 => 22 | n => n, fun | n => n⟩
theorem grow77_lay : Go.Proofs.Lays8.n4 Try.prog grow77_ren := {
  mixed := by kernel_rfl
  f4 := ⟨Try.f77.name, by decide, Try.func77.trans (congrArg some (by kernel_rfl))⟩
  t0 := Try.underlying0
  a0 := Try.isAgg0
  z0 := Try.sizeOf0
  v0 := Try.zeroValue0
  t3 := Try.underlying3
  a3 := Try.isAgg3
  z3 := Try.sizeOf3
  v3 := Try.zeroValue3
  t4 := Try.underlying4
  a4 := Try.isAgg4
  z4 := Try.sizeOf4
  v4 := Try.zeroValue4
  t9 := Try.underlying9
  a9 := Try.isAgg9
  z9 := Try.sizeOf9
  v9 := Try.zeroValue9
  t20 := Try.underlying20
  a20 := Try.isAgg20
  z20 := Try.sizeOf20
  v20 := Try.zeroValue20
  t22 := Try.underlying22
  a22 := Try.isAgg22
  z22 := Try.sizeOf22
  v22 := Try.zeroValue22 }
theorem growinfo77 : ∃ i, Try.prog.info? 42 = some i ∧ i.zero = some (.int .u32 0) ∧ i.size = 1 ∧ i.bytes = 4 := ⟨_, rfl, by kernel_rfl, by kernel_rfl, by kernel_rfl⟩
theorem sok_77 : SummOK Try.prog 77 (growS (.int .u32) 42 4) := by
  obtain ⟨i, hi, h0, h1, h2⟩ := growinfo77
  exact grow_vec (by kernel_rfl) (by decide) (fun n w hn hb => grow_calls grow77_lay i _ 1 4 hi h0 h1 h2 (by decide) (by decide) (by rfl) n w hn hb)
theorem smok_40 : ∀ f s, sm_40 f = some s → SummOK Try.prog f s := by
  intro f s h
  unfold sm_40 at h
  cases h
theorem call_40 {R : Type} (n base : Nat) : CallOK Try.prog base (evFn (R := R) sm_40 fns FU n) := ev_sound hm0 smok_40 (fun f s h => (smok_40 f s h).2.1) fns_ok n
theorem sok_40 : SummOK Try.prog 40 s_40 := summ_shN (by decide) (fun _ => rfl) (fun _ => rfl) (call_40 4) (by kernel_rfl) run_40
theorem smok_41 : ∀ f s, sm_41 f = some s → SummOK Try.prog f s := by
  intro f s h
  unfold sm_41 at h
  cases h
theorem call_41 {R : Type} (n base : Nat) : CallOK Try.prog base (evFn (R := R) sm_41 fns FU n) := ev_sound hm0 smok_41 (fun f s h => (smok_41 f s h).2.1) fns_ok n
theorem sok_41 : SummOK Try.prog 41 s_41 := summ_shN (by decide) (fun _ => rfl) (fun _ => rfl) (call_41 1) (by kernel_rfl) run_41
theorem smok_12 : ∀ f s, sm_12 f = some s → SummOK Try.prog f s := by
  intro f s h
  unfold sm_12 at h
  by_cases h40 : f = 40
  · subst h40
    injection h with h
    subst h
    exact sok_40
  rw [nbeq_ne h40, cond_false] at h
  by_cases h41 : f = 41
  · subst h41
    injection h with h
    subst h
    exact sok_41
  rw [nbeq_ne h41, cond_false] at h
  cases h
theorem call_12 {R : Type} (n base : Nat) : CallOK Try.prog base (evFn (R := R) sm_12 fns FU n) := ev_sound hm0 smok_12 (fun f s h => (smok_12 f s h).2.1) fns_ok n
theorem sok_12 : SummOK Try.prog 12 s_12 := summ_shN (by decide) (fun _ => rfl) (fun _ => rfl) (call_12 1) (by kernel_rfl) run_12
theorem smok_42 : ∀ f s, sm_42 f = some s → SummOK Try.prog f s := by
  intro f s h
  unfold sm_42 at h
  cases h
theorem call_42 {R : Type} (n base : Nat) : CallOK Try.prog base (evFn (R := R) sm_42 fns FU n) := ev_sound hm0 smok_42 (fun f s h => (smok_42 f s h).2.1) fns_ok n
theorem sok_42 : SummOK Try.prog 42 s_42 := summ_sh (fun _ => rfl) (fun _ => rfl) (call_42 1) (by kernel_rfl) run_42
theorem smok_46 : ∀ f s, sm_46 f = some s → SummOK Try.prog f s := by
  intro f s h
  unfold sm_46 at h
  cases h
theorem call_46 {R : Type} (n base : Nat) : CallOK Try.prog base (evFn (R := R) sm_46 fns FU n) := ev_sound hm0 smok_46 (fun f s h => (smok_46 f s h).2.1) fns_ok n
theorem sok_46 : SummOK Try.prog 46 s_46 := summ_shN (by decide) (fun _ => rfl) (fun _ => rfl) (call_46 1) (by kernel_rfl) run_46
theorem smok_44 : ∀ f s, sm_44 f = some s → SummOK Try.prog f s := by
  intro f s h
  unfold sm_44 at h
  cases h
theorem call_44 {R : Type} (n base : Nat) : CallOK Try.prog base (evFn (R := R) sm_44 fns FU n) := ev_sound hm0 smok_44 (fun f s h => (smok_44 f s h).2.1) fns_ok n
theorem sok_44 : SummOK Try.prog 44 s_44 := summ_sh (fun _ => rfl) (fun _ => rfl) (call_44 1) (by kernel_rfl) run_44
theorem smok_81 : ∀ f s, sm_81 f = some s → SummOK Try.prog f s := by
  intro f s h
  unfold sm_81 at h
  cases h
theorem call_81 {R : Type} (n base : Nat) : CallOK Try.prog base (evFn (R := R) sm_81 fns FU n) := ev_sound hm0 smok_81 (fun f s h => (smok_81 f s h).2.1) fns_ok n
theorem sok_81 : SummOK Try.prog 81 s_81 := summ_sh (fun _ => rfl) (fun _ => rfl) (call_81 2) (by kernel_rfl) run_81
theorem smok_47 : ∀ f s, sm_47 f = some s → SummOK Try.prog f s := by
  intro f s h
  unfold sm_47 at h
  by_cases h44 : f = 44
  · subst h44
    injection h with h
    subst h
    exact sok_44
  rw [nbeq_ne h44, cond_false] at h
  by_cases h81 : f = 81
  · subst h81
    injection h with h
    subst h
    exact sok_81
  rw [nbeq_ne h81, cond_false] at h
  by_cases h99 : f = 99
  · subst h99
    injection h with h
    subst h
    exact sok_99
  rw [nbeq_ne h99, cond_false] at h
  cases h
theorem call_47 {R : Type} (n base : Nat) : CallOK Try.prog base (evFn (R := R) sm_47 fns FU n) := ev_sound hm0 smok_47 (fun f s h => (smok_47 f s h).2.1) fns_ok n
theorem sok_47 : SummOK Try.prog 47 s_47 := summ_sh (fun _ => rfl) (fun _ => rfl) (call_47 3) (by kernel_rfl) run_47
theorem smok_14 : ∀ f s, sm_14 f = some s → SummOK Try.prog f s := by
  intro f s h
  unfold sm_14 at h
  by_cases h12 : f = 12
  · subst h12
    injection h with h
    subst h
    exact sok_12
  rw [nbeq_ne h12, cond_false] at h
  by_cases h42 : f = 42
  · subst h42
    injection h with h
    subst h
    exact sok_42
  rw [nbeq_ne h42, cond_false] at h
  by_cases h46 : f = 46
  · subst h46
    injection h with h
    subst h
    exact sok_46
  rw [nbeq_ne h46, cond_false] at h
  by_cases h47 : f = 47
  · subst h47
    injection h with h
    subst h
    exact sok_47
  rw [nbeq_ne h47, cond_false] at h
  cases h
theorem call_14 {R : Type} (n base : Nat) : CallOK Try.prog base (evFn (R := R) sm_14 fns FU n) := ev_sound hm0 smok_14 (fun f s h => (smok_14 f s h).2.1) fns_ok n
theorem sok_14 : SummOK Try.prog 14 s_14 := summ_sh (fun _ => rfl) (fun _ => rfl) (call_14 1) (by kernel_rfl) run_14
theorem smok_66 : ∀ f s, sm_66 f = some s → SummOK Try.prog f s := by
  intro f s h
  unfold sm_66 at h
  cases h
theorem call_66 {R : Type} (n base : Nat) : CallOK Try.prog base (evFn (R := R) sm_66 fns FU n) := ev_sound hm0 smok_66 (fun f s h => (smok_66 f s h).2.1) fns_ok n
theorem sok_66 : SummOK Try.prog 66 s_66 := summ_shN (by decide) (fun _ => rfl) (fun _ => rfl) (call_66 1) (by kernel_rfl) run_66
theorem smok_95 : ∀ f s, sm_95 f = some s → SummOK Try.prog f s := by
  intro f s h
  unfold sm_95 at h
  cases h
theorem call_95 {R : Type} (n base : Nat) : CallOK Try.prog base (evFn (R := R) sm_95 fns FU n) := ev_sound hm0 smok_95 (fun f s h => (smok_95 f s h).2.1) fns_ok n
theorem sok_95 : SummOK Try.prog 95 s_95 := summ_shN (by decide) (fun _ => rfl) (fun _ => rfl) (call_95 1) (by kernel_rfl) run_95
theorem smok_104 : ∀ f s, sm_104 f = some s → SummOK Try.prog f s := by
  intro f s h
  unfold sm_104 at h
  cases h
theorem call_104 {R : Type} (n base : Nat) : CallOK Try.prog base (evFn (R := R) sm_104 fns FU n) := ev_sound hm0 smok_104 (fun f s h => (smok_104 f s h).2.1) fns_ok n
theorem sok_104 : SummOK Try.prog 104 s_104 := summ_shN (by decide) (fun _ => rfl) (fun _ => rfl) (call_104 1) (by kernel_rfl) run_104
theorem smok_96 : ∀ f s, sm_96 f = some s → SummOK Try.prog f s := by
  intro f s h
  unfold sm_96 at h
  by_cases h104 : f = 104
  · subst h104
    injection h with h
    subst h
    exact sok_104
  rw [nbeq_ne h104, cond_false] at h
  cases h
theorem call_96 {R : Type} (n base : Nat) : CallOK Try.prog base (evFn (R := R) sm_96 fns FU n) := ev_sound hm0 smok_96 (fun f s h => (smok_96 f s h).2.1) fns_ok n
theorem sok_96 : SummOK Try.prog 96 s_96 := summ_shN (by decide) (fun _ => rfl) (fun _ => rfl) (call_96 1) (by kernel_rfl) run_96
theorem smok_35 : ∀ f s, sm_35 f = some s → SummOK Try.prog f s := by
  intro f s h
  unfold sm_35 at h
  by_cases h66 : f = 66
  · subst h66
    injection h with h
    subst h
    exact sok_66
  rw [nbeq_ne h66, cond_false] at h
  by_cases h95 : f = 95
  · subst h95
    injection h with h
    subst h
    exact sok_95
  rw [nbeq_ne h95, cond_false] at h
  by_cases h96 : f = 96
  · subst h96
    injection h with h
    subst h
    exact sok_96
  rw [nbeq_ne h96, cond_false] at h
  cases h
theorem call_35 {R : Type} (n base : Nat) : CallOK Try.prog base (evFn (R := R) sm_35 fns FU n) := ev_sound hm0 smok_35 (fun f s h => (smok_35 f s h).2.1) fns_ok n
theorem sok_35 : SummOK Try.prog 35 s_35 := summ_shN (by decide) (fun _ => rfl) (fun _ => rfl) (call_35 2) (by kernel_rfl) run_35
theorem smok_43 : ∀ f s, sm_43 f = some s → SummOK Try.prog f s := by
  intro f s h
  unfold sm_43 at h
  by_cases h77 : f = 77
  · subst h77
    injection h with h
    subst h
    exact sok_77
  rw [nbeq_ne h77, cond_false] at h
  cases h
theorem call_43 {R : Type} (n base : Nat) : CallOK Try.prog base (evFn (R := R) sm_43 fns FU n) := ev_sound hm0 smok_43 (fun f s h => (smok_43 f s h).2.1) fns_ok n
theorem sok_43 : SummOK Try.prog 43 s_43 := summ_sh (fun _ => rfl) (fun _ => rfl) (call_43 1) (by kernel_rfl) run_43
theorem smok_69 : ∀ f s, sm_69 f = some s → SummOK Try.prog f s := by
  intro f s h
  unfold sm_69 at h
  cases h
theorem call_69 {R : Type} (n base : Nat) : CallOK Try.prog base (evFn (R := R) sm_69 fns FU n) := ev_sound hm0 smok_69 (fun f s h => (smok_69 f s h).2.1) fns_ok n
theorem sok_69 : SummOK Try.prog 69 s_69 := summ_sh (fun _ => rfl) (fun _ => rfl) (call_69 1) (by kernel_rfl) run_69
theorem smok_70 : ∀ f s, sm_70 f = some s → SummOK Try.prog f s := by
  intro f s h
  unfold sm_70 at h
  by_cases h35 : f = 35
  · subst h35
    injection h with h
    subst h
    exact sok_35
  rw [nbeq_ne h35, cond_false] at h
  cases h
theorem call_70 {R : Type} (n base : Nat) : CallOK Try.prog base (evFn (R := R) sm_70 fns FU n) := ev_sound hm0 smok_70 (fun f s h => (smok_70 f s h).2.1) fns_ok n
theorem sok_70 : SummOK Try.prog 70 s_70 := summ_shN (by decide) (fun _ => rfl) (fun _ => rfl) (call_70 1) (by kernel_rfl) run_70
theorem smok_73 : ∀ f s, sm_73 f = some s → SummOK Try.prog f s := by
  intro f s h
  unfold sm_73 at h
  by_cases h35 : f = 35
  · subst h35
    injection h with h
    subst h
    exact sok_35
  rw [nbeq_ne h35, cond_false] at h
  cases h
theorem call_73 {R : Type} (n base : Nat) : CallOK Try.prog base (evFn (R := R) sm_73 fns FU n) := ev_sound hm0 smok_73 (fun f s h => (smok_73 f s h).2.1) fns_ok n
theorem sok_73 : SummOK Try.prog 73 s_73 := summ_shN (by decide) (fun _ => rfl) (fun _ => rfl) (call_73 1) (by kernel_rfl) run_73
theorem smok_78 : ∀ f s, sm_78 f = some s → SummOK Try.prog f s := by
  intro f s h
  unfold sm_78 at h
  cases h
theorem call_78 {R : Type} (n base : Nat) : CallOK Try.prog base (evFn (R := R) sm_78 fns FU n) := ev_sound hm0 smok_78 (fun f s h => (smok_78 f s h).2.1) fns_ok n
theorem sok_78 : SummOK Try.prog 78 s_78 := summ_shN (by decide) (fun _ => rfl) (fun _ => rfl) (call_78 1) (by kernel_rfl) run_78
theorem smok_79 : ∀ f s, sm_79 f = some s → SummOK Try.prog f s := by
  intro f s h
  unfold sm_79 at h
  by_cases h35 : f = 35
  · subst h35
    injection h with h
    subst h
    exact sok_35
  rw [nbeq_ne h35, cond_false] at h
  cases h
theorem call_79 {R : Type} (n base : Nat) : CallOK Try.prog base (evFn (R := R) sm_79 fns FU n) := ev_sound hm0 smok_79 (fun f s h => (smok_79 f s h).2.1) fns_ok n
theorem sok_79 : SummOK Try.prog 79 s_79 := summ_shN (by decide) (fun _ => rfl) (fun _ => rfl) (call_79 1) (by kernel_rfl) run_79
theorem smok_45 : ∀ f s, sm_45 f = some s → SummOK Try.prog f s := by
  intro f s h
  unfold sm_45 at h
  by_cases h69 : f = 69
  · subst h69
    injection h with h
    subst h
    exact sok_69
  rw [nbeq_ne h69, cond_false] at h
  by_cases h70 : f = 70
  · subst h70
    injection h with h
    subst h
    exact sok_70
  rw [nbeq_ne h70, cond_false] at h
  by_cases h73 : f = 73
  · subst h73
    injection h with h
    subst h
    exact sok_73
  rw [nbeq_ne h73, cond_false] at h
  by_cases h78 : f = 78
  · subst h78
    injection h with h
    subst h
    exact sok_78
  rw [nbeq_ne h78, cond_false] at h
  by_cases h79 : f = 79
  · subst h79
    injection h with h
    subst h
    exact sok_79
  rw [nbeq_ne h79, cond_false] at h
  cases h
theorem call_45 {R : Type} (n base : Nat) : CallOK Try.prog base (evFn (R := R) sm_45 fns FU n) := ev_sound hm0 smok_45 (fun f s h => (smok_45 f s h).2.1) fns_ok n
theorem sok_45 : SummOK Try.prog 45 s_45 := summ_shN (by decide) (fun _ => rfl) (fun _ => rfl) (call_45 1) (by kernel_rfl) run_45
theorem smok_13 : ∀ f s, sm_13 f = some s → SummOK Try.prog f s := by
  intro f s h
  unfold sm_13 at h
  by_cases h14 : f = 14
  · subst h14
    injection h with h
    subst h
    exact sok_14
  rw [nbeq_ne h14, cond_false] at h
  by_cases h35 : f = 35
  · subst h35
    injection h with h
    subst h
    exact sok_35
  rw [nbeq_ne h35, cond_false] at h
  by_cases h42 : f = 42
  · subst h42
    injection h with h
    subst h
    exact sok_42
  rw [nbeq_ne h42, cond_false] at h
  by_cases h43 : f = 43
  · subst h43
    injection h with h
    subst h
    exact sok_43
  rw [nbeq_ne h43, cond_false] at h
  by_cases h44 : f = 44
  · subst h44
    injection h with h
    subst h
    exact sok_44
  rw [nbeq_ne h44, cond_false] at h
  by_cases h45 : f = 45
  · subst h45
    injection h with h
    subst h
    exact sok_45
  rw [nbeq_ne h45, cond_false] at h
  cases h
theorem call_13 {R : Type} (n base : Nat) : CallOK Try.prog base (evFn (R := R) sm_13 fns FU n) := ev_sound hm0 smok_13 (fun f s h => (smok_13 f s h).2.1) fns_ok n
theorem sok_13 : SummOK Try.prog 13 s_13 := summ_shN (by decide) (fun _ => rfl) (fun _ => rfl) (call_13 1) (by kernel_rfl) run_13
theorem smok_51 : ∀ f s, sm_51 f = some s → SummOK Try.prog f s := by
  intro f s h
  unfold sm_51 at h
  by_cases h42 : f = 42
  · subst h42
    injection h with h
    subst h
    exact sok_42
  rw [nbeq_ne h42, cond_false] at h
  cases h
theorem call_51 {R : Type} (n base : Nat) : CallOK Try.prog base (evFn (R := R) sm_51 fns FU n) := ev_sound hm0 smok_51 (fun f s h => (smok_51 f s h).2.1) fns_ok n
theorem sok_51 : SummOK Try.prog 51 s_51 := summ_shN (by decide) (fun _ => rfl) (fun _ => rfl) (call_51 1) (by kernel_rfl) run_51
theorem smok_17 : ∀ f s, sm_17 f = some s → SummOK Try.prog f s := by
  intro f s h
  unfold sm_17 at h
  by_cases h12 : f = 12
  · subst h12
    injection h with h
    subst h
    exact sok_12
  rw [nbeq_ne h12, cond_false] at h
  by_cases h13 : f = 13
  · subst h13
    injection h with h
    subst h
    exact sok_13
  rw [nbeq_ne h13, cond_false] at h
  by_cases h14 : f = 14
  · subst h14
    injection h with h
    subst h
    exact sok_14
  rw [nbeq_ne h14, cond_false] at h
  by_cases h51 : f = 51
  · subst h51
    injection h with h
    subst h
    exact sok_51
  rw [nbeq_ne h51, cond_false] at h
  cases h
theorem call_17 {R : Type} (n base : Nat) : CallOK Try.prog base (evFn (R := R) sm_17 fns FU n) := ev_sound hm0 smok_17 (fun f s h => (smok_17 f s h).2.1) fns_ok n
theorem sok_17 : SummOK Try.prog 17 s_17 := summ_shN (by decide) (fun _ => rfl) (fun _ => rfl) (call_17 1) (by kernel_rfl) run_17
theorem smok_107 : ∀ f s, sm_107 f = some s → SummOK Try.prog f s := by
  intro f s h
  unfold sm_107 at h
  cases h
theorem call_107 {R : Type} (n base : Nat) : CallOK Try.prog base (evFn (R := R) sm_107 fns FU n) := ev_sound hm0 smok_107 (fun f s h => (smok_107 f s h).2.1) fns_ok n
theorem sok_107 : SummOK Try.prog 107 s_107 := summ_shN (by decide) (fun _ => rfl) (fun _ => rfl) (call_107 1) (by kernel_rfl) run_107
theorem smok_108 : ∀ f s, sm_108 f = some s → SummOK Try.prog f s := by
  intro f s h
  unfold sm_108 at h
  cases h
theorem call_108 {R : Type} (n base : Nat) : CallOK Try.prog base (evFn (R := R) sm_108 fns FU n) := ev_sound hm0 smok_108 (fun f s h => (smok_108 f s h).2.1) fns_ok n
theorem sok_108 : SummOK Try.prog 108 s_108 := summ_shN (by decide) (fun _ => rfl) (fun _ => rfl) (call_108 1) (by kernel_rfl) run_108
theorem smok_102 : ∀ f s, sm_102 f = some s → SummOK Try.prog f s := by
  intro f s h
  unfold sm_102 at h
  by_cases h107 : f = 107
  · subst h107
    injection h with h
    subst h
    exact sok_107
  rw [nbeq_ne h107, cond_false] at h
  by_cases h108 : f = 108
  · subst h108
    injection h with h
    subst h
    exact sok_108
  rw [nbeq_ne h108, cond_false] at h
  cases h
theorem call_102 {R : Type} (n base : Nat) : CallOK Try.prog base (evFn (R := R) sm_102 fns FU n) := ev_sound hm0 smok_102 (fun f s h => (smok_102 f s h).2.1) fns_ok n
theorem sok_102 : SummOK Try.prog 102 s_102 := summ_shN (by decide) (fun _ => rfl) (fun _ => rfl) (call_102 1) (by kernel_rfl) run_102
theorem smok_89 : ∀ f s, sm_89 f = some s → SummOK Try.prog f s := by
  intro f s h
  unfold sm_89 at h
  by_cases h102 : f = 102
  · subst h102
    injection h with h
    subst h
    exact sok_102
  rw [nbeq_ne h102, cond_false] at h
  cases h
theorem call_89 {R : Type} (n base : Nat) : CallOK Try.prog base (evFn (R := R) sm_89 fns FU n) := ev_sound hm0 smok_89 (fun f s h => (smok_89 f s h).2.1) fns_ok n
theorem sok_89 : SummOK Try.prog 89 s_89 := summ_sh (fun _ => rfl) (fun _ => rfl) (call_89 1) (by kernel_rfl) run_89
theorem smok_53 : ∀ f s, sm_53 f = some s → SummOK Try.prog f s := by
  intro f s h
  unfold sm_53 at h
  by_cases h89 : f = 89
  · subst h89
    injection h with h
    subst h
    exact sok_89
  rw [nbeq_ne h89, cond_false] at h
  cases h
theorem call_53 {R : Type} (n base : Nat) : CallOK Try.prog base (evFn (R := R) sm_53 fns FU n) := ev_sound hm0 smok_53 (fun f s h => (smok_53 f s h).2.1) fns_ok n
theorem sok_53 : SummOK Try.prog 53 s_53 := summ_sh (fun _ => rfl) (fun _ => rfl) (call_53 1) (by kernel_rfl) run_53
theorem smok_22 : ∀ f s, sm_22 f = some s → SummOK Try.prog f s := by
  intro f s h
  unfold sm_22 at h
  by_cases h41 : f = 41
  · subst h41
    injection h with h
    subst h
    exact sok_41
  rw [nbeq_ne h41, cond_false] at h
  by_cases h53 : f = 53
  · subst h53
    injection h with h
    subst h
    exact sok_53
  rw [nbeq_ne h53, cond_false] at h
  cases h
theorem call_22 {R : Type} (n base : Nat) : CallOK Try.prog base (evFn (R := R) sm_22 fns FU n) := ev_sound hm0 smok_22 (fun f s h => (smok_22 f s h).2.1) fns_ok n
theorem sok_22 : SummOK Try.prog 22 s_22 := summ_sh (fun _ => rfl) (fun _ => rfl) (call_22 1) (by kernel_rfl) run_22
theorem smok_10 : ∀ f s, sm_10 f = some s → SummOK Try.prog f s := by
  intro f s h
  unfold sm_10 at h
  by_cases h14 : f = 14
  · subst h14
    injection h with h
    subst h
    exact sok_14
  rw [nbeq_ne h14, cond_false] at h
  by_cases h17 : f = 17
  · subst h17
    injection h with h
    subst h
    exact sok_17
  rw [nbeq_ne h17, cond_false] at h
  by_cases h22 : f = 22
  · subst h22
    injection h with h
    subst h
    exact sok_22
  rw [nbeq_ne h22, cond_false] at h
  cases h
theorem call_10 {R : Type} (n base : Nat) : CallOK Try.prog base (evFn (R := R) sm_10 fns FU n) := ev_sound hm0 smok_10 (fun f s h => (smok_10 f s h).2.1) fns_ok n
theorem sok_10 : SummOK Try.prog 10 s_10 := summ_shN (by decide) (fun _ => rfl) (fun _ => rfl) (call_10 1) (by kernel_rfl) run_10
theorem smok_11 : ∀ f s, sm_11 f = some s → SummOK Try.prog f s := by
  intro f s h
  unfold sm_11 at h
  cases h
theorem call_11 {R : Type} (n base : Nat) : CallOK Try.prog base (evFn (R := R) sm_11 fns FU n) := ev_sound hm0 smok_11 (fun f s h => (smok_11 f s h).2.1) fns_ok n
theorem sok_11 : SummOK Try.prog 11 s_11 := summ_shN (by decide) (fun _ => rfl) (fun _ => rfl) (call_11 1) (by kernel_rfl) run_11
theorem smok_19 : ∀ f s, sm_19 f = some s → SummOK Try.prog f s := by
  intro f s h
  unfold sm_19 at h
  by_cases h17 : f = 17
  · subst h17
    injection h with h
    subst h
    exact sok_17
  rw [nbeq_ne h17, cond_false] at h
  cases h
theorem call_19 {R : Type} (n base : Nat) : CallOK Try.prog base (evFn (R := R) sm_19 fns FU n) := ev_sound hm0 smok_19 (fun f s h => (smok_19 f s h).2.1) fns_ok n
theorem sok_19 : SummOK Try.prog 19 s_19 := summ_shN (by decide) (fun _ => rfl) (fun _ => rfl) (call_19 1) (by kernel_rfl) run_19
theorem smok_20 : ∀ f s, sm_20 f = some s → SummOK Try.prog f s := by
  intro f s h
  unfold sm_20 at h
  by_cases h14 : f = 14
  · subst h14
    injection h with h
    subst h
    exact sok_14
  rw [nbeq_ne h14, cond_false] at h
  by_cases h19 : f = 19
  · subst h19
    injection h with h
    subst h
    exact sok_19
  rw [nbeq_ne h19, cond_false] at h
  cases h
theorem call_20 {R : Type} (n base : Nat) : CallOK Try.prog base (evFn (R := R) sm_20 fns FU n) := ev_sound hm0 smok_20 (fun f s h => (smok_20 f s h).2.1) fns_ok n
theorem sok_20 : SummOK Try.prog 20 s_20 := summ_shN (by decide) (fun _ => rfl) (fun _ => rfl) (call_20 1) (by kernel_rfl) run_20
theorem smok_34 : ∀ f s, sm_34 f = some s → SummOK Try.prog f s := by
  intro f s h
  unfold sm_34 at h
  cases h
theorem call_34 {R : Type} (n base : Nat) : CallOK Try.prog base (evFn (R := R) sm_34 fns FU n) := ev_sound hm0 smok_34 (fun f s h => (smok_34 f s h).2.1) fns_ok n
theorem sok_34 : SummOK Try.prog 34 s_34 := summ_shN (by decide) (fun _ => rfl) (fun _ => rfl) (call_34 1) (by kernel_rfl) run_34
theorem smok_60 : ∀ f s, sm_60 f = some s → SummOK Try.prog f s := by
  intro f s h
  unfold sm_60 at h
  by_cases h12 : f = 12
  · subst h12
    injection h with h
    subst h
    exact sok_12
  rw [nbeq_ne h12, cond_false] at h
  by_cases h13 : f = 13
  · subst h13
    injection h with h
    subst h
    exact sok_13
  rw [nbeq_ne h13, cond_false] at h
  by_cases h46 : f = 46
  · subst h46
    injection h with h
    subst h
    exact sok_46
  rw [nbeq_ne h46, cond_false] at h
  cases h
theorem call_60 {R : Type} (n base : Nat) : CallOK Try.prog base (evFn (R := R) sm_60 fns FU n) := ev_sound hm0 smok_60 (fun f s h => (smok_60 f s h).2.1) fns_ok n
theorem sok_60 : SummOK Try.prog 60 s_60 := summ_shN (by decide) (fun _ => rfl) (fun _ => rfl) (call_60 1) (by kernel_rfl) run_60
theorem smok_91 : ∀ f s, sm_91 f = some s → SummOK Try.prog f s := by
  intro f s h
  unfold sm_91 at h
  by_cases h40 : f = 40
  · subst h40
    injection h with h
    subst h
    exact sok_40
  rw [nbeq_ne h40, cond_false] at h
  cases h
theorem call_91 {R : Type} (n base : Nat) : CallOK Try.prog base (evFn (R := R) sm_91 fns FU n) := ev_sound hm0 smok_91 (fun f s h => (smok_91 f s h).2.1) fns_ok n
theorem sok_91 : SummOK Try.prog 91 s_91 := summ_shN (by decide) (fun _ => rfl) (fun _ => rfl) (call_91 1) (by kernel_rfl) run_91
theorem smok_63 : ∀ f s, sm_63 f = some s → SummOK Try.prog f s := by
  intro f s h
  unfold sm_63 at h
  by_cases h61 : f = 61
  · subst h61
    injection h with h
    subst h
    exact sok_61
  rw [nbeq_ne h61, cond_false] at h
  by_cases h91 : f = 91
  · subst h91
    injection h with h
    subst h
    exact sok_91
  rw [nbeq_ne h91, cond_false] at h
  by_cases h103 : f = 103
  · subst h103
    injection h with h
    subst h
    exact sok_103
  rw [nbeq_ne h103, cond_false] at h
  cases h
theorem call_63 {R : Type} (n base : Nat) : CallOK Try.prog base (evFn (R := R) sm_63 fns FU n) := ev_sound hm0 smok_63 (fun f s h => (smok_63 f s h).2.1) fns_ok n
theorem sok_63 : SummOK Try.prog 63 s_63 := summ_sh (fun _ => rfl) (fun _ => rfl) (call_63 3) (by kernel_rfl) run_63
theorem smok_31 : ∀ f s, sm_31 f = some s → SummOK Try.prog f s := by
  intro f s h
  unfold sm_31 at h
  by_cases h14 : f = 14
  · subst h14
    injection h with h
    subst h
    exact sok_14
  rw [nbeq_ne h14, cond_false] at h
  by_cases h20 : f = 20
  · subst h20
    injection h with h
    subst h
    exact sok_20
  rw [nbeq_ne h20, cond_false] at h
  by_cases h34 : f = 34
  · subst h34
    injection h with h
    subst h
    exact sok_34
  rw [nbeq_ne h34, cond_false] at h
  by_cases h51 : f = 51
  · subst h51
    injection h with h
    subst h
    exact sok_51
  rw [nbeq_ne h51, cond_false] at h
  by_cases h60 : f = 60
  · subst h60
    injection h with h
    subst h
    exact sok_60
  rw [nbeq_ne h60, cond_false] at h
  by_cases h63 : f = 63
  · subst h63
    injection h with h
    subst h
    exact sok_63
  rw [nbeq_ne h63, cond_false] at h
  cases h
theorem call_31 {R : Type} (n base : Nat) : CallOK Try.prog base (evFn (R := R) sm_31 fns FU n) := ev_sound hm0 smok_31 (fun f s h => (smok_31 f s h).2.1) fns_ok n
theorem sok_31 : SummOK Try.prog 31 s_31 := summ_sh (fun _ => rfl) (fun _ => rfl) (call_31 1) (by kernel_rfl) run_31
theorem smok_24 : ∀ f s, sm_24 f = some s → SummOK Try.prog f s := by
  intro f s h
  unfold sm_24 at h
  cases h
theorem call_24 {R : Type} (n base : Nat) : CallOK Try.prog base (evFn (R := R) sm_24 fns FU n) := ev_sound hm0 smok_24 (fun f s h => (smok_24 f s h).2.1) fns_ok n
theorem sok_24 : SummOK Try.prog 24 s_24 := summ_shN (by decide) (fun _ => rfl) (fun _ => rfl) (call_24 1) (by kernel_rfl) run_24
theorem smok_33 : ∀ f s, sm_33 f = some s → SummOK Try.prog f s := by
  intro f s h
  unfold sm_33 at h
  by_cases h24 : f = 24
  · subst h24
    injection h with h
    subst h
    exact sok_24
  rw [nbeq_ne h24, cond_false] at h
  cases h
theorem call_33 {R : Type} (n base : Nat) : CallOK Try.prog base (evFn (R := R) sm_33 fns FU n) := ev_sound hm0 smok_33 (fun f s h => (smok_33 f s h).2.1) fns_ok n
theorem sok_33 : SummOK Try.prog 33 s_33 := summ_shN (by decide) (fun _ => rfl) (fun _ => rfl) (call_33 1) (by kernel_rfl) run_33
theorem smok_7 : ∀ f s, sm_7 f = some s → SummOK Try.prog f s := by
  intro f s h
  unfold sm_7 at h
  by_cases h10 : f = 10
  · subst h10
    injection h with h
    subst h
    exact sok_10
  rw [nbeq_ne h10, cond_false] at h
  by_cases h11 : f = 11
  · subst h11
    injection h with h
    subst h
    exact sok_11
  rw [nbeq_ne h11, cond_false] at h
  by_cases h12 : f = 12
  · subst h12
    injection h with h
    subst h
    exact sok_12
  rw [nbeq_ne h12, cond_false] at h
  by_cases h17 : f = 17
  · subst h17
    injection h with h
    subst h
    exact sok_17
  rw [nbeq_ne h17, cond_false] at h
  by_cases h19 : f = 19
  · subst h19
    injection h with h
    subst h
    exact sok_19
  rw [nbeq_ne h19, cond_false] at h
  by_cases h31 : f = 31
  · subst h31
    injection h with h
    subst h
    exact sok_31
  rw [nbeq_ne h31, cond_false] at h
  by_cases h33 : f = 33
  · subst h33
    injection h with h
    subst h
    exact sok_33
  rw [nbeq_ne h33, cond_false] at h
  by_cases h34 : f = 34
  · subst h34
    injection h with h
    subst h
    exact sok_34
  rw [nbeq_ne h34, cond_false] at h
  cases h
theorem call_7 {R : Type} (n base : Nat) : CallOK Try.prog base (evFn (R := R) sm_7 fns FU n) := ev_sound hm0 smok_7 (fun f s h => (smok_7 f s h).2.1) fns_ok n
end Go.Ev
