/- Helpers: functions of the program as Lean functions, and what they compute. No condition. -/
import Derived.Test.YtfofdehkgkjbbaaE4P2
import Derived.Test.YtfofdehkgkjbbaaG4P0
set_option maxRecDepth 10000
set_option linter.unusedVariables false
set_option linter.unusedSimpArgs false
namespace Go.Ev
open Go
set_option maxRecDepth 100000
set_option maxHeartbeats 4000000
set_option linter.unusedVariables false
noncomputable section
abbrev Zy35_0 : Ty := (Ty.arr (64 : Nat) (Ty.int IntKind.u32))
abbrev Zy35_1 : Ty := (Ty.arr (8 : Nat) (Ty.int IntKind.u32))
abbrev Zy35_2 : Ty := (Ty.arr (32 : Nat) (Ty.int IntKind.u8))
abbrev Zy35_3 : Ty := (Ty.arr (128 : Nat) (Ty.int IntKind.u8))

noncomputable def sm_35 : Nat → Option Summ := fun f => bif Nat.beq f 66 then some s_66 else bif Nat.beq f 95 then some s_95 else bif Nat.beq f 96 then some s_96 else none
noncomputable def T_35_67_0_0 (p0 : List Int) (p1 : Int) (p2 : List Int) (p3 : List Int) (p4 : List Int) (p5 : List Int) : St := St.mk ([CV.ptr (1 : Nat) [], CV.ptr (2 : Nat) [], CV.pure (Ty.slice (Ty.int IntKind.u8)) p0, jk, jk, jk, CV.ptr (3 : Nat) []] ++ (jl 13 ++ ([CV.int IntKind.i64 p1] ++ (jl 155)))) [Blk.mem (CV.pure Zy35_2 p2), Blk.mem (CV.pure Zy35_1 p3), Blk.mem (CV.pure Zy35_0 p4), Blk.mem (CV.pure Zy35_0 p5)] (3 : Nat)
noncomputable def X_35_67_0_0_0 (p2 : List Int) (p3 : List Int) (p4 : List Int) (p5 : List Int) : St := St.mk ([CV.ptr (1 : Nat) [], CV.ptr (2 : Nat) [], jk, jk, jk, jk, CV.ptr (3 : Nat) []] ++ (jl 169)) [Blk.mem (CV.pure Zy35_2 p2), Blk.mem (CV.pure Zy35_1 p3), Blk.mem (CV.pure Zy35_0 p4), Blk.mem (CV.pure Zy35_0 p5)] (3 : Nat)
inductive Sp.E_35_67_0_0 where
  | e0 (p2 : List Int) (p3 : List Int) (p4 : List Int) (p5 : List Int)
noncomputable def Sp.B_35_67_0_0 {R : Type} (r : Option Sp.E_35_67_0_0) (k0 : (List Int) → (List Int) → (List Int) → (List Int) → Option R) : Option R := match r with
  | none => none
  | some (.e0 p2 p3 p4 p5) => k0 p2 p3 p4 p5
noncomputable def Sp.L_35_67_0_0 : Nat → (List Int) → (Int) → (List Int) → (List Int) → (List Int) → (List Int) → Option Sp.E_35_67_0_0
  | 0, _, _, _, _, _, _ => none
  | m + 1, p0, p1, p2, p3, p4, p5 => bif decide (p1 < (16 : Int)) then gd (sl3 (IntKind.wrap IntKind.i64 ((4 : Int) * p1)) (↑(List.length p0) : Int) (↑(List.length p0) : Int)) (gd (Sp.p_95 (List.drop (Int.toNat (IntKind.wrap IntKind.i64 ((4 : Int) * p1))) p0)) (gd (inB p1 (64 : Nat)) (gd (decide (Int.toNat p1 < (64 : Nat)) && true) (Sp.L_35_67_0_0 m p0 (IntKind.wrap IntKind.i64 (p1 + (1 : Int))) p2 p3 p4 (List.set p5 (Int.toNat p1) ((Sp.v_95 (List.drop (Int.toNat (IntKind.wrap IntKind.i64 ((4 : Int) * p1))) p0)).1)))))) else some (Sp.E_35_67_0_0.e0 p2 p3 p4 p5)
noncomputable def G_35_67_0_0 {R : Type} (p0 : List Int) (p1 : Int) (p2 : List Int) (p3 : List Int) (p4 : List Int) (p5 : List Int) (k : Ex → St → Option R) : Option R := Sp.B_35_67_0_0 (Sp.L_35_67_0_0 FU p0 p1 p2 p3 p4 p5) (fun p2 p3 p4 p5 => k (Ex.exit (0 : Nat)) (X_35_67_0_0_0 p2 p3 p4 p5))
noncomputable def m_35_67_0_0 : St → Bool := fun T => match T.sl.getD 0 .junk, T.sl.getD 1 .junk, T.sl.getD 2 .junk, T.sl.getD 6 .junk, T.sl.getD 20 .junk, T.hp with
  | CV.ptr (1 : Nat) [], CV.ptr (2 : Nat) [], CV.pure (Ty.slice (Ty.int IntKind.u8)) p0, CV.ptr (3 : Nat) [], CV.int IntKind.i64 p1, ((Blk.mem (CV.pure (Ty.arr (32 : Nat) (Ty.int IntKind.u8)) p2)) :: (Blk.mem (CV.pure (Ty.arr (8 : Nat) (Ty.int IntKind.u32)) p3)) :: (Blk.mem (CV.pure (Ty.arr (64 : Nat) (Ty.int IntKind.u32)) p4)) :: (Blk.mem (CV.pure (Ty.arr (64 : Nat) (Ty.int IntKind.u32)) p5)) :: []) => shapeOK T 176 [0, 1, 2, 6, 20] (3 : Nat)
  | _, _, _, _, _, _ => false
noncomputable def o_35_67_0_0 {R : Type} (G : (List Int) → (Int) → (List Int) → (List Int) → (List Int) → (List Int) → (Ex → St → Option R) → Option R) : St → (Ex → St → Option R) → Option R := fun T k => match T.sl.getD 0 .junk, T.sl.getD 1 .junk, T.sl.getD 2 .junk, T.sl.getD 6 .junk, T.sl.getD 20 .junk, T.hp with
  | CV.ptr (1 : Nat) [], CV.ptr (2 : Nat) [], CV.pure (Ty.slice (Ty.int IntKind.u8)) p0, CV.ptr (3 : Nat) [], CV.int IntKind.i64 p1, ((Blk.mem (CV.pure (Ty.arr (32 : Nat) (Ty.int IntKind.u8)) p2)) :: (Blk.mem (CV.pure (Ty.arr (8 : Nat) (Ty.int IntKind.u32)) p3)) :: (Blk.mem (CV.pure (Ty.arr (64 : Nat) (Ty.int IntKind.u32)) p4)) :: (Blk.mem (CV.pure (Ty.arr (64 : Nat) (Ty.int IntKind.u32)) p5)) :: []) => gd (shapeOK T 176 [0, 1, 2, 6, 20] (3 : Nat)) (G p0 p1 p2 p3 p4 p5 k)
  | _, _, _, _, _, _ => none
theorem o_35_67_0_0_inv {R : Type} {G : (List Int) → (Int) → (List Int) → (List Int) → (List Int) → (List Int) → (Ex → St → Option R) → Option R} {T : St} {k : Ex → St → Option R} {r : R} (h : o_35_67_0_0 G T k = some r) : ∃ p0 p1 p2 p3 p4 p5, T = T_35_67_0_0 p0 p1 p2 p3 p4 p5 ∧ G p0 p1 p2 p3 p4 p5 k = some r := by
  unfold o_35_67_0_0 at h
  split at h
  · obtain ⟨hs, h'⟩ := gd_some h
    refine ⟨_, _, _, _, _, _, (st_of (asg := [(0, _), (1, _), (2, _), (6, _), (20, _)]) hs ⟨by assumption, by assumption, by assumption, by assumption, by assumption, trivial⟩ (by assumption)).trans ?_, h'⟩
    kernel_rfl
  · cases h
noncomputable def T_35_67_1_0 (p0 : Int) (p1 : List Int) (p2 : List Int) (p3 : List Int) (p4 : List Int) : St := St.mk ([CV.ptr (1 : Nat) [], CV.ptr (2 : Nat) [], jk, jk, jk, jk, CV.ptr (3 : Nat) [], jk, CV.int IntKind.i64 p0] ++ (jl 167)) [Blk.mem (CV.pure Zy35_2 p1), Blk.mem (CV.pure Zy35_1 p2), Blk.mem (CV.pure Zy35_0 p3), Blk.mem (CV.pure Zy35_0 p4)] (3 : Nat)
noncomputable def X_35_67_1_0_0 (p1 : List Int) (p2 : List Int) (p3 : List Int) (p4 : List Int) : St := St.mk ([CV.ptr (1 : Nat) [], CV.ptr (2 : Nat) [], jk, jk, jk, jk, CV.ptr (3 : Nat) []] ++ (jl 169)) [Blk.mem (CV.pure Zy35_2 p1), Blk.mem (CV.pure Zy35_1 p2), Blk.mem (CV.pure Zy35_0 p3), Blk.mem (CV.pure Zy35_0 p4)] (3 : Nat)
inductive Sp.E_35_67_1_0 where
  | e0 (p1 : List Int) (p2 : List Int) (p3 : List Int) (p4 : List Int)
noncomputable def Sp.B_35_67_1_0 {R : Type} (r : Option Sp.E_35_67_1_0) (k0 : (List Int) → (List Int) → (List Int) → (List Int) → Option R) : Option R := match r with
  | none => none
  | some (.e0 p1 p2 p3 p4) => k0 p1 p2 p3 p4
noncomputable def Sp.L_35_67_1_0 : Nat → (Int) → (List Int) → (List Int) → (List Int) → (List Int) → Option Sp.E_35_67_1_0
  | 0, _, _, _, _, _ => none
  | m + 1, p0, p1, p2, p3, p4 => bif decide (p0 < (64 : Int)) then gd (inB (IntKind.wrap IntKind.i64 (p0 - (15 : Int))) (64 : Nat)) (gd (decide (Int.toNat (IntKind.wrap IntKind.i64 (p0 - (15 : Int))) < (64 : Nat)) && true) (gd (inB (IntKind.wrap IntKind.i64 (p0 - (2 : Int))) (64 : Nat)) (gd (decide (Int.toNat (IntKind.wrap IntKind.i64 (p0 - (2 : Int))) < (64 : Nat)) && true) (gd (Sp.p_96 (List.getD p4 (Int.toNat (IntKind.wrap IntKind.i64 (p0 - (15 : Int)))) (0 : Int)) (7 : Int)) (gd (Sp.p_96 (List.getD p4 (Int.toNat (IntKind.wrap IntKind.i64 (p0 - (15 : Int)))) (0 : Int)) (18 : Int)) (gd (Sp.p_96 (List.getD p4 (Int.toNat (IntKind.wrap IntKind.i64 (p0 - (2 : Int)))) (0 : Int)) (17 : Int)) (gd (Sp.p_96 (List.getD p4 (Int.toNat (IntKind.wrap IntKind.i64 (p0 - (2 : Int)))) (0 : Int)) (19 : Int)) (gd (inB (IntKind.wrap IntKind.i64 (p0 - (7 : Int))) (64 : Nat)) (gd (decide (Int.toNat (IntKind.wrap IntKind.i64 (p0 - (7 : Int))) < (64 : Nat)) && true) (gd (inB (IntKind.wrap IntKind.i64 (p0 - (16 : Int))) (64 : Nat)) (gd (decide (Int.toNat (IntKind.wrap IntKind.i64 (p0 - (16 : Int))) < (64 : Nat)) && true) (gd (inB p0 (64 : Nat)) (gd (decide (Int.toNat p0 < (64 : Nat)) && true) (Sp.L_35_67_1_0 m (IntKind.wrap IntKind.i64 (p0 + (1 : Int))) p1 p2 p3 (List.set p4 (Int.toNat p0) (IntKind.wrap IntKind.u32 (IntKind.wrap IntKind.u32 (IntKind.wrap IntKind.u32 (Sp.xorI IntKind.u32 (Sp.xorI IntKind.u32 ((Sp.v_96 (List.getD p4 (Int.toNat (IntKind.wrap IntKind.i64 (p0 - (2 : Int)))) (0 : Int)) (17 : Int)).1) ((Sp.v_96 (List.getD p4 (Int.toNat (IntKind.wrap IntKind.i64 (p0 - (2 : Int)))) (0 : Int)) (19 : Int)).1)) (Int.fdiv (List.getD p4 (Int.toNat (IntKind.wrap IntKind.i64 (p0 - (2 : Int)))) (0 : Int)) (1024 : Int)) + List.getD p4 (Int.toNat (IntKind.wrap IntKind.i64 (p0 - (7 : Int)))) (0 : Int)) + Sp.xorI IntKind.u32 (Sp.xorI IntKind.u32 ((Sp.v_96 (List.getD p4 (Int.toNat (IntKind.wrap IntKind.i64 (p0 - (15 : Int)))) (0 : Int)) (7 : Int)).1) ((Sp.v_96 (List.getD p4 (Int.toNat (IntKind.wrap IntKind.i64 (p0 - (15 : Int)))) (0 : Int)) (18 : Int)).1)) (Int.fdiv (List.getD p4 (Int.toNat (IntKind.wrap IntKind.i64 (p0 - (15 : Int)))) (0 : Int)) (8 : Int))) + List.getD p4 (Int.toNat (IntKind.wrap IntKind.i64 (p0 - (16 : Int)))) (0 : Int)))))))))))))))))) else some (Sp.E_35_67_1_0.e0 p1 p2 p3 p4)
noncomputable def G_35_67_1_0 {R : Type} (p0 : Int) (p1 : List Int) (p2 : List Int) (p3 : List Int) (p4 : List Int) (k : Ex → St → Option R) : Option R := Sp.B_35_67_1_0 (Sp.L_35_67_1_0 FU p0 p1 p2 p3 p4) (fun p1 p2 p3 p4 => k (Ex.exit (2 : Nat)) (X_35_67_1_0_0 p1 p2 p3 p4))
noncomputable def m_35_67_1_0 : St → Bool := fun T => match T.sl.getD 0 .junk, T.sl.getD 1 .junk, T.sl.getD 6 .junk, T.sl.getD 8 .junk, T.hp with
  | CV.ptr (1 : Nat) [], CV.ptr (2 : Nat) [], CV.ptr (3 : Nat) [], CV.int IntKind.i64 p0, ((Blk.mem (CV.pure (Ty.arr (32 : Nat) (Ty.int IntKind.u8)) p1)) :: (Blk.mem (CV.pure (Ty.arr (8 : Nat) (Ty.int IntKind.u32)) p2)) :: (Blk.mem (CV.pure (Ty.arr (64 : Nat) (Ty.int IntKind.u32)) p3)) :: (Blk.mem (CV.pure (Ty.arr (64 : Nat) (Ty.int IntKind.u32)) p4)) :: []) => shapeOK T 176 [0, 1, 6, 8] (3 : Nat)
  | _, _, _, _, _ => false
noncomputable def o_35_67_1_0 {R : Type} (G : (Int) → (List Int) → (List Int) → (List Int) → (List Int) → (Ex → St → Option R) → Option R) : St → (Ex → St → Option R) → Option R := fun T k => match T.sl.getD 0 .junk, T.sl.getD 1 .junk, T.sl.getD 6 .junk, T.sl.getD 8 .junk, T.hp with
  | CV.ptr (1 : Nat) [], CV.ptr (2 : Nat) [], CV.ptr (3 : Nat) [], CV.int IntKind.i64 p0, ((Blk.mem (CV.pure (Ty.arr (32 : Nat) (Ty.int IntKind.u8)) p1)) :: (Blk.mem (CV.pure (Ty.arr (8 : Nat) (Ty.int IntKind.u32)) p2)) :: (Blk.mem (CV.pure (Ty.arr (64 : Nat) (Ty.int IntKind.u32)) p3)) :: (Blk.mem (CV.pure (Ty.arr (64 : Nat) (Ty.int IntKind.u32)) p4)) :: []) => gd (shapeOK T 176 [0, 1, 6, 8] (3 : Nat)) (G p0 p1 p2 p3 p4 k)
  | _, _, _, _, _ => none
theorem o_35_67_1_0_inv {R : Type} {G : (Int) → (List Int) → (List Int) → (List Int) → (List Int) → (Ex → St → Option R) → Option R} {T : St} {k : Ex → St → Option R} {r : R} (h : o_35_67_1_0 G T k = some r) : ∃ p0 p1 p2 p3 p4, T = T_35_67_1_0 p0 p1 p2 p3 p4 ∧ G p0 p1 p2 p3 p4 k = some r := by
  unfold o_35_67_1_0 at h
  split at h
  · obtain ⟨hs, h'⟩ := gd_some h
    refine ⟨_, _, _, _, _, (st_of (asg := [(0, _), (1, _), (6, _), (8, _)]) hs ⟨by assumption, by assumption, by assumption, by assumption, trivial⟩ (by assumption)).trans ?_, h'⟩
    kernel_rfl
  · cases h
noncomputable def T_35_67_2_0 (p0 : Int) (p1 : List Int) (p2 : List Int) (p3 : List Int) (p4 : List Int) (p5 : List Int) : St := St.mk ([CV.ptr (1 : Nat) [], CV.ptr (2 : Nat) [], jk, jk, jk, jk, CV.ptr (3 : Nat) []] ++ (jl 6 ++ ([CV.ptr (4 : Nat) []] ++ (jl 63 ++ ([CV.int IntKind.i64 p0] ++ (jl 98)))))) [Blk.mem (CV.pure Zy35_2 p1), Blk.mem (CV.pure Zy35_1 p2), Blk.mem (CV.pure Zy35_0 p3), Blk.mem (CV.pure Zy35_0 p4), Blk.mem (CV.pure Zy35_1 p5)] (3 : Nat)
noncomputable def X_35_67_2_0_0 (p1 : List Int) (p2 : List Int) (p3 : List Int) (p5 : List Int) : St := St.mk ([CV.ptr (1 : Nat) []] ++ (jl 12 ++ ([CV.ptr (3 : Nat) []] ++ (jl 162)))) [Blk.mem (CV.pure Zy35_2 p1), Blk.mem (CV.pure Zy35_1 p2), Blk.mem (CV.pure Zy35_0 p3), Blk.mem (CV.pure Zy35_1 p5)] (3 : Nat)
inductive Sp.E_35_67_2_0 where
  | e0 (p1 : List Int) (p2 : List Int) (p3 : List Int) (p5 : List Int)
noncomputable def Sp.B_35_67_2_0 {R : Type} (r : Option Sp.E_35_67_2_0) (k0 : (List Int) → (List Int) → (List Int) → (List Int) → Option R) : Option R := match r with
  | none => none
  | some (.e0 p1 p2 p3 p5) => k0 p1 p2 p3 p5
noncomputable def Sp.L_35_67_2_0 : Nat → (Int) → (List Int) → (List Int) → (List Int) → (List Int) → (List Int) → Option Sp.E_35_67_2_0
  | 0, _, _, _, _, _, _ => none
  | m + 1, p0, p1, p2, p3, p4, p5 => bif decide (p0 < (64 : Int)) then gd (Sp.p_96 (List.getD p5 (4 : Nat) (0 : Int)) (6 : Int)) (gd (Sp.p_96 (List.getD p5 (4 : Nat) (0 : Int)) (11 : Int)) (gd (Sp.p_96 (List.getD p5 (4 : Nat) (0 : Int)) (25 : Int)) (gd (inB p0 (64 : Nat)) (gd (decide (Int.toNat p0 < (64 : Nat)) && true) (gd (inB p0 (64 : Nat)) (gd (decide (Int.toNat p0 < (64 : Nat)) && true) (gd (Sp.p_96 (List.getD p5 (0 : Nat) (0 : Int)) (2 : Int)) (gd (Sp.p_96 (List.getD p5 (0 : Nat) (0 : Int)) (13 : Int)) (gd (Sp.p_96 (List.getD p5 (0 : Nat) (0 : Int)) (22 : Int)) (Sp.L_35_67_2_0 m (IntKind.wrap IntKind.i64 (p0 + (1 : Int))) p1 p2 p3 p4 [IntKind.wrap IntKind.u32 (IntKind.wrap IntKind.u32 (IntKind.wrap IntKind.u32 (IntKind.wrap IntKind.u32 (IntKind.wrap IntKind.u32 (List.getD p5 (7 : Nat) (0 : Int) + Sp.xorI IntKind.u32 (Sp.xorI IntKind.u32 ((Sp.v_96 (List.getD p5 (4 : Nat) (0 : Int)) (6 : Int)).1) ((Sp.v_96 (List.getD p5 (4 : Nat) (0 : Int)) (11 : Int)).1)) ((Sp.v_96 (List.getD p5 (4 : Nat) (0 : Int)) (25 : Int)).1)) + Sp.xorI IntKind.u32 (Sp.andI IntKind.u32 (List.getD p5 (4 : Nat) (0 : Int)) (List.getD p5 (5 : Nat) (0 : Int))) (Sp.andI IntKind.u32 (Sp.xorI IntKind.u32 (4294967295 : Int) (List.getD p5 (4 : Nat) (0 : Int))) (List.getD p5 (6 : Nat) (0 : Int)))) + List.getD p3 (Int.toNat p0) (0 : Int)) + List.getD p4 (Int.toNat p0) (0 : Int)) + IntKind.wrap IntKind.u32 (Sp.xorI IntKind.u32 (Sp.xorI IntKind.u32 ((Sp.v_96 (List.getD p5 (0 : Nat) (0 : Int)) (2 : Int)).1) ((Sp.v_96 (List.getD p5 (0 : Nat) (0 : Int)) (13 : Int)).1)) ((Sp.v_96 (List.getD p5 (0 : Nat) (0 : Int)) (22 : Int)).1) + Sp.xorI IntKind.u32 (Sp.xorI IntKind.u32 (Sp.andI IntKind.u32 (List.getD p5 (0 : Nat) (0 : Int)) (List.getD p5 (1 : Nat) (0 : Int))) (Sp.andI IntKind.u32 (List.getD p5 (0 : Nat) (0 : Int)) (List.getD p5 (2 : Nat) (0 : Int)))) (Sp.andI IntKind.u32 (List.getD p5 (1 : Nat) (0 : Int)) (List.getD p5 (2 : Nat) (0 : Int))))), List.getD p5 (0 : Nat) (0 : Int), List.getD p5 (1 : Nat) (0 : Int), List.getD p5 (2 : Nat) (0 : Int), IntKind.wrap IntKind.u32 (List.getD p5 (3 : Nat) (0 : Int) + IntKind.wrap IntKind.u32 (IntKind.wrap IntKind.u32 (IntKind.wrap IntKind.u32 (IntKind.wrap IntKind.u32 (List.getD p5 (7 : Nat) (0 : Int) + Sp.xorI IntKind.u32 (Sp.xorI IntKind.u32 ((Sp.v_96 (List.getD p5 (4 : Nat) (0 : Int)) (6 : Int)).1) ((Sp.v_96 (List.getD p5 (4 : Nat) (0 : Int)) (11 : Int)).1)) ((Sp.v_96 (List.getD p5 (4 : Nat) (0 : Int)) (25 : Int)).1)) + Sp.xorI IntKind.u32 (Sp.andI IntKind.u32 (List.getD p5 (4 : Nat) (0 : Int)) (List.getD p5 (5 : Nat) (0 : Int))) (Sp.andI IntKind.u32 (Sp.xorI IntKind.u32 (4294967295 : Int) (List.getD p5 (4 : Nat) (0 : Int))) (List.getD p5 (6 : Nat) (0 : Int)))) + List.getD p3 (Int.toNat p0) (0 : Int)) + List.getD p4 (Int.toNat p0) (0 : Int))), List.getD p5 (4 : Nat) (0 : Int), List.getD p5 (5 : Nat) (0 : Int), List.getD p5 (6 : Nat) (0 : Int)])))))))))) else some (Sp.E_35_67_2_0.e0 p1 p2 p3 p5)
noncomputable def G_35_67_2_0 {R : Type} (p0 : Int) (p1 : List Int) (p2 : List Int) (p3 : List Int) (p4 : List Int) (p5 : List Int) (k : Ex → St → Option R) : Option R := Sp.B_35_67_2_0 (Sp.L_35_67_2_0 FU p0 p1 p2 p3 p4 p5) (fun p1 p2 p3 p5 => k (Ex.exit (4 : Nat)) (X_35_67_2_0_0 p1 p2 p3 p5))
noncomputable def m_35_67_2_0 : St → Bool := fun T => match T.sl.getD 0 .junk, T.sl.getD 1 .junk, T.sl.getD 6 .junk, T.sl.getD 13 .junk, T.sl.getD 77 .junk, T.hp with
  | CV.ptr (1 : Nat) [], CV.ptr (2 : Nat) [], CV.ptr (3 : Nat) [], CV.ptr (4 : Nat) [], CV.int IntKind.i64 p0, ((Blk.mem (CV.pure (Ty.arr (32 : Nat) (Ty.int IntKind.u8)) p1)) :: (Blk.mem (CV.pure (Ty.arr (8 : Nat) (Ty.int IntKind.u32)) p2)) :: (Blk.mem (CV.pure (Ty.arr (64 : Nat) (Ty.int IntKind.u32)) p3)) :: (Blk.mem (CV.pure (Ty.arr (64 : Nat) (Ty.int IntKind.u32)) p4)) :: (Blk.mem (CV.pure (Ty.arr (8 : Nat) (Ty.int IntKind.u32)) p5)) :: []) => shapeOK T 176 [0, 1, 6, 13, 77] (3 : Nat)
  | _, _, _, _, _, _ => false
noncomputable def o_35_67_2_0 {R : Type} (G : (Int) → (List Int) → (List Int) → (List Int) → (List Int) → (List Int) → (Ex → St → Option R) → Option R) : St → (Ex → St → Option R) → Option R := fun T k => match T.sl.getD 0 .junk, T.sl.getD 1 .junk, T.sl.getD 6 .junk, T.sl.getD 13 .junk, T.sl.getD 77 .junk, T.hp with
  | CV.ptr (1 : Nat) [], CV.ptr (2 : Nat) [], CV.ptr (3 : Nat) [], CV.ptr (4 : Nat) [], CV.int IntKind.i64 p0, ((Blk.mem (CV.pure (Ty.arr (32 : Nat) (Ty.int IntKind.u8)) p1)) :: (Blk.mem (CV.pure (Ty.arr (8 : Nat) (Ty.int IntKind.u32)) p2)) :: (Blk.mem (CV.pure (Ty.arr (64 : Nat) (Ty.int IntKind.u32)) p3)) :: (Blk.mem (CV.pure (Ty.arr (64 : Nat) (Ty.int IntKind.u32)) p4)) :: (Blk.mem (CV.pure (Ty.arr (8 : Nat) (Ty.int IntKind.u32)) p5)) :: []) => gd (shapeOK T 176 [0, 1, 6, 13, 77] (3 : Nat)) (G p0 p1 p2 p3 p4 p5 k)
  | _, _, _, _, _, _ => none
theorem o_35_67_2_0_inv {R : Type} {G : (Int) → (List Int) → (List Int) → (List Int) → (List Int) → (List Int) → (Ex → St → Option R) → Option R} {T : St} {k : Ex → St → Option R} {r : R} (h : o_35_67_2_0 G T k = some r) : ∃ p0 p1 p2 p3 p4 p5, T = T_35_67_2_0 p0 p1 p2 p3 p4 p5 ∧ G p0 p1 p2 p3 p4 p5 k = some r := by
  unfold o_35_67_2_0 at h
  split at h
  · obtain ⟨hs, h'⟩ := gd_some h
    refine ⟨_, _, _, _, _, _, (st_of (asg := [(0, _), (1, _), (6, _), (13, _), (77, _)]) hs ⟨by assumption, by assumption, by assumption, by assumption, by assumption, trivial⟩ (by assumption)).trans ?_, h'⟩
    kernel_rfl
  · cases h
noncomputable def T_35_67_3_0 (p0 : Int) (p1 : List Int) (p2 : List Int) (p3 : List Int) (p4 : List Int) : St := St.mk ([CV.ptr (1 : Nat) []] ++ (jl 12 ++ ([CV.ptr (3 : Nat) []] ++ (jl 147 ++ ([CV.int IntKind.i64 p0] ++ (jl 14)))))) [Blk.mem (CV.pure Zy35_2 p1), Blk.mem (CV.pure Zy35_1 p2), Blk.mem (CV.pure Zy35_0 p3), Blk.mem (CV.pure Zy35_1 p4)] (3 : Nat)
noncomputable def X_35_67_3_0_0 (p1 : List Int) (p2 : List Int) (p3 : List Int) : St := St.mk (jl 176) [Blk.mem (CV.pure Zy35_2 p1), Blk.mem (CV.pure Zy35_1 p2), Blk.mem (CV.pure Zy35_0 p3)] (3 : Nat)
inductive Sp.E_35_67_3_0 where
  | e0 (p1 : List Int) (p2 : List Int) (p3 : List Int)
noncomputable def Sp.B_35_67_3_0 {R : Type} (r : Option Sp.E_35_67_3_0) (k0 : (List Int) → (List Int) → (List Int) → Option R) : Option R := match r with
  | none => none
  | some (.e0 p1 p2 p3) => k0 p1 p2 p3
noncomputable def Sp.L_35_67_3_0 : Nat → (Int) → (List Int) → (List Int) → (List Int) → (List Int) → Option Sp.E_35_67_3_0
  | 0, _, _, _, _, _ => none
  | m + 1, p0, p1, p2, p3, p4 => bif decide (p0 < (8 : Int)) then gd (inB p0 (8 : Nat)) (gd (decide (Int.toNat p0 < (8 : Nat)) && true) (gd (inB p0 (8 : Nat)) (gd (decide (Int.toNat p0 < (8 : Nat)) && true) (gd (inB p0 (8 : Nat)) (gd (decide (Int.toNat p0 < (8 : Nat)) && true) (Sp.L_35_67_3_0 m (IntKind.wrap IntKind.i64 (p0 + (1 : Int))) p1 (List.set p2 (Int.toNat p0) (IntKind.wrap IntKind.u32 (List.getD p2 (Int.toNat p0) (0 : Int) + List.getD p4 (Int.toNat p0) (0 : Int)))) p3 p4)))))) else some (Sp.E_35_67_3_0.e0 p1 p2 p3)
noncomputable def G_35_67_3_0 {R : Type} (p0 : Int) (p1 : List Int) (p2 : List Int) (p3 : List Int) (p4 : List Int) (k : Ex → St → Option R) : Option R := Sp.B_35_67_3_0 (Sp.L_35_67_3_0 FU p0 p1 p2 p3 p4) (fun p1 p2 p3 => k (Ex.exit (6 : Nat)) (X_35_67_3_0_0 p1 p2 p3))
noncomputable def m_35_67_3_0 : St → Bool := fun T => match T.sl.getD 0 .junk, T.sl.getD 13 .junk, T.sl.getD 161 .junk, T.hp with
  | CV.ptr (1 : Nat) [], CV.ptr (3 : Nat) [], CV.int IntKind.i64 p0, ((Blk.mem (CV.pure (Ty.arr (32 : Nat) (Ty.int IntKind.u8)) p1)) :: (Blk.mem (CV.pure (Ty.arr (8 : Nat) (Ty.int IntKind.u32)) p2)) :: (Blk.mem (CV.pure (Ty.arr (64 : Nat) (Ty.int IntKind.u32)) p3)) :: (Blk.mem (CV.pure (Ty.arr (8 : Nat) (Ty.int IntKind.u32)) p4)) :: []) => shapeOK T 176 [0, 13, 161] (3 : Nat)
  | _, _, _, _ => false
noncomputable def o_35_67_3_0 {R : Type} (G : (Int) → (List Int) → (List Int) → (List Int) → (List Int) → (Ex → St → Option R) → Option R) : St → (Ex → St → Option R) → Option R := fun T k => match T.sl.getD 0 .junk, T.sl.getD 13 .junk, T.sl.getD 161 .junk, T.hp with
  | CV.ptr (1 : Nat) [], CV.ptr (3 : Nat) [], CV.int IntKind.i64 p0, ((Blk.mem (CV.pure (Ty.arr (32 : Nat) (Ty.int IntKind.u8)) p1)) :: (Blk.mem (CV.pure (Ty.arr (8 : Nat) (Ty.int IntKind.u32)) p2)) :: (Blk.mem (CV.pure (Ty.arr (64 : Nat) (Ty.int IntKind.u32)) p3)) :: (Blk.mem (CV.pure (Ty.arr (8 : Nat) (Ty.int IntKind.u32)) p4)) :: []) => gd (shapeOK T 176 [0, 13, 161] (3 : Nat)) (G p0 p1 p2 p3 p4 k)
  | _, _, _, _ => none
theorem o_35_67_3_0_inv {R : Type} {G : (Int) → (List Int) → (List Int) → (List Int) → (List Int) → (Ex → St → Option R) → Option R} {T : St} {k : Ex → St → Option R} {r : R} (h : o_35_67_3_0 G T k = some r) : ∃ p0 p1 p2 p3 p4, T = T_35_67_3_0 p0 p1 p2 p3 p4 ∧ G p0 p1 p2 p3 p4 k = some r := by
  unfold o_35_67_3_0 at h
  split at h
  · obtain ⟨hs, h'⟩ := gd_some h
    refine ⟨_, _, _, _, _, (st_of (asg := [(0, _), (13, _), (161, _)]) hs ⟨by assumption, by assumption, by assumption, trivial⟩ (by assumption)).trans ?_, h'⟩
    kernel_rfl
  · cases h
noncomputable def T_35_0 (p0 : List Int) (p1 : List Int) (p2 : List Int) (p3 : List Int) (p4 : List Int) : St := St.mk ([CV.pure (Ty.slice (Ty.int IntKind.u8)) p0, jk, CV.ptr (0 : Nat) [], CV.ptr (1 : Nat) [], CV.ptr (2 : Nat) [], CV.pure (Ty.slice (Ty.int IntKind.u8)) p1] ++ (jl 66)) [Blk.mem (CV.pure Zy35_2 p2), Blk.mem (CV.pure Zy35_1 p3), Blk.mem (CV.pure Zy35_0 p4)] (0 : Nat)
noncomputable def X_35_0_0 (p0 : List Int) (p1 : List Int) (p2 : List Int) (p3 : List Int) (p4 : List Int) : St := St.mk ([CV.pure (Ty.slice (Ty.int IntKind.u8)) p0, jk, CV.ptr (0 : Nat) [], CV.ptr (1 : Nat) [], CV.ptr (2 : Nat) [], CV.pure (Ty.slice (Ty.int IntKind.u8)) p1] ++ (jl 66)) [Blk.mem (CV.pure Zy35_2 p2), Blk.mem (CV.pure Zy35_1 p3), Blk.mem (CV.pure Zy35_0 p4)] (0 : Nat)
inductive Sp.E_35_0 where
  | e0 (p0 : List Int) (p1 : List Int) (p2 : List Int) (p3 : List Int) (p4 : List Int)
noncomputable def Sp.B_35_0 {R : Type} (r : Option Sp.E_35_0) (k0 : (List Int) → (List Int) → (List Int) → (List Int) → (List Int) → Option R) : Option R := match r with
  | none => none
  | some (.e0 p0 p1 p2 p3 p4) => k0 p0 p1 p2 p3 p4
noncomputable def Sp.L_35_0 : Nat → (List Int) → (List Int) → (List Int) → (List Int) → (List Int) → Option Sp.E_35_0
  | 0, _, _, _, _, _ => none
  | m + 1, p0, p1, p2, p3, p4 => bif decide ((↑(List.length p1) : Int) ≥ (64 : Int)) then gd (sl3 (0 : Int) (64 : Int) (↑(List.length p1) : Int)) (Sp.B_35_67_0_0 (Sp.L_35_67_0_0 (4611686018427387904 : Nat) (List.take (64 : Nat) (List.drop (0 : Nat) p1)) (0 : Int) p2 p3 p4 (List.replicate (64 : Nat) (0 : Int))) fun y19 y20 y21 y22 => Sp.B_35_67_1_0 (Sp.L_35_67_1_0 (4611686018427387904 : Nat) (16 : Int) y19 y20 y21 y22) fun y23 y24 y25 y26 => Sp.B_35_67_2_0 (Sp.L_35_67_2_0 (4611686018427387904 : Nat) (0 : Int) y23 y24 y25 y26 y24) fun y27 y28 y29 y30 => Sp.B_35_67_3_0 (Sp.L_35_67_3_0 (4611686018427387904 : Nat) (0 : Int) y27 y28 y29 y30) fun y31 y32 y33 => gd (sl3 (64 : Int) (↑(List.length p1) : Int) (↑(List.length p1) : Int)) (Sp.L_35_0 m p0 (List.drop (64 : Nat) p1) y31 y32 y33)) else some (Sp.E_35_0.e0 p0 p1 p2 p3 p4)
noncomputable def G_35_0 {R : Type} (p0 : List Int) (p1 : List Int) (p2 : List Int) (p3 : List Int) (p4 : List Int) (k : Ex → St → Option R) : Option R := Sp.B_35_0 (Sp.L_35_0 FU p0 p1 p2 p3 p4) (fun p0 p1 p2 p3 p4 => k (Ex.exit (0 : Nat)) (X_35_0_0 p0 p1 p2 p3 p4))
noncomputable def o_35_0 {R : Type} (G : (List Int) → (List Int) → (List Int) → (List Int) → (List Int) → (Ex → St → Option R) → Option R) : St → (Ex → St → Option R) → Option R := fun T k => match T.sl.getD 0 .junk, T.sl.getD 2 .junk, T.sl.getD 3 .junk, T.sl.getD 4 .junk, T.sl.getD 5 .junk, T.hp with
  | CV.pure (Ty.slice (Ty.int IntKind.u8)) p0, CV.ptr (0 : Nat) [], CV.ptr (1 : Nat) [], CV.ptr (2 : Nat) [], CV.pure (Ty.slice (Ty.int IntKind.u8)) p1, ((Blk.mem (CV.pure (Ty.arr (32 : Nat) (Ty.int IntKind.u8)) p2)) :: (Blk.mem (CV.pure (Ty.arr (8 : Nat) (Ty.int IntKind.u32)) p3)) :: (Blk.mem (CV.pure (Ty.arr (64 : Nat) (Ty.int IntKind.u32)) p4)) :: []) => gd (shapeOK T 72 [0, 2, 3, 4, 5] (0 : Nat)) (G p0 p1 p2 p3 p4 k)
  | _, _, _, _, _, _ => none
theorem o_35_0_inv {R : Type} {G : (List Int) → (List Int) → (List Int) → (List Int) → (List Int) → (Ex → St → Option R) → Option R} {T : St} {k : Ex → St → Option R} {r : R} (h : o_35_0 G T k = some r) : ∃ p0 p1 p2 p3 p4, T = T_35_0 p0 p1 p2 p3 p4 ∧ G p0 p1 p2 p3 p4 k = some r := by
  unfold o_35_0 at h
  split at h
  · obtain ⟨hs, h'⟩ := gd_some h
    refine ⟨_, _, _, _, _, (st_of (asg := [(0, _), (2, _), (3, _), (4, _), (5, _)]) hs ⟨by assumption, by assumption, by assumption, by assumption, by assumption, trivial⟩ (by assumption)).trans ?_, h'⟩
    kernel_rfl
  · cases h
noncomputable def T_35_67_0_1 (p0 : Nat) (p1 : Nat) (p2 : Nat) (p3 : Int) (p4 : List Int) (p5 : List Int) (p6 : List Int) (p7 : List Int) (p8 : List Int) : St := St.mk ([CV.ptr (1 : Nat) [], CV.ptr (2 : Nat) [], CV.sub (3 : Nat) [] (1 : Nat) p0 p1 (some p2), jk, jk, jk, CV.ptr (4 : Nat) []] ++ (jl 13 ++ ([CV.int IntKind.i64 p3] ++ (jl 155)))) [Blk.mem (CV.pure Zy35_2 p4), Blk.mem (CV.pure Zy35_1 p5), Blk.mem (CV.pure Zy35_0 p6), Blk.mem (CV.pure Zy35_3 p7), Blk.mem (CV.pure Zy35_0 p8)] (4 : Nat)
noncomputable def X_35_67_0_1_0 (p4 : List Int) (p5 : List Int) (p6 : List Int) (p7 : List Int) (p8 : List Int) : St := St.mk ([CV.ptr (1 : Nat) [], CV.ptr (2 : Nat) [], jk, jk, jk, jk, CV.ptr (4 : Nat) []] ++ (jl 169)) [Blk.mem (CV.pure Zy35_2 p4), Blk.mem (CV.pure Zy35_1 p5), Blk.mem (CV.pure Zy35_0 p6), Blk.mem (CV.pure Zy35_3 p7), Blk.mem (CV.pure Zy35_0 p8)] (4 : Nat)
inductive Sp.E_35_67_0_1 where
  | e0 (p4 : List Int) (p5 : List Int) (p6 : List Int) (p7 : List Int) (p8 : List Int)
noncomputable def Sp.B_35_67_0_1 {R : Type} (r : Option Sp.E_35_67_0_1) (k0 : (List Int) → (List Int) → (List Int) → (List Int) → (List Int) → Option R) : Option R := match r with
  | none => none
  | some (.e0 p4 p5 p6 p7 p8) => k0 p4 p5 p6 p7 p8
noncomputable def Sp.L_35_67_0_1 : Nat → (Nat) → (Nat) → (Nat) → (Int) → (List Int) → (List Int) → (List Int) → (List Int) → (List Int) → Option Sp.E_35_67_0_1
  | 0, _, _, _, _, _, _, _, _, _ => none
  | m + 1, p0, p1, p2, p3, p4, p5, p6, p7, p8 => bif decide (p3 < (16 : Int)) then gd (sl3 (IntKind.wrap IntKind.i64 ((4 : Int) * p3)) (↑p1 : Int) (↑p1 : Int)) (gd (decide (p0 + Int.toNat (IntKind.wrap IntKind.i64 ((4 : Int) * p3)) + (Int.toNat (↑p1 : Int) - Int.toNat (IntKind.wrap IntKind.i64 ((4 : Int) * p3))) ≤ (128 : Nat)) && true && Sp.p_95 (List.take (Int.toNat (↑p1 : Int) - Int.toNat (IntKind.wrap IntKind.i64 ((4 : Int) * p3))) (List.drop (p0 + Int.toNat (IntKind.wrap IntKind.i64 ((4 : Int) * p3))) p7))) (gd (inB p3 (64 : Nat)) (gd (decide (Int.toNat p3 < (64 : Nat)) && true) (Sp.L_35_67_0_1 m p0 p1 p2 (IntKind.wrap IntKind.i64 (p3 + (1 : Int))) p4 p5 p6 p7 (List.set p8 (Int.toNat p3) ((Sp.v_95 (List.take (Int.toNat (↑p1 : Int) - Int.toNat (IntKind.wrap IntKind.i64 ((4 : Int) * p3))) (List.drop (p0 + Int.toNat (IntKind.wrap IntKind.i64 ((4 : Int) * p3))) p7))).1)))))) else some (Sp.E_35_67_0_1.e0 p4 p5 p6 p7 p8)
noncomputable def G_35_67_0_1 {R : Type} (p0 : Nat) (p1 : Nat) (p2 : Nat) (p3 : Int) (p4 : List Int) (p5 : List Int) (p6 : List Int) (p7 : List Int) (p8 : List Int) (k : Ex → St → Option R) : Option R := Sp.B_35_67_0_1 (Sp.L_35_67_0_1 FU p0 p1 p2 p3 p4 p5 p6 p7 p8) (fun p4 p5 p6 p7 p8 => k (Ex.exit (0 : Nat)) (X_35_67_0_1_0 p4 p5 p6 p7 p8))
noncomputable def m_35_67_0_1 : St → Bool := fun T => match T.sl.getD 0 .junk, T.sl.getD 1 .junk, T.sl.getD 2 .junk, T.sl.getD 6 .junk, T.sl.getD 20 .junk, T.hp with
  | CV.ptr (1 : Nat) [], CV.ptr (2 : Nat) [], CV.sub (3 : Nat) [] (1 : Nat) p0 p1 (some p2), CV.ptr (4 : Nat) [], CV.int IntKind.i64 p3, ((Blk.mem (CV.pure (Ty.arr (32 : Nat) (Ty.int IntKind.u8)) p4)) :: (Blk.mem (CV.pure (Ty.arr (8 : Nat) (Ty.int IntKind.u32)) p5)) :: (Blk.mem (CV.pure (Ty.arr (64 : Nat) (Ty.int IntKind.u32)) p6)) :: (Blk.mem (CV.pure (Ty.arr (128 : Nat) (Ty.int IntKind.u8)) p7)) :: (Blk.mem (CV.pure (Ty.arr (64 : Nat) (Ty.int IntKind.u32)) p8)) :: []) => shapeOK T 176 [0, 1, 2, 6, 20] (4 : Nat)
  | _, _, _, _, _, _ => false
noncomputable def o_35_67_0_1 {R : Type} (G : (Nat) → (Nat) → (Nat) → (Int) → (List Int) → (List Int) → (List Int) → (List Int) → (List Int) → (Ex → St → Option R) → Option R) : St → (Ex → St → Option R) → Option R := fun T k => match T.sl.getD 0 .junk, T.sl.getD 1 .junk, T.sl.getD 2 .junk, T.sl.getD 6 .junk, T.sl.getD 20 .junk, T.hp with
  | CV.ptr (1 : Nat) [], CV.ptr (2 : Nat) [], CV.sub (3 : Nat) [] (1 : Nat) p0 p1 (some p2), CV.ptr (4 : Nat) [], CV.int IntKind.i64 p3, ((Blk.mem (CV.pure (Ty.arr (32 : Nat) (Ty.int IntKind.u8)) p4)) :: (Blk.mem (CV.pure (Ty.arr (8 : Nat) (Ty.int IntKind.u32)) p5)) :: (Blk.mem (CV.pure (Ty.arr (64 : Nat) (Ty.int IntKind.u32)) p6)) :: (Blk.mem (CV.pure (Ty.arr (128 : Nat) (Ty.int IntKind.u8)) p7)) :: (Blk.mem (CV.pure (Ty.arr (64 : Nat) (Ty.int IntKind.u32)) p8)) :: []) => gd (shapeOK T 176 [0, 1, 2, 6, 20] (4 : Nat)) (G p0 p1 p2 p3 p4 p5 p6 p7 p8 k)
  | _, _, _, _, _, _ => none
theorem o_35_67_0_1_inv {R : Type} {G : (Nat) → (Nat) → (Nat) → (Int) → (List Int) → (List Int) → (List Int) → (List Int) → (List Int) → (Ex → St → Option R) → Option R} {T : St} {k : Ex → St → Option R} {r : R} (h : o_35_67_0_1 G T k = some r) : ∃ p0 p1 p2 p3 p4 p5 p6 p7 p8, T = T_35_67_0_1 p0 p1 p2 p3 p4 p5 p6 p7 p8 ∧ G p0 p1 p2 p3 p4 p5 p6 p7 p8 k = some r := by
  unfold o_35_67_0_1 at h
  split at h
  · obtain ⟨hs, h'⟩ := gd_some h
    refine ⟨_, _, _, _, _, _, _, _, _, (st_of (asg := [(0, _), (1, _), (2, _), (6, _), (20, _)]) hs ⟨by assumption, by assumption, by assumption, by assumption, by assumption, trivial⟩ (by assumption)).trans ?_, h'⟩
    kernel_rfl
  · cases h
noncomputable def T_35_67_1_1 (p0 : Int) (p1 : List Int) (p2 : List Int) (p3 : List Int) (p4 : List Int) (p5 : List Int) : St := St.mk ([CV.ptr (1 : Nat) [], CV.ptr (2 : Nat) [], jk, jk, jk, jk, CV.ptr (4 : Nat) [], jk, CV.int IntKind.i64 p0] ++ (jl 167)) [Blk.mem (CV.pure Zy35_2 p1), Blk.mem (CV.pure Zy35_1 p2), Blk.mem (CV.pure Zy35_0 p3), Blk.mem (CV.pure Zy35_3 p4), Blk.mem (CV.pure Zy35_0 p5)] (4 : Nat)
noncomputable def X_35_67_1_1_0 (p1 : List Int) (p2 : List Int) (p3 : List Int) (p4 : List Int) (p5 : List Int) : St := St.mk ([CV.ptr (1 : Nat) [], CV.ptr (2 : Nat) [], jk, jk, jk, jk, CV.ptr (4 : Nat) []] ++ (jl 169)) [Blk.mem (CV.pure Zy35_2 p1), Blk.mem (CV.pure Zy35_1 p2), Blk.mem (CV.pure Zy35_0 p3), Blk.mem (CV.pure Zy35_3 p4), Blk.mem (CV.pure Zy35_0 p5)] (4 : Nat)
inductive Sp.E_35_67_1_1 where
  | e0 (p1 : List Int) (p2 : List Int) (p3 : List Int) (p4 : List Int) (p5 : List Int)
noncomputable def Sp.B_35_67_1_1 {R : Type} (r : Option Sp.E_35_67_1_1) (k0 : (List Int) → (List Int) → (List Int) → (List Int) → (List Int) → Option R) : Option R := match r with
  | none => none
  | some (.e0 p1 p2 p3 p4 p5) => k0 p1 p2 p3 p4 p5
noncomputable def Sp.L_35_67_1_1 : Nat → (Int) → (List Int) → (List Int) → (List Int) → (List Int) → (List Int) → Option Sp.E_35_67_1_1
  | 0, _, _, _, _, _, _ => none
  | m + 1, p0, p1, p2, p3, p4, p5 => bif decide (p0 < (64 : Int)) then gd (inB (IntKind.wrap IntKind.i64 (p0 - (15 : Int))) (64 : Nat)) (gd (decide (Int.toNat (IntKind.wrap IntKind.i64 (p0 - (15 : Int))) < (64 : Nat)) && true) (gd (inB (IntKind.wrap IntKind.i64 (p0 - (2 : Int))) (64 : Nat)) (gd (decide (Int.toNat (IntKind.wrap IntKind.i64 (p0 - (2 : Int))) < (64 : Nat)) && true) (gd (Sp.p_96 (List.getD p5 (Int.toNat (IntKind.wrap IntKind.i64 (p0 - (15 : Int)))) (0 : Int)) (7 : Int)) (gd (Sp.p_96 (List.getD p5 (Int.toNat (IntKind.wrap IntKind.i64 (p0 - (15 : Int)))) (0 : Int)) (18 : Int)) (gd (Sp.p_96 (List.getD p5 (Int.toNat (IntKind.wrap IntKind.i64 (p0 - (2 : Int)))) (0 : Int)) (17 : Int)) (gd (Sp.p_96 (List.getD p5 (Int.toNat (IntKind.wrap IntKind.i64 (p0 - (2 : Int)))) (0 : Int)) (19 : Int)) (gd (inB (IntKind.wrap IntKind.i64 (p0 - (7 : Int))) (64 : Nat)) (gd (decide (Int.toNat (IntKind.wrap IntKind.i64 (p0 - (7 : Int))) < (64 : Nat)) && true) (gd (inB (IntKind.wrap IntKind.i64 (p0 - (16 : Int))) (64 : Nat)) (gd (decide (Int.toNat (IntKind.wrap IntKind.i64 (p0 - (16 : Int))) < (64 : Nat)) && true) (gd (inB p0 (64 : Nat)) (gd (decide (Int.toNat p0 < (64 : Nat)) && true) (Sp.L_35_67_1_1 m (IntKind.wrap IntKind.i64 (p0 + (1 : Int))) p1 p2 p3 p4 (List.set p5 (Int.toNat p0) (IntKind.wrap IntKind.u32 (IntKind.wrap IntKind.u32 (IntKind.wrap IntKind.u32 (Sp.xorI IntKind.u32 (Sp.xorI IntKind.u32 ((Sp.v_96 (List.getD p5 (Int.toNat (IntKind.wrap IntKind.i64 (p0 - (2 : Int)))) (0 : Int)) (17 : Int)).1) ((Sp.v_96 (List.getD p5 (Int.toNat (IntKind.wrap IntKind.i64 (p0 - (2 : Int)))) (0 : Int)) (19 : Int)).1)) (Int.fdiv (List.getD p5 (Int.toNat (IntKind.wrap IntKind.i64 (p0 - (2 : Int)))) (0 : Int)) (1024 : Int)) + List.getD p5 (Int.toNat (IntKind.wrap IntKind.i64 (p0 - (7 : Int)))) (0 : Int)) + Sp.xorI IntKind.u32 (Sp.xorI IntKind.u32 ((Sp.v_96 (List.getD p5 (Int.toNat (IntKind.wrap IntKind.i64 (p0 - (15 : Int)))) (0 : Int)) (7 : Int)).1) ((Sp.v_96 (List.getD p5 (Int.toNat (IntKind.wrap IntKind.i64 (p0 - (15 : Int)))) (0 : Int)) (18 : Int)).1)) (Int.fdiv (List.getD p5 (Int.toNat (IntKind.wrap IntKind.i64 (p0 - (15 : Int)))) (0 : Int)) (8 : Int))) + List.getD p5 (Int.toNat (IntKind.wrap IntKind.i64 (p0 - (16 : Int)))) (0 : Int)))))))))))))))))) else some (Sp.E_35_67_1_1.e0 p1 p2 p3 p4 p5)
noncomputable def G_35_67_1_1 {R : Type} (p0 : Int) (p1 : List Int) (p2 : List Int) (p3 : List Int) (p4 : List Int) (p5 : List Int) (k : Ex → St → Option R) : Option R := Sp.B_35_67_1_1 (Sp.L_35_67_1_1 FU p0 p1 p2 p3 p4 p5) (fun p1 p2 p3 p4 p5 => k (Ex.exit (2 : Nat)) (X_35_67_1_1_0 p1 p2 p3 p4 p5))
noncomputable def m_35_67_1_1 : St → Bool := fun T => match T.sl.getD 0 .junk, T.sl.getD 1 .junk, T.sl.getD 6 .junk, T.sl.getD 8 .junk, T.hp with
  | CV.ptr (1 : Nat) [], CV.ptr (2 : Nat) [], CV.ptr (4 : Nat) [], CV.int IntKind.i64 p0, ((Blk.mem (CV.pure (Ty.arr (32 : Nat) (Ty.int IntKind.u8)) p1)) :: (Blk.mem (CV.pure (Ty.arr (8 : Nat) (Ty.int IntKind.u32)) p2)) :: (Blk.mem (CV.pure (Ty.arr (64 : Nat) (Ty.int IntKind.u32)) p3)) :: (Blk.mem (CV.pure (Ty.arr (128 : Nat) (Ty.int IntKind.u8)) p4)) :: (Blk.mem (CV.pure (Ty.arr (64 : Nat) (Ty.int IntKind.u32)) p5)) :: []) => shapeOK T 176 [0, 1, 6, 8] (4 : Nat)
  | _, _, _, _, _ => false
noncomputable def o_35_67_1_1 {R : Type} (G : (Int) → (List Int) → (List Int) → (List Int) → (List Int) → (List Int) → (Ex → St → Option R) → Option R) : St → (Ex → St → Option R) → Option R := fun T k => match T.sl.getD 0 .junk, T.sl.getD 1 .junk, T.sl.getD 6 .junk, T.sl.getD 8 .junk, T.hp with
  | CV.ptr (1 : Nat) [], CV.ptr (2 : Nat) [], CV.ptr (4 : Nat) [], CV.int IntKind.i64 p0, ((Blk.mem (CV.pure (Ty.arr (32 : Nat) (Ty.int IntKind.u8)) p1)) :: (Blk.mem (CV.pure (Ty.arr (8 : Nat) (Ty.int IntKind.u32)) p2)) :: (Blk.mem (CV.pure (Ty.arr (64 : Nat) (Ty.int IntKind.u32)) p3)) :: (Blk.mem (CV.pure (Ty.arr (128 : Nat) (Ty.int IntKind.u8)) p4)) :: (Blk.mem (CV.pure (Ty.arr (64 : Nat) (Ty.int IntKind.u32)) p5)) :: []) => gd (shapeOK T 176 [0, 1, 6, 8] (4 : Nat)) (G p0 p1 p2 p3 p4 p5 k)
  | _, _, _, _, _ => none
theorem o_35_67_1_1_inv {R : Type} {G : (Int) → (List Int) → (List Int) → (List Int) → (List Int) → (List Int) → (Ex → St → Option R) → Option R} {T : St} {k : Ex → St → Option R} {r : R} (h : o_35_67_1_1 G T k = some r) : ∃ p0 p1 p2 p3 p4 p5, T = T_35_67_1_1 p0 p1 p2 p3 p4 p5 ∧ G p0 p1 p2 p3 p4 p5 k = some r := by
  unfold o_35_67_1_1 at h
  split at h
  · obtain ⟨hs, h'⟩ := gd_some h
    refine ⟨_, _, _, _, _, _, (st_of (asg := [(0, _), (1, _), (6, _), (8, _)]) hs ⟨by assumption, by assumption, by assumption, by assumption, trivial⟩ (by assumption)).trans ?_, h'⟩
    kernel_rfl
  · cases h
noncomputable def T_35_67_2_1 (p0 : Int) (p1 : List Int) (p2 : List Int) (p3 : List Int) (p4 : List Int) (p5 : List Int) (p6 : List Int) : St := St.mk ([CV.ptr (1 : Nat) [], CV.ptr (2 : Nat) [], jk, jk, jk, jk, CV.ptr (4 : Nat) []] ++ (jl 6 ++ ([CV.ptr (5 : Nat) []] ++ (jl 63 ++ ([CV.int IntKind.i64 p0] ++ (jl 98)))))) [Blk.mem (CV.pure Zy35_2 p1), Blk.mem (CV.pure Zy35_1 p2), Blk.mem (CV.pure Zy35_0 p3), Blk.mem (CV.pure Zy35_3 p4), Blk.mem (CV.pure Zy35_0 p5), Blk.mem (CV.pure Zy35_1 p6)] (4 : Nat)
noncomputable def X_35_67_2_1_0 (p1 : List Int) (p2 : List Int) (p3 : List Int) (p4 : List Int) (p6 : List Int) : St := St.mk ([CV.ptr (1 : Nat) []] ++ (jl 12 ++ ([CV.ptr (4 : Nat) []] ++ (jl 162)))) [Blk.mem (CV.pure Zy35_2 p1), Blk.mem (CV.pure Zy35_1 p2), Blk.mem (CV.pure Zy35_0 p3), Blk.mem (CV.pure Zy35_3 p4), Blk.mem (CV.pure Zy35_1 p6)] (4 : Nat)
inductive Sp.E_35_67_2_1 where
  | e0 (p1 : List Int) (p2 : List Int) (p3 : List Int) (p4 : List Int) (p6 : List Int)
noncomputable def Sp.B_35_67_2_1 {R : Type} (r : Option Sp.E_35_67_2_1) (k0 : (List Int) → (List Int) → (List Int) → (List Int) → (List Int) → Option R) : Option R := match r with
  | none => none
  | some (.e0 p1 p2 p3 p4 p6) => k0 p1 p2 p3 p4 p6
noncomputable def Sp.L_35_67_2_1 : Nat → (Int) → (List Int) → (List Int) → (List Int) → (List Int) → (List Int) → (List Int) → Option Sp.E_35_67_2_1
  | 0, _, _, _, _, _, _, _ => none
  | m + 1, p0, p1, p2, p3, p4, p5, p6 => bif decide (p0 < (64 : Int)) then gd (Sp.p_96 (List.getD p6 (4 : Nat) (0 : Int)) (6 : Int)) (gd (Sp.p_96 (List.getD p6 (4 : Nat) (0 : Int)) (11 : Int)) (gd (Sp.p_96 (List.getD p6 (4 : Nat) (0 : Int)) (25 : Int)) (gd (inB p0 (64 : Nat)) (gd (decide (Int.toNat p0 < (64 : Nat)) && true) (gd (inB p0 (64 : Nat)) (gd (decide (Int.toNat p0 < (64 : Nat)) && true) (gd (Sp.p_96 (List.getD p6 (0 : Nat) (0 : Int)) (2 : Int)) (gd (Sp.p_96 (List.getD p6 (0 : Nat) (0 : Int)) (13 : Int)) (gd (Sp.p_96 (List.getD p6 (0 : Nat) (0 : Int)) (22 : Int)) (Sp.L_35_67_2_1 m (IntKind.wrap IntKind.i64 (p0 + (1 : Int))) p1 p2 p3 p4 p5 [IntKind.wrap IntKind.u32 (IntKind.wrap IntKind.u32 (IntKind.wrap IntKind.u32 (IntKind.wrap IntKind.u32 (IntKind.wrap IntKind.u32 (List.getD p6 (7 : Nat) (0 : Int) + Sp.xorI IntKind.u32 (Sp.xorI IntKind.u32 ((Sp.v_96 (List.getD p6 (4 : Nat) (0 : Int)) (6 : Int)).1) ((Sp.v_96 (List.getD p6 (4 : Nat) (0 : Int)) (11 : Int)).1)) ((Sp.v_96 (List.getD p6 (4 : Nat) (0 : Int)) (25 : Int)).1)) + Sp.xorI IntKind.u32 (Sp.andI IntKind.u32 (List.getD p6 (4 : Nat) (0 : Int)) (List.getD p6 (5 : Nat) (0 : Int))) (Sp.andI IntKind.u32 (Sp.xorI IntKind.u32 (4294967295 : Int) (List.getD p6 (4 : Nat) (0 : Int))) (List.getD p6 (6 : Nat) (0 : Int)))) + List.getD p3 (Int.toNat p0) (0 : Int)) + List.getD p5 (Int.toNat p0) (0 : Int)) + IntKind.wrap IntKind.u32 (Sp.xorI IntKind.u32 (Sp.xorI IntKind.u32 ((Sp.v_96 (List.getD p6 (0 : Nat) (0 : Int)) (2 : Int)).1) ((Sp.v_96 (List.getD p6 (0 : Nat) (0 : Int)) (13 : Int)).1)) ((Sp.v_96 (List.getD p6 (0 : Nat) (0 : Int)) (22 : Int)).1) + Sp.xorI IntKind.u32 (Sp.xorI IntKind.u32 (Sp.andI IntKind.u32 (List.getD p6 (0 : Nat) (0 : Int)) (List.getD p6 (1 : Nat) (0 : Int))) (Sp.andI IntKind.u32 (List.getD p6 (0 : Nat) (0 : Int)) (List.getD p6 (2 : Nat) (0 : Int)))) (Sp.andI IntKind.u32 (List.getD p6 (1 : Nat) (0 : Int)) (List.getD p6 (2 : Nat) (0 : Int))))), List.getD p6 (0 : Nat) (0 : Int), List.getD p6 (1 : Nat) (0 : Int), List.getD p6 (2 : Nat) (0 : Int), IntKind.wrap IntKind.u32 (List.getD p6 (3 : Nat) (0 : Int) + IntKind.wrap IntKind.u32 (IntKind.wrap IntKind.u32 (IntKind.wrap IntKind.u32 (IntKind.wrap IntKind.u32 (List.getD p6 (7 : Nat) (0 : Int) + Sp.xorI IntKind.u32 (Sp.xorI IntKind.u32 ((Sp.v_96 (List.getD p6 (4 : Nat) (0 : Int)) (6 : Int)).1) ((Sp.v_96 (List.getD p6 (4 : Nat) (0 : Int)) (11 : Int)).1)) ((Sp.v_96 (List.getD p6 (4 : Nat) (0 : Int)) (25 : Int)).1)) + Sp.xorI IntKind.u32 (Sp.andI IntKind.u32 (List.getD p6 (4 : Nat) (0 : Int)) (List.getD p6 (5 : Nat) (0 : Int))) (Sp.andI IntKind.u32 (Sp.xorI IntKind.u32 (4294967295 : Int) (List.getD p6 (4 : Nat) (0 : Int))) (List.getD p6 (6 : Nat) (0 : Int)))) + List.getD p3 (Int.toNat p0) (0 : Int)) + List.getD p5 (Int.toNat p0) (0 : Int))), List.getD p6 (4 : Nat) (0 : Int), List.getD p6 (5 : Nat) (0 : Int), List.getD p6 (6 : Nat) (0 : Int)])))))))))) else some (Sp.E_35_67_2_1.e0 p1 p2 p3 p4 p6)
noncomputable def G_35_67_2_1 {R : Type} (p0 : Int) (p1 : List Int) (p2 : List Int) (p3 : List Int) (p4 : List Int) (p5 : List Int) (p6 : List Int) (k : Ex → St → Option R) : Option R := Sp.B_35_67_2_1 (Sp.L_35_67_2_1 FU p0 p1 p2 p3 p4 p5 p6) (fun p1 p2 p3 p4 p6 => k (Ex.exit (4 : Nat)) (X_35_67_2_1_0 p1 p2 p3 p4 p6))
noncomputable def m_35_67_2_1 : St → Bool := fun T => match T.sl.getD 0 .junk, T.sl.getD 1 .junk, T.sl.getD 6 .junk, T.sl.getD 13 .junk, T.sl.getD 77 .junk, T.hp with
  | CV.ptr (1 : Nat) [], CV.ptr (2 : Nat) [], CV.ptr (4 : Nat) [], CV.ptr (5 : Nat) [], CV.int IntKind.i64 p0, ((Blk.mem (CV.pure (Ty.arr (32 : Nat) (Ty.int IntKind.u8)) p1)) :: (Blk.mem (CV.pure (Ty.arr (8 : Nat) (Ty.int IntKind.u32)) p2)) :: (Blk.mem (CV.pure (Ty.arr (64 : Nat) (Ty.int IntKind.u32)) p3)) :: (Blk.mem (CV.pure (Ty.arr (128 : Nat) (Ty.int IntKind.u8)) p4)) :: (Blk.mem (CV.pure (Ty.arr (64 : Nat) (Ty.int IntKind.u32)) p5)) :: (Blk.mem (CV.pure (Ty.arr (8 : Nat) (Ty.int IntKind.u32)) p6)) :: []) => shapeOK T 176 [0, 1, 6, 13, 77] (4 : Nat)
  | _, _, _, _, _, _ => false
noncomputable def o_35_67_2_1 {R : Type} (G : (Int) → (List Int) → (List Int) → (List Int) → (List Int) → (List Int) → (List Int) → (Ex → St → Option R) → Option R) : St → (Ex → St → Option R) → Option R := fun T k => match T.sl.getD 0 .junk, T.sl.getD 1 .junk, T.sl.getD 6 .junk, T.sl.getD 13 .junk, T.sl.getD 77 .junk, T.hp with
  | CV.ptr (1 : Nat) [], CV.ptr (2 : Nat) [], CV.ptr (4 : Nat) [], CV.ptr (5 : Nat) [], CV.int IntKind.i64 p0, ((Blk.mem (CV.pure (Ty.arr (32 : Nat) (Ty.int IntKind.u8)) p1)) :: (Blk.mem (CV.pure (Ty.arr (8 : Nat) (Ty.int IntKind.u32)) p2)) :: (Blk.mem (CV.pure (Ty.arr (64 : Nat) (Ty.int IntKind.u32)) p3)) :: (Blk.mem (CV.pure (Ty.arr (128 : Nat) (Ty.int IntKind.u8)) p4)) :: (Blk.mem (CV.pure (Ty.arr (64 : Nat) (Ty.int IntKind.u32)) p5)) :: (Blk.mem (CV.pure (Ty.arr (8 : Nat) (Ty.int IntKind.u32)) p6)) :: []) => gd (shapeOK T 176 [0, 1, 6, 13, 77] (4 : Nat)) (G p0 p1 p2 p3 p4 p5 p6 k)
  | _, _, _, _, _, _ => none
theorem o_35_67_2_1_inv {R : Type} {G : (Int) → (List Int) → (List Int) → (List Int) → (List Int) → (List Int) → (List Int) → (Ex → St → Option R) → Option R} {T : St} {k : Ex → St → Option R} {r : R} (h : o_35_67_2_1 G T k = some r) : ∃ p0 p1 p2 p3 p4 p5 p6, T = T_35_67_2_1 p0 p1 p2 p3 p4 p5 p6 ∧ G p0 p1 p2 p3 p4 p5 p6 k = some r := by
  unfold o_35_67_2_1 at h
  split at h
  · obtain ⟨hs, h'⟩ := gd_some h
    refine ⟨_, _, _, _, _, _, _, (st_of (asg := [(0, _), (1, _), (6, _), (13, _), (77, _)]) hs ⟨by assumption, by assumption, by assumption, by assumption, by assumption, trivial⟩ (by assumption)).trans ?_, h'⟩
    kernel_rfl
  · cases h
noncomputable def T_35_67_3_1 (p0 : Int) (p1 : List Int) (p2 : List Int) (p3 : List Int) (p4 : List Int) (p5 : List Int) : St := St.mk ([CV.ptr (1 : Nat) []] ++ (jl 12 ++ ([CV.ptr (4 : Nat) []] ++ (jl 147 ++ ([CV.int IntKind.i64 p0] ++ (jl 14)))))) [Blk.mem (CV.pure Zy35_2 p1), Blk.mem (CV.pure Zy35_1 p2), Blk.mem (CV.pure Zy35_0 p3), Blk.mem (CV.pure Zy35_3 p4), Blk.mem (CV.pure Zy35_1 p5)] (4 : Nat)
noncomputable def X_35_67_3_1_0 (p1 : List Int) (p2 : List Int) (p3 : List Int) (p4 : List Int) : St := St.mk (jl 176) [Blk.mem (CV.pure Zy35_2 p1), Blk.mem (CV.pure Zy35_1 p2), Blk.mem (CV.pure Zy35_0 p3), Blk.mem (CV.pure Zy35_3 p4)] (4 : Nat)
inductive Sp.E_35_67_3_1 where
  | e0 (p1 : List Int) (p2 : List Int) (p3 : List Int) (p4 : List Int)
noncomputable def Sp.B_35_67_3_1 {R : Type} (r : Option Sp.E_35_67_3_1) (k0 : (List Int) → (List Int) → (List Int) → (List Int) → Option R) : Option R := match r with
  | none => none
  | some (.e0 p1 p2 p3 p4) => k0 p1 p2 p3 p4
noncomputable def Sp.L_35_67_3_1 : Nat → (Int) → (List Int) → (List Int) → (List Int) → (List Int) → (List Int) → Option Sp.E_35_67_3_1
  | 0, _, _, _, _, _, _ => none
  | m + 1, p0, p1, p2, p3, p4, p5 => bif decide (p0 < (8 : Int)) then gd (inB p0 (8 : Nat)) (gd (decide (Int.toNat p0 < (8 : Nat)) && true) (gd (inB p0 (8 : Nat)) (gd (decide (Int.toNat p0 < (8 : Nat)) && true) (gd (inB p0 (8 : Nat)) (gd (decide (Int.toNat p0 < (8 : Nat)) && true) (Sp.L_35_67_3_1 m (IntKind.wrap IntKind.i64 (p0 + (1 : Int))) p1 (List.set p2 (Int.toNat p0) (IntKind.wrap IntKind.u32 (List.getD p2 (Int.toNat p0) (0 : Int) + List.getD p5 (Int.toNat p0) (0 : Int)))) p3 p4 p5)))))) else some (Sp.E_35_67_3_1.e0 p1 p2 p3 p4)
noncomputable def G_35_67_3_1 {R : Type} (p0 : Int) (p1 : List Int) (p2 : List Int) (p3 : List Int) (p4 : List Int) (p5 : List Int) (k : Ex → St → Option R) : Option R := Sp.B_35_67_3_1 (Sp.L_35_67_3_1 FU p0 p1 p2 p3 p4 p5) (fun p1 p2 p3 p4 => k (Ex.exit (6 : Nat)) (X_35_67_3_1_0 p1 p2 p3 p4))
noncomputable def m_35_67_3_1 : St → Bool := fun T => match T.sl.getD 0 .junk, T.sl.getD 13 .junk, T.sl.getD 161 .junk, T.hp with
  | CV.ptr (1 : Nat) [], CV.ptr (4 : Nat) [], CV.int IntKind.i64 p0, ((Blk.mem (CV.pure (Ty.arr (32 : Nat) (Ty.int IntKind.u8)) p1)) :: (Blk.mem (CV.pure (Ty.arr (8 : Nat) (Ty.int IntKind.u32)) p2)) :: (Blk.mem (CV.pure (Ty.arr (64 : Nat) (Ty.int IntKind.u32)) p3)) :: (Blk.mem (CV.pure (Ty.arr (128 : Nat) (Ty.int IntKind.u8)) p4)) :: (Blk.mem (CV.pure (Ty.arr (8 : Nat) (Ty.int IntKind.u32)) p5)) :: []) => shapeOK T 176 [0, 13, 161] (4 : Nat)
  | _, _, _, _ => false
noncomputable def o_35_67_3_1 {R : Type} (G : (Int) → (List Int) → (List Int) → (List Int) → (List Int) → (List Int) → (Ex → St → Option R) → Option R) : St → (Ex → St → Option R) → Option R := fun T k => match T.sl.getD 0 .junk, T.sl.getD 13 .junk, T.sl.getD 161 .junk, T.hp with
  | CV.ptr (1 : Nat) [], CV.ptr (4 : Nat) [], CV.int IntKind.i64 p0, ((Blk.mem (CV.pure (Ty.arr (32 : Nat) (Ty.int IntKind.u8)) p1)) :: (Blk.mem (CV.pure (Ty.arr (8 : Nat) (Ty.int IntKind.u32)) p2)) :: (Blk.mem (CV.pure (Ty.arr (64 : Nat) (Ty.int IntKind.u32)) p3)) :: (Blk.mem (CV.pure (Ty.arr (128 : Nat) (Ty.int IntKind.u8)) p4)) :: (Blk.mem (CV.pure (Ty.arr (8 : Nat) (Ty.int IntKind.u32)) p5)) :: []) => gd (shapeOK T 176 [0, 13, 161] (4 : Nat)) (G p0 p1 p2 p3 p4 p5 k)
  | _, _, _, _ => none
theorem o_35_67_3_1_inv {R : Type} {G : (Int) → (List Int) → (List Int) → (List Int) → (List Int) → (List Int) → (Ex → St → Option R) → Option R} {T : St} {k : Ex → St → Option R} {r : R} (h : o_35_67_3_1 G T k = some r) : ∃ p0 p1 p2 p3 p4 p5, T = T_35_67_3_1 p0 p1 p2 p3 p4 p5 ∧ G p0 p1 p2 p3 p4 p5 k = some r := by
  unfold o_35_67_3_1 at h
  split at h
  · obtain ⟨hs, h'⟩ := gd_some h
    refine ⟨_, _, _, _, _, _, (st_of (asg := [(0, _), (13, _), (161, _)]) hs ⟨by assumption, by assumption, by assumption, trivial⟩ (by assumption)).trans ?_, h'⟩
    kernel_rfl
  · cases h
noncomputable def T_35_2 (p0 : Int) (p1 : Int) (p2 : List Int) (p3 : List Int) (p4 : List Int) (p5 : List Int) : St := St.mk ([jk, jk, CV.ptr (0 : Nat) [], CV.ptr (1 : Nat) [], CV.ptr (2 : Nat) [], jk, CV.ptr (3 : Nat) [], jk, CV.int IntKind.i64 p0, jk, CV.int IntKind.i64 p1] ++ (jl 61)) [Blk.mem (CV.pure Zy35_2 p2), Blk.mem (CV.pure Zy35_1 p3), Blk.mem (CV.pure Zy35_0 p4), Blk.mem (CV.pure Zy35_3 p5)] (0 : Nat)
noncomputable def X_35_2_0 (p2 : List Int) (p3 : List Int) : St := St.mk ([jk, jk, CV.ptr (0 : Nat) [], CV.ptr (1 : Nat) []] ++ (jl 68)) [Blk.mem (CV.pure Zy35_2 p2), Blk.mem (CV.pure Zy35_1 p3)] (0 : Nat)
inductive Sp.E_35_2 where
  | e0 (p2 : List Int) (p3 : List Int)
noncomputable def Sp.B_35_2 {R : Type} (r : Option Sp.E_35_2) (k0 : (List Int) → (List Int) → Option R) : Option R := match r with
  | none => none
  | some (.e0 p2 p3) => k0 p2 p3
noncomputable def Sp.L_35_2 : Nat → (Int) → (Int) → (List Int) → (List Int) → (List Int) → (List Int) → Option Sp.E_35_2
  | 0, _, _, _, _, _, _ => none
  | m + 1, p0, p1, p2, p3, p4, p5 => bif decide (p1 < p0) then gd (sl3 p1 (IntKind.wrap IntKind.i64 (p1 + (64 : Int))) (128 : Int)) (Sp.B_35_67_0_1 (Sp.L_35_67_0_1 (4611686018427387904 : Nat) (Int.toNat p1) (Int.toNat (IntKind.wrap IntKind.i64 (p1 + (64 : Int))) - Int.toNat p1) ((128 : Nat) - Int.toNat p1) (0 : Int) p2 p3 p4 p5 (List.replicate (64 : Nat) (0 : Int))) fun y19 y20 y21 y22 y23 => Sp.B_35_67_1_1 (Sp.L_35_67_1_1 (4611686018427387904 : Nat) (16 : Int) y19 y20 y21 y22 y23) fun y24 y25 y26 y27 y28 => Sp.B_35_67_2_1 (Sp.L_35_67_2_1 (4611686018427387904 : Nat) (0 : Int) y24 y25 y26 y27 y28 y25) fun y29 y30 y31 y32 y33 => Sp.B_35_67_3_1 (Sp.L_35_67_3_1 (4611686018427387904 : Nat) (0 : Int) y29 y30 y31 y32 y33) fun y34 y35 y36 y37 => Sp.L_35_2 m p0 (IntKind.wrap IntKind.i64 (p1 + (64 : Int))) y34 y35 y36 y37) else some (Sp.E_35_2.e0 p2 p3)
noncomputable def G_35_2 {R : Type} (p0 : Int) (p1 : Int) (p2 : List Int) (p3 : List Int) (p4 : List Int) (p5 : List Int) (k : Ex → St → Option R) : Option R := Sp.B_35_2 (Sp.L_35_2 FU p0 p1 p2 p3 p4 p5) (fun p2 p3 => k (Ex.exit (2 : Nat)) (X_35_2_0 p2 p3))
noncomputable def o_35_2 {R : Type} (G : (Int) → (Int) → (List Int) → (List Int) → (List Int) → (List Int) → (Ex → St → Option R) → Option R) : St → (Ex → St → Option R) → Option R := fun T k => match T.sl.getD 2 .junk, T.sl.getD 3 .junk, T.sl.getD 4 .junk, T.sl.getD 6 .junk, T.sl.getD 8 .junk, T.sl.getD 10 .junk, T.hp with
  | CV.ptr (0 : Nat) [], CV.ptr (1 : Nat) [], CV.ptr (2 : Nat) [], CV.ptr (3 : Nat) [], CV.int IntKind.i64 p0, CV.int IntKind.i64 p1, ((Blk.mem (CV.pure (Ty.arr (32 : Nat) (Ty.int IntKind.u8)) p2)) :: (Blk.mem (CV.pure (Ty.arr (8 : Nat) (Ty.int IntKind.u32)) p3)) :: (Blk.mem (CV.pure (Ty.arr (64 : Nat) (Ty.int IntKind.u32)) p4)) :: (Blk.mem (CV.pure (Ty.arr (128 : Nat) (Ty.int IntKind.u8)) p5)) :: []) => gd (shapeOK T 72 [2, 3, 4, 6, 8, 10] (0 : Nat)) (G p0 p1 p2 p3 p4 p5 k)
  | _, _, _, _, _, _, _ => none
theorem o_35_2_inv {R : Type} {G : (Int) → (Int) → (List Int) → (List Int) → (List Int) → (List Int) → (Ex → St → Option R) → Option R} {T : St} {k : Ex → St → Option R} {r : R} (h : o_35_2 G T k = some r) : ∃ p0 p1 p2 p3 p4 p5, T = T_35_2 p0 p1 p2 p3 p4 p5 ∧ G p0 p1 p2 p3 p4 p5 k = some r := by
  unfold o_35_2 at h
  split at h
  · obtain ⟨hs, h'⟩ := gd_some h
    refine ⟨_, _, _, _, _, _, (st_of (asg := [(2, _), (3, _), (4, _), (6, _), (8, _), (10, _)]) hs ⟨by assumption, by assumption, by assumption, by assumption, by assumption, by assumption, trivial⟩ (by assumption)).trans ?_, h'⟩
    kernel_rfl
  · cases h
noncomputable def T_35_3 (p0 : List Int) (p1 : Int) (p2 : List Int) (p3 : List Int) : St := St.mk ([jk, jk, CV.ptr (0 : Nat) []] ++ (jl 8 ++ ([CV.ptr (1 : Nat) []] ++ (jl 48 ++ ([CV.pure Zy35_1 p0, CV.int IntKind.i64 p1] ++ (jl 10)))))) [Blk.mem (CV.pure Zy35_2 p2), Blk.mem (CV.pure Zy35_2 p3)] (0 : Nat)
noncomputable def X_35_3_0 (p2 : List Int) (p3 : List Int) : St := St.mk ([jk, jk, CV.ptr (0 : Nat) []] ++ (jl 8 ++ ([CV.ptr (1 : Nat) []] ++ (jl 60)))) [Blk.mem (CV.pure Zy35_2 p2), Blk.mem (CV.pure Zy35_2 p3)] (0 : Nat)
inductive Sp.E_35_3 where
  | e0 (p2 : List Int) (p3 : List Int)
noncomputable def Sp.B_35_3 {R : Type} (r : Option Sp.E_35_3) (k0 : (List Int) → (List Int) → Option R) : Option R := match r with
  | none => none
  | some (.e0 p2 p3) => k0 p2 p3
noncomputable def Sp.L_35_3 : Nat → (List Int) → (Int) → (List Int) → (List Int) → Option Sp.E_35_3
  | 0, _, _, _, _ => none
  | m + 1, p0, p1, p2, p3 => bif decide (p1 < (8 : Int)) then gd (inB p1 (8 : Nat)) (gd (sl3 (IntKind.wrap IntKind.i64 ((4 : Int) * p1)) (32 : Int) (32 : Int)) (gd (inB (0 : Int) ((32 : Nat) - Int.toNat (IntKind.wrap IntKind.i64 ((4 : Int) * p1)))) (gd (decide (Int.toNat (IntKind.wrap IntKind.i64 ((4 : Int) * p1)) + (0 : Nat) < (32 : Nat)) && true) (gd (inB (1 : Int) ((32 : Nat) - Int.toNat (IntKind.wrap IntKind.i64 ((4 : Int) * p1)))) (gd (decide (Int.toNat (IntKind.wrap IntKind.i64 ((4 : Int) * p1)) + (1 : Nat) < (32 : Nat)) && true) (gd (inB (2 : Int) ((32 : Nat) - Int.toNat (IntKind.wrap IntKind.i64 ((4 : Int) * p1)))) (gd (decide (Int.toNat (IntKind.wrap IntKind.i64 ((4 : Int) * p1)) + (2 : Nat) < (32 : Nat)) && true) (gd (inB (3 : Int) ((32 : Nat) - Int.toNat (IntKind.wrap IntKind.i64 ((4 : Int) * p1)))) (gd (decide (Int.toNat (IntKind.wrap IntKind.i64 ((4 : Int) * p1)) + (3 : Nat) < (32 : Nat)) && true) (Sp.L_35_3 m p0 (IntKind.wrap IntKind.i64 (p1 + (1 : Int))) p2 (List.set (List.set (List.set (List.set p3 (Int.toNat (IntKind.wrap IntKind.i64 ((4 : Int) * p1)) + (0 : Nat)) (IntKind.wrap IntKind.u8 (Int.fdiv (List.getD p0 (Int.toNat p1) (0 : Int)) (16777216 : Int)))) (Int.toNat (IntKind.wrap IntKind.i64 ((4 : Int) * p1)) + (1 : Nat)) (IntKind.wrap IntKind.u8 (Int.fdiv (List.getD p0 (Int.toNat p1) (0 : Int)) (65536 : Int)))) (Int.toNat (IntKind.wrap IntKind.i64 ((4 : Int) * p1)) + (2 : Nat)) (IntKind.wrap IntKind.u8 (Int.fdiv (List.getD p0 (Int.toNat p1) (0 : Int)) (256 : Int)))) (Int.toNat (IntKind.wrap IntKind.i64 ((4 : Int) * p1)) + (3 : Nat)) (IntKind.wrap IntKind.u8 (List.getD p0 (Int.toNat p1) (0 : Int)))))))))))))) else some (Sp.E_35_3.e0 p2 p3)
noncomputable def G_35_3 {R : Type} (p0 : List Int) (p1 : Int) (p2 : List Int) (p3 : List Int) (k : Ex → St → Option R) : Option R := Sp.B_35_3 (Sp.L_35_3 FU p0 p1 p2 p3) (fun p2 p3 => k (Ex.exit (4 : Nat)) (X_35_3_0 p2 p3))
noncomputable def o_35_3 {R : Type} (G : (List Int) → (Int) → (List Int) → (List Int) → (Ex → St → Option R) → Option R) : St → (Ex → St → Option R) → Option R := fun T k => match T.sl.getD 2 .junk, T.sl.getD 11 .junk, T.sl.getD 60 .junk, T.sl.getD 61 .junk, T.hp with
  | CV.ptr (0 : Nat) [], CV.ptr (1 : Nat) [], CV.pure (Ty.arr (8 : Nat) (Ty.int IntKind.u32)) p0, CV.int IntKind.i64 p1, ((Blk.mem (CV.pure (Ty.arr (32 : Nat) (Ty.int IntKind.u8)) p2)) :: (Blk.mem (CV.pure (Ty.arr (32 : Nat) (Ty.int IntKind.u8)) p3)) :: []) => gd (shapeOK T 72 [2, 11, 60, 61] (0 : Nat)) (G p0 p1 p2 p3 k)
  | _, _, _, _, _ => none
theorem o_35_3_inv {R : Type} {G : (List Int) → (Int) → (List Int) → (List Int) → (Ex → St → Option R) → Option R} {T : St} {k : Ex → St → Option R} {r : R} (h : o_35_3 G T k = some r) : ∃ p0 p1 p2 p3, T = T_35_3 p0 p1 p2 p3 ∧ G p0 p1 p2 p3 k = some r := by
  unfold o_35_3 at h
  split at h
  · obtain ⟨hs, h'⟩ := gd_some h
    refine ⟨_, _, _, _, (st_of (asg := [(2, _), (11, _), (60, _), (61, _)]) hs ⟨by assumption, by assumption, by assumption, by assumption, trivial⟩ (by assumption)).trans ?_, h'⟩
    kernel_rfl
  · cases h
noncomputable def T_35_1 (p0 : List Int) (p1 : Int) (p2 : List Int) (p3 : List Int) (p4 : List Int) (p5 : List Int) : St := St.mk ([CV.pure (Ty.slice (Ty.int IntKind.u8)) p0, jk, CV.ptr (0 : Nat) [], CV.ptr (1 : Nat) [], CV.ptr (2 : Nat) [], jk, CV.ptr (3 : Nat) [], jk, CV.int IntKind.i64 p1] ++ (jl 63)) [Blk.mem (CV.pure Zy35_2 p2), Blk.mem (CV.pure Zy35_1 p3), Blk.mem (CV.pure Zy35_0 p4), Blk.mem (CV.pure Zy35_3 p5)] (0 : Nat)
noncomputable def X_35_1_0 (y7 : List Int) : St := St.mk ([jk, jk, CV.ptr (0 : Nat) []] ++ (jl 69)) [Blk.mem (CV.pure Zy35_2 y7)] (0 : Nat)
inductive Sp.E_35_1 where
  | e0 (y7 : List Int)
noncomputable def Sp.B_35_1 {R : Type} (r : Option Sp.E_35_1) (k0 : (List Int) → Option R) : Option R := match r with
  | none => none
  | some (.e0 y7) => k0 y7
noncomputable def Sp.J_35_1 (p0 : List Int) (p1 : Int) (p2 : List Int) (p3 : List Int) (p4 : List Int) (p5 : List Int) : Option Sp.E_35_1 :=
  gd (sl3 (IntKind.wrap IntKind.i64 (p1 - (8 : Int))) (128 : Int) (128 : Int)) (gd (inB (0 : Int) ((128 : Nat) - Int.toNat (IntKind.wrap IntKind.i64 (p1 - (8 : Int))))) (gd (decide (Int.toNat (IntKind.wrap IntKind.i64 (p1 - (8 : Int))) + (0 : Nat) < (128 : Nat)) && true) (gd (inB (1 : Int) ((128 : Nat) - Int.toNat (IntKind.wrap IntKind.i64 (p1 - (8 : Int))))) (gd (decide (Int.toNat (IntKind.wrap IntKind.i64 (p1 - (8 : Int))) + (1 : Nat) < (128 : Nat)) && true) (gd (inB (2 : Int) ((128 : Nat) - Int.toNat (IntKind.wrap IntKind.i64 (p1 - (8 : Int))))) (gd (decide (Int.toNat (IntKind.wrap IntKind.i64 (p1 - (8 : Int))) + (2 : Nat) < (128 : Nat)) && true) (gd (inB (3 : Int) ((128 : Nat) - Int.toNat (IntKind.wrap IntKind.i64 (p1 - (8 : Int))))) (gd (decide (Int.toNat (IntKind.wrap IntKind.i64 (p1 - (8 : Int))) + (3 : Nat) < (128 : Nat)) && true) (gd (sl3 (IntKind.wrap IntKind.i64 (p1 - (4 : Int))) (128 : Int) (128 : Int)) (gd (inB (0 : Int) ((128 : Nat) - Int.toNat (IntKind.wrap IntKind.i64 (p1 - (4 : Int))))) (gd (decide (Int.toNat (IntKind.wrap IntKind.i64 (p1 - (4 : Int))) + (0 : Nat) < (128 : Nat)) && true) (gd (inB (1 : Int) ((128 : Nat) - Int.toNat (IntKind.wrap IntKind.i64 (p1 - (4 : Int))))) (gd (decide (Int.toNat (IntKind.wrap IntKind.i64 (p1 - (4 : Int))) + (1 : Nat) < (128 : Nat)) && true) (gd (inB (2 : Int) ((128 : Nat) - Int.toNat (IntKind.wrap IntKind.i64 (p1 - (4 : Int))))) (gd (decide (Int.toNat (IntKind.wrap IntKind.i64 (p1 - (4 : Int))) + (2 : Nat) < (128 : Nat)) && true) (gd (inB (3 : Int) ((128 : Nat) - Int.toNat (IntKind.wrap IntKind.i64 (p1 - (4 : Int))))) (gd (decide (Int.toNat (IntKind.wrap IntKind.i64 (p1 - (4 : Int))) + (3 : Nat) < (128 : Nat)) && true) (Sp.B_35_2 (Sp.L_35_2 (4611686018427387904 : Nat) p1 (0 : Int) p2 p3 p4 (List.set (List.set (List.set (List.set (List.set (List.set (List.set (List.set p5 (Int.toNat (IntKind.wrap IntKind.i64 (p1 - (8 : Int))) + (0 : Nat)) (IntKind.wrap IntKind.u8 (Int.fdiv (IntKind.wrap IntKind.u32 (Int.fdiv (IntKind.wrap IntKind.u64 (IntKind.wrap IntKind.u64 (↑(List.length p0) : Int) * (8 : Int))) (4294967296 : Int))) (16777216 : Int)))) (Int.toNat (IntKind.wrap IntKind.i64 (p1 - (8 : Int))) + (1 : Nat)) (IntKind.wrap IntKind.u8 (Int.fdiv (IntKind.wrap IntKind.u32 (Int.fdiv (IntKind.wrap IntKind.u64 (IntKind.wrap IntKind.u64 (↑(List.length p0) : Int) * (8 : Int))) (4294967296 : Int))) (65536 : Int)))) (Int.toNat (IntKind.wrap IntKind.i64 (p1 - (8 : Int))) + (2 : Nat)) (IntKind.wrap IntKind.u8 (Int.fdiv (IntKind.wrap IntKind.u32 (Int.fdiv (IntKind.wrap IntKind.u64 (IntKind.wrap IntKind.u64 (↑(List.length p0) : Int) * (8 : Int))) (4294967296 : Int))) (256 : Int)))) (Int.toNat (IntKind.wrap IntKind.i64 (p1 - (8 : Int))) + (3 : Nat)) (IntKind.wrap IntKind.u8 (IntKind.wrap IntKind.u32 (Int.fdiv (IntKind.wrap IntKind.u64 (IntKind.wrap IntKind.u64 (↑(List.length p0) : Int) * (8 : Int))) (4294967296 : Int))))) (Int.toNat (IntKind.wrap IntKind.i64 (p1 - (4 : Int))) + (0 : Nat)) (IntKind.wrap IntKind.u8 (Int.fdiv (IntKind.wrap IntKind.u32 (IntKind.wrap IntKind.u64 (IntKind.wrap IntKind.u64 (↑(List.length p0) : Int) * (8 : Int)))) (16777216 : Int)))) (Int.toNat (IntKind.wrap IntKind.i64 (p1 - (4 : Int))) + (1 : Nat)) (IntKind.wrap IntKind.u8 (Int.fdiv (IntKind.wrap IntKind.u32 (IntKind.wrap IntKind.u64 (IntKind.wrap IntKind.u64 (↑(List.length p0) : Int) * (8 : Int)))) (65536 : Int)))) (Int.toNat (IntKind.wrap IntKind.i64 (p1 - (4 : Int))) + (2 : Nat)) (IntKind.wrap IntKind.u8 (Int.fdiv (IntKind.wrap IntKind.u32 (IntKind.wrap IntKind.u64 (IntKind.wrap IntKind.u64 (↑(List.length p0) : Int) * (8 : Int)))) (256 : Int)))) (Int.toNat (IntKind.wrap IntKind.i64 (p1 - (4 : Int))) + (3 : Nat)) (IntKind.wrap IntKind.u8 (IntKind.wrap IntKind.u32 (IntKind.wrap IntKind.u64 (IntKind.wrap IntKind.u64 (↑(List.length p0) : Int) * (8 : Int))))))) fun y4 y5 => Sp.B_35_3 (Sp.L_35_3 (4611686018427387904 : Nat) y5 (0 : Int) y4 (List.replicate (32 : Nat) (0 : Int))) fun y6 y7 => some (Sp.E_35_1.e0 y7)))))))))))))))))))
noncomputable def G_35_1 {R : Type} (p0 : List Int) (p1 : Int) (p2 : List Int) (p3 : List Int) (p4 : List Int) (p5 : List Int) (k : Ex → St → Option R) : Option R := Sp.B_35_1 (Sp.J_35_1 p0 p1 p2 p3 p4 p5) (fun y7 => k Ex.ret (X_35_1_0 y7))
noncomputable def o_35_1 {R : Type} (G : (List Int) → (Int) → (List Int) → (List Int) → (List Int) → (List Int) → (Ex → St → Option R) → Option R) : St → (Ex → St → Option R) → Option R := fun T k => match T.sl.getD 0 .junk, T.sl.getD 2 .junk, T.sl.getD 3 .junk, T.sl.getD 4 .junk, T.sl.getD 6 .junk, T.sl.getD 8 .junk, T.hp with
  | CV.pure (Ty.slice (Ty.int IntKind.u8)) p0, CV.ptr (0 : Nat) [], CV.ptr (1 : Nat) [], CV.ptr (2 : Nat) [], CV.ptr (3 : Nat) [], CV.int IntKind.i64 p1, ((Blk.mem (CV.pure (Ty.arr (32 : Nat) (Ty.int IntKind.u8)) p2)) :: (Blk.mem (CV.pure (Ty.arr (8 : Nat) (Ty.int IntKind.u32)) p3)) :: (Blk.mem (CV.pure (Ty.arr (64 : Nat) (Ty.int IntKind.u32)) p4)) :: (Blk.mem (CV.pure (Ty.arr (128 : Nat) (Ty.int IntKind.u8)) p5)) :: []) => gd (shapeOK T 72 [0, 2, 3, 4, 6, 8] (0 : Nat)) (G p0 p1 p2 p3 p4 p5 k)
  | _, _, _, _, _, _, _ => none
theorem o_35_1_inv {R : Type} {G : (List Int) → (Int) → (List Int) → (List Int) → (List Int) → (List Int) → (Ex → St → Option R) → Option R} {T : St} {k : Ex → St → Option R} {r : R} (h : o_35_1 G T k = some r) : ∃ p0 p1 p2 p3 p4 p5, T = T_35_1 p0 p1 p2 p3 p4 p5 ∧ G p0 p1 p2 p3 p4 p5 k = some r := by
  unfold o_35_1 at h
  split at h
  · obtain ⟨hs, h'⟩ := gd_some h
    refine ⟨_, _, _, _, _, _, (st_of (asg := [(0, _), (2, _), (3, _), (4, _), (6, _), (8, _)]) hs ⟨by assumption, by assumption, by assumption, by assumption, by assumption, by assumption, trivial⟩ (by assumption)).trans ?_, h'⟩
    kernel_rfl
  · cases h
noncomputable def O_35_67_0 {R : Type} : St → (Ex → St → Option R) → Option R := fun T k => bif m_35_67_0_0 T then o_35_67_0_0 G_35_67_0_0 T k else bif m_35_67_0_1 T then o_35_67_0_1 G_35_67_0_1 T k else none
noncomputable def O_35_67_1 {R : Type} : St → (Ex → St → Option R) → Option R := fun T k => bif m_35_67_1_0 T then o_35_67_1_0 G_35_67_1_0 T k else bif m_35_67_1_1 T then o_35_67_1_1 G_35_67_1_1 T k else none
noncomputable def O_35_67_2 {R : Type} : St → (Ex → St → Option R) → Option R := fun T k => bif m_35_67_2_0 T then o_35_67_2_0 G_35_67_2_0 T k else bif m_35_67_2_1 T then o_35_67_2_1 G_35_67_2_1 T k else none
noncomputable def O_35_67_3 {R : Type} : St → (Ex → St → Option R) → Option R := fun T k => bif m_35_67_3_0 T then o_35_67_3_0 G_35_67_3_0 T k else bif m_35_67_3_1 T then o_35_67_3_1 G_35_67_3_1 T k else none
noncomputable def O_35_35_0 {R : Type} : St → (Ex → St → Option R) → Option R := fun T k => o_35_0 G_35_0 T k
noncomputable def O_35_35_2 {R : Type} : St → (Ex → St → Option R) → Option R := fun T k => o_35_2 G_35_2 T k
noncomputable def O_35_35_3 {R : Type} : St → (Ex → St → Option R) → Option R := fun T k => o_35_3 G_35_3 T k
noncomputable def O_35_35_1 {R : Type} : St → (Ex → St → Option R) → Option R := fun T k => o_35_1 G_35_1 T k
noncomputable def g_35_67 {R : Type} : List CV → List Blk → (CV → List Blk → Option R) → Option R := evFnL sm_35 FU (ovr noO (evFn sm_35 fns FU 0)) (ir67_t O_35_67_0 O_35_67_1 O_35_67_2 O_35_67_3) ir67
theorem body_35_67_0_0 {R : Type} (K0 : St → Option R) (K1 : Ex → St → Option R) (p0 : List Int) (p1 : Int) (p2 : List Int) (p3 : List Int) (p4 : List Int) (p5 : List Int) : evLB (evCodeL sm_35 FU (ovr noO (evFn sm_35 fns FU 0)) .nil ir67_b0) (St.norm ir67_v0) (T_35_67_0_0 p0 p1 p2 p3 p4 p5) K0 K1 =
  bif decide (p1 < (16 : Int)) then gd (sl3 (IntKind.wrap IntKind.i64 ((4 : Int) * p1)) (↑(List.length p0) : Int) (↑(List.length p0) : Int)) (gd (Sp.p_95 (List.drop (Int.toNat (IntKind.wrap IntKind.i64 ((4 : Int) * p1))) p0)) (gd (inB p1 (64 : Nat)) (gd (decide (Int.toNat p1 < (64 : Nat)) && true) (K0 (T_35_67_0_0 p0 (IntKind.wrap IntKind.i64 (p1 + (1 : Int))) p2 p3 p4 (List.set p5 (Int.toNat p1) ((Sp.v_95 (List.drop (Int.toNat (IntKind.wrap IntKind.i64 ((4 : Int) * p1))) p0)).1))))))) else K1 (Ex.exit (0 : Nat)) (X_35_67_0_0_0 p2 p3 p4 p5) := by kernel_rfl
theorem Bgd_35_67_0_0 {R : Type} {c : Bool} {x : Option R} {y : Option Sp.E_35_67_0_0} {k0 : (List Int) → (List Int) → (List Int) → (List Int) → Option R} (h : x = Sp.B_35_67_0_0 y k0) : gd c x = Sp.B_35_67_0_0 (gd c y) k0 := by cases c; rfl; exact h
theorem Bcond_35_67_0_0 {R : Type} {c : Bool} {x x' : Option R} {y y' : Option Sp.E_35_67_0_0} {k0 : (List Int) → (List Int) → (List Int) → (List Int) → Option R} (h : x = Sp.B_35_67_0_0 y k0) (h' : x' = Sp.B_35_67_0_0 y' k0) : (bif c then x else x') = Sp.B_35_67_0_0 (bif c then y else y') k0 := by cases c; exact h'; exact h
theorem loop_35_67_0_0 {R : Type} (k : Ex → St → Option R) : ∀ (m : Nat) (p0 : List Int) (p1 : Int) (p2 : List Int) (p3 : List Int) (p4 : List Int) (p5 : List Int), evLoopN (evCodeL sm_35 FU (ovr noO (evFn sm_35 fns FU 0)) .nil ir67_b0) (St.norm ir67_v0) m (T_35_67_0_0 p0 p1 p2 p3 p4 p5) k = Sp.B_35_67_0_0 (Sp.L_35_67_0_0 m p0 p1 p2 p3 p4 p5) (fun p2 p3 p4 p5 => k (Ex.exit (0 : Nat)) (X_35_67_0_0_0 p2 p3 p4 p5))
  | 0, _, _, _, _, _, _ => rfl
  | m + 1, p0, p1, p2, p3, p4, p5 => by
    rw [evLoopN_succ, body_35_67_0_0, Sp.L_35_67_0_0]
    repeat' first | apply Bgd_35_67_0_0 | apply Bcond_35_67_0_0 | exact loop_35_67_0_0 k m _ _ _ _ _ _ | rfl
theorem ok_35_67_0_0 {R : Type} (T : St) (k : Ex → St → Option R) (r : R) (h0 : o_35_67_0_0 G_35_67_0_0 T k = some r) : evLoopN (evCode sm_35 FU (evFn sm_35 fns FU 0) ir67_b0) (St.norm ir67_v0) FU T k = some r := by
  obtain ⟨p0, p1, p2, p3, p4, p5, rfl, h⟩ := o_35_67_0_0_inv h0
  refine evLoopN_L (t := .nil) noO_ok trivial _ _ _ _ ?_
  rw [loop_35_67_0_0]
  exact h
theorem body_35_67_0_1 {R : Type} (K0 : St → Option R) (K1 : Ex → St → Option R) (p0 : Nat) (p1 : Nat) (p2 : Nat) (p3 : Int) (p4 : List Int) (p5 : List Int) (p6 : List Int) (p7 : List Int) (p8 : List Int) : evLB (evCodeL sm_35 FU (ovr noO (evFn sm_35 fns FU 0)) .nil ir67_b0) (St.norm ir67_v0) (T_35_67_0_1 p0 p1 p2 p3 p4 p5 p6 p7 p8) K0 K1 =
  bif decide (p3 < (16 : Int)) then gd (sl3 (IntKind.wrap IntKind.i64 ((4 : Int) * p3)) (↑p1 : Int) (↑p1 : Int)) (gd (decide (p0 + Int.toNat (IntKind.wrap IntKind.i64 ((4 : Int) * p3)) + (Int.toNat (↑p1 : Int) - Int.toNat (IntKind.wrap IntKind.i64 ((4 : Int) * p3))) ≤ (128 : Nat)) && true && Sp.p_95 (List.take (Int.toNat (↑p1 : Int) - Int.toNat (IntKind.wrap IntKind.i64 ((4 : Int) * p3))) (List.drop (p0 + Int.toNat (IntKind.wrap IntKind.i64 ((4 : Int) * p3))) p7))) (gd (inB p3 (64 : Nat)) (gd (decide (Int.toNat p3 < (64 : Nat)) && true) (K0 (T_35_67_0_1 p0 p1 p2 (IntKind.wrap IntKind.i64 (p3 + (1 : Int))) p4 p5 p6 p7 (List.set p8 (Int.toNat p3) ((Sp.v_95 (List.take (Int.toNat (↑p1 : Int) - Int.toNat (IntKind.wrap IntKind.i64 ((4 : Int) * p3))) (List.drop (p0 + Int.toNat (IntKind.wrap IntKind.i64 ((4 : Int) * p3))) p7))).1))))))) else K1 (Ex.exit (0 : Nat)) (X_35_67_0_1_0 p4 p5 p6 p7 p8) := by kernel_rfl
theorem Bgd_35_67_0_1 {R : Type} {c : Bool} {x : Option R} {y : Option Sp.E_35_67_0_1} {k0 : (List Int) → (List Int) → (List Int) → (List Int) → (List Int) → Option R} (h : x = Sp.B_35_67_0_1 y k0) : gd c x = Sp.B_35_67_0_1 (gd c y) k0 := by cases c; rfl; exact h
theorem Bcond_35_67_0_1 {R : Type} {c : Bool} {x x' : Option R} {y y' : Option Sp.E_35_67_0_1} {k0 : (List Int) → (List Int) → (List Int) → (List Int) → (List Int) → Option R} (h : x = Sp.B_35_67_0_1 y k0) (h' : x' = Sp.B_35_67_0_1 y' k0) : (bif c then x else x') = Sp.B_35_67_0_1 (bif c then y else y') k0 := by cases c; exact h'; exact h
theorem loop_35_67_0_1 {R : Type} (k : Ex → St → Option R) : ∀ (m : Nat) (p0 : Nat) (p1 : Nat) (p2 : Nat) (p3 : Int) (p4 : List Int) (p5 : List Int) (p6 : List Int) (p7 : List Int) (p8 : List Int), evLoopN (evCodeL sm_35 FU (ovr noO (evFn sm_35 fns FU 0)) .nil ir67_b0) (St.norm ir67_v0) m (T_35_67_0_1 p0 p1 p2 p3 p4 p5 p6 p7 p8) k = Sp.B_35_67_0_1 (Sp.L_35_67_0_1 m p0 p1 p2 p3 p4 p5 p6 p7 p8) (fun p4 p5 p6 p7 p8 => k (Ex.exit (0 : Nat)) (X_35_67_0_1_0 p4 p5 p6 p7 p8))
  | 0, _, _, _, _, _, _, _, _, _ => rfl
  | m + 1, p0, p1, p2, p3, p4, p5, p6, p7, p8 => by
    rw [evLoopN_succ, body_35_67_0_1, Sp.L_35_67_0_1]
    repeat' first | apply Bgd_35_67_0_1 | apply Bcond_35_67_0_1 | exact loop_35_67_0_1 k m _ _ _ _ _ _ _ _ _ | rfl
theorem ok_35_67_0_1 {R : Type} (T : St) (k : Ex → St → Option R) (r : R) (h0 : o_35_67_0_1 G_35_67_0_1 T k = some r) : evLoopN (evCode sm_35 FU (evFn sm_35 fns FU 0) ir67_b0) (St.norm ir67_v0) FU T k = some r := by
  obtain ⟨p0, p1, p2, p3, p4, p5, p6, p7, p8, rfl, h⟩ := o_35_67_0_1_inv h0
  refine evLoopN_L (t := .nil) noO_ok trivial _ _ _ _ ?_
  rw [loop_35_67_0_1]
  exact h
theorem OK_35_67_0 {R : Type} (T : St) (k : Ex → St → Option R) (r : R) (h : O_35_67_0 T k = some r) : evLoopN (evCode sm_35 FU (evFn sm_35 fns FU 0) ir67_b0) (St.norm ir67_v0) FU T k = some r := by
  unfold O_35_67_0 at h
  cases hm : m_35_67_0_0 T
  rotate_left
  · rw [hm, cond_true] at h; exact ok_35_67_0_0 T k r h
  rw [hm, cond_false] at h
  clear hm
  cases hm : m_35_67_0_1 T
  rotate_left
  · rw [hm, cond_true] at h; exact ok_35_67_0_1 T k r h
  rw [hm, cond_false] at h
  clear hm
  cases h
theorem body_35_67_1_0 {R : Type} (K0 : St → Option R) (K1 : Ex → St → Option R) (p0 : Int) (p1 : List Int) (p2 : List Int) (p3 : List Int) (p4 : List Int) : evLB (evCodeL sm_35 FU (ovr noO (evFn sm_35 fns FU 0)) .nil ir67_b1) (St.norm ir67_v1) (T_35_67_1_0 p0 p1 p2 p3 p4) K0 K1 =
  bif decide (p0 < (64 : Int)) then gd (inB (IntKind.wrap IntKind.i64 (p0 - (15 : Int))) (64 : Nat)) (gd (decide (Int.toNat (IntKind.wrap IntKind.i64 (p0 - (15 : Int))) < (64 : Nat)) && true) (gd (inB (IntKind.wrap IntKind.i64 (p0 - (2 : Int))) (64 : Nat)) (gd (decide (Int.toNat (IntKind.wrap IntKind.i64 (p0 - (2 : Int))) < (64 : Nat)) && true) (gd (Sp.p_96 (List.getD p4 (Int.toNat (IntKind.wrap IntKind.i64 (p0 - (15 : Int)))) (0 : Int)) (7 : Int)) (gd (Sp.p_96 (List.getD p4 (Int.toNat (IntKind.wrap IntKind.i64 (p0 - (15 : Int)))) (0 : Int)) (18 : Int)) (gd (Sp.p_96 (List.getD p4 (Int.toNat (IntKind.wrap IntKind.i64 (p0 - (2 : Int)))) (0 : Int)) (17 : Int)) (gd (Sp.p_96 (List.getD p4 (Int.toNat (IntKind.wrap IntKind.i64 (p0 - (2 : Int)))) (0 : Int)) (19 : Int)) (gd (inB (IntKind.wrap IntKind.i64 (p0 - (7 : Int))) (64 : Nat)) (gd (decide (Int.toNat (IntKind.wrap IntKind.i64 (p0 - (7 : Int))) < (64 : Nat)) && true) (gd (inB (IntKind.wrap IntKind.i64 (p0 - (16 : Int))) (64 : Nat)) (gd (decide (Int.toNat (IntKind.wrap IntKind.i64 (p0 - (16 : Int))) < (64 : Nat)) && true) (gd (inB p0 (64 : Nat)) (gd (decide (Int.toNat p0 < (64 : Nat)) && true) (K0 (T_35_67_1_0 (IntKind.wrap IntKind.i64 (p0 + (1 : Int))) p1 p2 p3 (List.set p4 (Int.toNat p0) (IntKind.wrap IntKind.u32 (IntKind.wrap IntKind.u32 (IntKind.wrap IntKind.u32 (Sp.xorI IntKind.u32 (Sp.xorI IntKind.u32 ((Sp.v_96 (List.getD p4 (Int.toNat (IntKind.wrap IntKind.i64 (p0 - (2 : Int)))) (0 : Int)) (17 : Int)).1) ((Sp.v_96 (List.getD p4 (Int.toNat (IntKind.wrap IntKind.i64 (p0 - (2 : Int)))) (0 : Int)) (19 : Int)).1)) (Int.fdiv (List.getD p4 (Int.toNat (IntKind.wrap IntKind.i64 (p0 - (2 : Int)))) (0 : Int)) (1024 : Int)) + List.getD p4 (Int.toNat (IntKind.wrap IntKind.i64 (p0 - (7 : Int)))) (0 : Int)) + Sp.xorI IntKind.u32 (Sp.xorI IntKind.u32 ((Sp.v_96 (List.getD p4 (Int.toNat (IntKind.wrap IntKind.i64 (p0 - (15 : Int)))) (0 : Int)) (7 : Int)).1) ((Sp.v_96 (List.getD p4 (Int.toNat (IntKind.wrap IntKind.i64 (p0 - (15 : Int)))) (0 : Int)) (18 : Int)).1)) (Int.fdiv (List.getD p4 (Int.toNat (IntKind.wrap IntKind.i64 (p0 - (15 : Int)))) (0 : Int)) (8 : Int))) + List.getD p4 (Int.toNat (IntKind.wrap IntKind.i64 (p0 - (16 : Int)))) (0 : Int))))))))))))))))))) else K1 (Ex.exit (2 : Nat)) (X_35_67_1_0_0 p1 p2 p3 p4) := by kernel_rfl
theorem Bgd_35_67_1_0 {R : Type} {c : Bool} {x : Option R} {y : Option Sp.E_35_67_1_0} {k0 : (List Int) → (List Int) → (List Int) → (List Int) → Option R} (h : x = Sp.B_35_67_1_0 y k0) : gd c x = Sp.B_35_67_1_0 (gd c y) k0 := by cases c; rfl; exact h
theorem Bcond_35_67_1_0 {R : Type} {c : Bool} {x x' : Option R} {y y' : Option Sp.E_35_67_1_0} {k0 : (List Int) → (List Int) → (List Int) → (List Int) → Option R} (h : x = Sp.B_35_67_1_0 y k0) (h' : x' = Sp.B_35_67_1_0 y' k0) : (bif c then x else x') = Sp.B_35_67_1_0 (bif c then y else y') k0 := by cases c; exact h'; exact h
theorem loop_35_67_1_0 {R : Type} (k : Ex → St → Option R) : ∀ (m : Nat) (p0 : Int) (p1 : List Int) (p2 : List Int) (p3 : List Int) (p4 : List Int), evLoopN (evCodeL sm_35 FU (ovr noO (evFn sm_35 fns FU 0)) .nil ir67_b1) (St.norm ir67_v1) m (T_35_67_1_0 p0 p1 p2 p3 p4) k = Sp.B_35_67_1_0 (Sp.L_35_67_1_0 m p0 p1 p2 p3 p4) (fun p1 p2 p3 p4 => k (Ex.exit (2 : Nat)) (X_35_67_1_0_0 p1 p2 p3 p4))
  | 0, _, _, _, _, _ => rfl
  | m + 1, p0, p1, p2, p3, p4 => by
    rw [evLoopN_succ, body_35_67_1_0, Sp.L_35_67_1_0]
    repeat' first | apply Bgd_35_67_1_0 | apply Bcond_35_67_1_0 | exact loop_35_67_1_0 k m _ _ _ _ _ | rfl
theorem ok_35_67_1_0 {R : Type} (T : St) (k : Ex → St → Option R) (r : R) (h0 : o_35_67_1_0 G_35_67_1_0 T k = some r) : evLoopN (evCode sm_35 FU (evFn sm_35 fns FU 0) ir67_b1) (St.norm ir67_v1) FU T k = some r := by
  obtain ⟨p0, p1, p2, p3, p4, rfl, h⟩ := o_35_67_1_0_inv h0
  refine evLoopN_L (t := .nil) noO_ok trivial _ _ _ _ ?_
  rw [loop_35_67_1_0]
  exact h
theorem body_35_67_1_1 {R : Type} (K0 : St → Option R) (K1 : Ex → St → Option R) (p0 : Int) (p1 : List Int) (p2 : List Int) (p3 : List Int) (p4 : List Int) (p5 : List Int) : evLB (evCodeL sm_35 FU (ovr noO (evFn sm_35 fns FU 0)) .nil ir67_b1) (St.norm ir67_v1) (T_35_67_1_1 p0 p1 p2 p3 p4 p5) K0 K1 =
  bif decide (p0 < (64 : Int)) then gd (inB (IntKind.wrap IntKind.i64 (p0 - (15 : Int))) (64 : Nat)) (gd (decide (Int.toNat (IntKind.wrap IntKind.i64 (p0 - (15 : Int))) < (64 : Nat)) && true) (gd (inB (IntKind.wrap IntKind.i64 (p0 - (2 : Int))) (64 : Nat)) (gd (decide (Int.toNat (IntKind.wrap IntKind.i64 (p0 - (2 : Int))) < (64 : Nat)) && true) (gd (Sp.p_96 (List.getD p5 (Int.toNat (IntKind.wrap IntKind.i64 (p0 - (15 : Int)))) (0 : Int)) (7 : Int)) (gd (Sp.p_96 (List.getD p5 (Int.toNat (IntKind.wrap IntKind.i64 (p0 - (15 : Int)))) (0 : Int)) (18 : Int)) (gd (Sp.p_96 (List.getD p5 (Int.toNat (IntKind.wrap IntKind.i64 (p0 - (2 : Int)))) (0 : Int)) (17 : Int)) (gd (Sp.p_96 (List.getD p5 (Int.toNat (IntKind.wrap IntKind.i64 (p0 - (2 : Int)))) (0 : Int)) (19 : Int)) (gd (inB (IntKind.wrap IntKind.i64 (p0 - (7 : Int))) (64 : Nat)) (gd (decide (Int.toNat (IntKind.wrap IntKind.i64 (p0 - (7 : Int))) < (64 : Nat)) && true) (gd (inB (IntKind.wrap IntKind.i64 (p0 - (16 : Int))) (64 : Nat)) (gd (decide (Int.toNat (IntKind.wrap IntKind.i64 (p0 - (16 : Int))) < (64 : Nat)) && true) (gd (inB p0 (64 : Nat)) (gd (decide (Int.toNat p0 < (64 : Nat)) && true) (K0 (T_35_67_1_1 (IntKind.wrap IntKind.i64 (p0 + (1 : Int))) p1 p2 p3 p4 (List.set p5 (Int.toNat p0) (IntKind.wrap IntKind.u32 (IntKind.wrap IntKind.u32 (IntKind.wrap IntKind.u32 (Sp.xorI IntKind.u32 (Sp.xorI IntKind.u32 ((Sp.v_96 (List.getD p5 (Int.toNat (IntKind.wrap IntKind.i64 (p0 - (2 : Int)))) (0 : Int)) (17 : Int)).1) ((Sp.v_96 (List.getD p5 (Int.toNat (IntKind.wrap IntKind.i64 (p0 - (2 : Int)))) (0 : Int)) (19 : Int)).1)) (Int.fdiv (List.getD p5 (Int.toNat (IntKind.wrap IntKind.i64 (p0 - (2 : Int)))) (0 : Int)) (1024 : Int)) + List.getD p5 (Int.toNat (IntKind.wrap IntKind.i64 (p0 - (7 : Int)))) (0 : Int)) + Sp.xorI IntKind.u32 (Sp.xorI IntKind.u32 ((Sp.v_96 (List.getD p5 (Int.toNat (IntKind.wrap IntKind.i64 (p0 - (15 : Int)))) (0 : Int)) (7 : Int)).1) ((Sp.v_96 (List.getD p5 (Int.toNat (IntKind.wrap IntKind.i64 (p0 - (15 : Int)))) (0 : Int)) (18 : Int)).1)) (Int.fdiv (List.getD p5 (Int.toNat (IntKind.wrap IntKind.i64 (p0 - (15 : Int)))) (0 : Int)) (8 : Int))) + List.getD p5 (Int.toNat (IntKind.wrap IntKind.i64 (p0 - (16 : Int)))) (0 : Int))))))))))))))))))) else K1 (Ex.exit (2 : Nat)) (X_35_67_1_1_0 p1 p2 p3 p4 p5) := by kernel_rfl
theorem Bgd_35_67_1_1 {R : Type} {c : Bool} {x : Option R} {y : Option Sp.E_35_67_1_1} {k0 : (List Int) → (List Int) → (List Int) → (List Int) → (List Int) → Option R} (h : x = Sp.B_35_67_1_1 y k0) : gd c x = Sp.B_35_67_1_1 (gd c y) k0 := by cases c; rfl; exact h
theorem Bcond_35_67_1_1 {R : Type} {c : Bool} {x x' : Option R} {y y' : Option Sp.E_35_67_1_1} {k0 : (List Int) → (List Int) → (List Int) → (List Int) → (List Int) → Option R} (h : x = Sp.B_35_67_1_1 y k0) (h' : x' = Sp.B_35_67_1_1 y' k0) : (bif c then x else x') = Sp.B_35_67_1_1 (bif c then y else y') k0 := by cases c; exact h'; exact h
theorem loop_35_67_1_1 {R : Type} (k : Ex → St → Option R) : ∀ (m : Nat) (p0 : Int) (p1 : List Int) (p2 : List Int) (p3 : List Int) (p4 : List Int) (p5 : List Int), evLoopN (evCodeL sm_35 FU (ovr noO (evFn sm_35 fns FU 0)) .nil ir67_b1) (St.norm ir67_v1) m (T_35_67_1_1 p0 p1 p2 p3 p4 p5) k = Sp.B_35_67_1_1 (Sp.L_35_67_1_1 m p0 p1 p2 p3 p4 p5) (fun p1 p2 p3 p4 p5 => k (Ex.exit (2 : Nat)) (X_35_67_1_1_0 p1 p2 p3 p4 p5))
  | 0, _, _, _, _, _, _ => rfl
  | m + 1, p0, p1, p2, p3, p4, p5 => by
    rw [evLoopN_succ, body_35_67_1_1, Sp.L_35_67_1_1]
    repeat' first | apply Bgd_35_67_1_1 | apply Bcond_35_67_1_1 | exact loop_35_67_1_1 k m _ _ _ _ _ _ | rfl
theorem ok_35_67_1_1 {R : Type} (T : St) (k : Ex → St → Option R) (r : R) (h0 : o_35_67_1_1 G_35_67_1_1 T k = some r) : evLoopN (evCode sm_35 FU (evFn sm_35 fns FU 0) ir67_b1) (St.norm ir67_v1) FU T k = some r := by
  obtain ⟨p0, p1, p2, p3, p4, p5, rfl, h⟩ := o_35_67_1_1_inv h0
  refine evLoopN_L (t := .nil) noO_ok trivial _ _ _ _ ?_
  rw [loop_35_67_1_1]
  exact h
theorem OK_35_67_1 {R : Type} (T : St) (k : Ex → St → Option R) (r : R) (h : O_35_67_1 T k = some r) : evLoopN (evCode sm_35 FU (evFn sm_35 fns FU 0) ir67_b1) (St.norm ir67_v1) FU T k = some r := by
  unfold O_35_67_1 at h
  cases hm : m_35_67_1_0 T
  rotate_left
  · rw [hm, cond_true] at h; exact ok_35_67_1_0 T k r h
  rw [hm, cond_false] at h
  clear hm
  cases hm : m_35_67_1_1 T
  rotate_left
  · rw [hm, cond_true] at h; exact ok_35_67_1_1 T k r h
  rw [hm, cond_false] at h
  clear hm
  cases h
theorem body_35_67_2_0 {R : Type} (K0 : St → Option R) (K1 : Ex → St → Option R) (p0 : Int) (p1 : List Int) (p2 : List Int) (p3 : List Int) (p4 : List Int) (p5 : List Int) : evLB (evCodeL sm_35 FU (ovr noO (evFn sm_35 fns FU 0)) .nil ir67_b2) (St.norm ir67_v2) (T_35_67_2_0 p0 p1 p2 p3 p4 p5) K0 K1 =
  bif decide (p0 < (64 : Int)) then gd (Sp.p_96 (List.getD p5 (4 : Nat) (0 : Int)) (6 : Int)) (gd (Sp.p_96 (List.getD p5 (4 : Nat) (0 : Int)) (11 : Int)) (gd (Sp.p_96 (List.getD p5 (4 : Nat) (0 : Int)) (25 : Int)) (gd (inB p0 (64 : Nat)) (gd (decide (Int.toNat p0 < (64 : Nat)) && true) (gd (inB p0 (64 : Nat)) (gd (decide (Int.toNat p0 < (64 : Nat)) && true) (gd (Sp.p_96 (List.getD p5 (0 : Nat) (0 : Int)) (2 : Int)) (gd (Sp.p_96 (List.getD p5 (0 : Nat) (0 : Int)) (13 : Int)) (gd (Sp.p_96 (List.getD p5 (0 : Nat) (0 : Int)) (22 : Int)) (K0 (T_35_67_2_0 (IntKind.wrap IntKind.i64 (p0 + (1 : Int))) p1 p2 p3 p4 [IntKind.wrap IntKind.u32 (IntKind.wrap IntKind.u32 (IntKind.wrap IntKind.u32 (IntKind.wrap IntKind.u32 (IntKind.wrap IntKind.u32 (List.getD p5 (7 : Nat) (0 : Int) + Sp.xorI IntKind.u32 (Sp.xorI IntKind.u32 ((Sp.v_96 (List.getD p5 (4 : Nat) (0 : Int)) (6 : Int)).1) ((Sp.v_96 (List.getD p5 (4 : Nat) (0 : Int)) (11 : Int)).1)) ((Sp.v_96 (List.getD p5 (4 : Nat) (0 : Int)) (25 : Int)).1)) + Sp.xorI IntKind.u32 (Sp.andI IntKind.u32 (List.getD p5 (4 : Nat) (0 : Int)) (List.getD p5 (5 : Nat) (0 : Int))) (Sp.andI IntKind.u32 (Sp.xorI IntKind.u32 (4294967295 : Int) (List.getD p5 (4 : Nat) (0 : Int))) (List.getD p5 (6 : Nat) (0 : Int)))) + List.getD p3 (Int.toNat p0) (0 : Int)) + List.getD p4 (Int.toNat p0) (0 : Int)) + IntKind.wrap IntKind.u32 (Sp.xorI IntKind.u32 (Sp.xorI IntKind.u32 ((Sp.v_96 (List.getD p5 (0 : Nat) (0 : Int)) (2 : Int)).1) ((Sp.v_96 (List.getD p5 (0 : Nat) (0 : Int)) (13 : Int)).1)) ((Sp.v_96 (List.getD p5 (0 : Nat) (0 : Int)) (22 : Int)).1) + Sp.xorI IntKind.u32 (Sp.xorI IntKind.u32 (Sp.andI IntKind.u32 (List.getD p5 (0 : Nat) (0 : Int)) (List.getD p5 (1 : Nat) (0 : Int))) (Sp.andI IntKind.u32 (List.getD p5 (0 : Nat) (0 : Int)) (List.getD p5 (2 : Nat) (0 : Int)))) (Sp.andI IntKind.u32 (List.getD p5 (1 : Nat) (0 : Int)) (List.getD p5 (2 : Nat) (0 : Int))))), List.getD p5 (0 : Nat) (0 : Int), List.getD p5 (1 : Nat) (0 : Int), List.getD p5 (2 : Nat) (0 : Int), IntKind.wrap IntKind.u32 (List.getD p5 (3 : Nat) (0 : Int) + IntKind.wrap IntKind.u32 (IntKind.wrap IntKind.u32 (IntKind.wrap IntKind.u32 (IntKind.wrap IntKind.u32 (List.getD p5 (7 : Nat) (0 : Int) + Sp.xorI IntKind.u32 (Sp.xorI IntKind.u32 ((Sp.v_96 (List.getD p5 (4 : Nat) (0 : Int)) (6 : Int)).1) ((Sp.v_96 (List.getD p5 (4 : Nat) (0 : Int)) (11 : Int)).1)) ((Sp.v_96 (List.getD p5 (4 : Nat) (0 : Int)) (25 : Int)).1)) + Sp.xorI IntKind.u32 (Sp.andI IntKind.u32 (List.getD p5 (4 : Nat) (0 : Int)) (List.getD p5 (5 : Nat) (0 : Int))) (Sp.andI IntKind.u32 (Sp.xorI IntKind.u32 (4294967295 : Int) (List.getD p5 (4 : Nat) (0 : Int))) (List.getD p5 (6 : Nat) (0 : Int)))) + List.getD p3 (Int.toNat p0) (0 : Int)) + List.getD p4 (Int.toNat p0) (0 : Int))), List.getD p5 (4 : Nat) (0 : Int), List.getD p5 (5 : Nat) (0 : Int), List.getD p5 (6 : Nat) (0 : Int)]))))))))))) else K1 (Ex.exit (4 : Nat)) (X_35_67_2_0_0 p1 p2 p3 p5) := by kernel_rfl
theorem Bgd_35_67_2_0 {R : Type} {c : Bool} {x : Option R} {y : Option Sp.E_35_67_2_0} {k0 : (List Int) → (List Int) → (List Int) → (List Int) → Option R} (h : x = Sp.B_35_67_2_0 y k0) : gd c x = Sp.B_35_67_2_0 (gd c y) k0 := by cases c; rfl; exact h
theorem Bcond_35_67_2_0 {R : Type} {c : Bool} {x x' : Option R} {y y' : Option Sp.E_35_67_2_0} {k0 : (List Int) → (List Int) → (List Int) → (List Int) → Option R} (h : x = Sp.B_35_67_2_0 y k0) (h' : x' = Sp.B_35_67_2_0 y' k0) : (bif c then x else x') = Sp.B_35_67_2_0 (bif c then y else y') k0 := by cases c; exact h'; exact h
theorem loop_35_67_2_0 {R : Type} (k : Ex → St → Option R) : ∀ (m : Nat) (p0 : Int) (p1 : List Int) (p2 : List Int) (p3 : List Int) (p4 : List Int) (p5 : List Int), evLoopN (evCodeL sm_35 FU (ovr noO (evFn sm_35 fns FU 0)) .nil ir67_b2) (St.norm ir67_v2) m (T_35_67_2_0 p0 p1 p2 p3 p4 p5) k = Sp.B_35_67_2_0 (Sp.L_35_67_2_0 m p0 p1 p2 p3 p4 p5) (fun p1 p2 p3 p5 => k (Ex.exit (4 : Nat)) (X_35_67_2_0_0 p1 p2 p3 p5))
  | 0, _, _, _, _, _, _ => rfl
  | m + 1, p0, p1, p2, p3, p4, p5 => by
    rw [evLoopN_succ, body_35_67_2_0, Sp.L_35_67_2_0]
    repeat' first | apply Bgd_35_67_2_0 | apply Bcond_35_67_2_0 | exact loop_35_67_2_0 k m _ _ _ _ _ _ | rfl
theorem ok_35_67_2_0 {R : Type} (T : St) (k : Ex → St → Option R) (r : R) (h0 : o_35_67_2_0 G_35_67_2_0 T k = some r) : evLoopN (evCode sm_35 FU (evFn sm_35 fns FU 0) ir67_b2) (St.norm ir67_v2) FU T k = some r := by
  obtain ⟨p0, p1, p2, p3, p4, p5, rfl, h⟩ := o_35_67_2_0_inv h0
  refine evLoopN_L (t := .nil) noO_ok trivial _ _ _ _ ?_
  rw [loop_35_67_2_0]
  exact h
theorem body_35_67_2_1 {R : Type} (K0 : St → Option R) (K1 : Ex → St → Option R) (p0 : Int) (p1 : List Int) (p2 : List Int) (p3 : List Int) (p4 : List Int) (p5 : List Int) (p6 : List Int) : evLB (evCodeL sm_35 FU (ovr noO (evFn sm_35 fns FU 0)) .nil ir67_b2) (St.norm ir67_v2) (T_35_67_2_1 p0 p1 p2 p3 p4 p5 p6) K0 K1 =
  bif decide (p0 < (64 : Int)) then gd (Sp.p_96 (List.getD p6 (4 : Nat) (0 : Int)) (6 : Int)) (gd (Sp.p_96 (List.getD p6 (4 : Nat) (0 : Int)) (11 : Int)) (gd (Sp.p_96 (List.getD p6 (4 : Nat) (0 : Int)) (25 : Int)) (gd (inB p0 (64 : Nat)) (gd (decide (Int.toNat p0 < (64 : Nat)) && true) (gd (inB p0 (64 : Nat)) (gd (decide (Int.toNat p0 < (64 : Nat)) && true) (gd (Sp.p_96 (List.getD p6 (0 : Nat) (0 : Int)) (2 : Int)) (gd (Sp.p_96 (List.getD p6 (0 : Nat) (0 : Int)) (13 : Int)) (gd (Sp.p_96 (List.getD p6 (0 : Nat) (0 : Int)) (22 : Int)) (K0 (T_35_67_2_1 (IntKind.wrap IntKind.i64 (p0 + (1 : Int))) p1 p2 p3 p4 p5 [IntKind.wrap IntKind.u32 (IntKind.wrap IntKind.u32 (IntKind.wrap IntKind.u32 (IntKind.wrap IntKind.u32 (IntKind.wrap IntKind.u32 (List.getD p6 (7 : Nat) (0 : Int) + Sp.xorI IntKind.u32 (Sp.xorI IntKind.u32 ((Sp.v_96 (List.getD p6 (4 : Nat) (0 : Int)) (6 : Int)).1) ((Sp.v_96 (List.getD p6 (4 : Nat) (0 : Int)) (11 : Int)).1)) ((Sp.v_96 (List.getD p6 (4 : Nat) (0 : Int)) (25 : Int)).1)) + Sp.xorI IntKind.u32 (Sp.andI IntKind.u32 (List.getD p6 (4 : Nat) (0 : Int)) (List.getD p6 (5 : Nat) (0 : Int))) (Sp.andI IntKind.u32 (Sp.xorI IntKind.u32 (4294967295 : Int) (List.getD p6 (4 : Nat) (0 : Int))) (List.getD p6 (6 : Nat) (0 : Int)))) + List.getD p3 (Int.toNat p0) (0 : Int)) + List.getD p5 (Int.toNat p0) (0 : Int)) + IntKind.wrap IntKind.u32 (Sp.xorI IntKind.u32 (Sp.xorI IntKind.u32 ((Sp.v_96 (List.getD p6 (0 : Nat) (0 : Int)) (2 : Int)).1) ((Sp.v_96 (List.getD p6 (0 : Nat) (0 : Int)) (13 : Int)).1)) ((Sp.v_96 (List.getD p6 (0 : Nat) (0 : Int)) (22 : Int)).1) + Sp.xorI IntKind.u32 (Sp.xorI IntKind.u32 (Sp.andI IntKind.u32 (List.getD p6 (0 : Nat) (0 : Int)) (List.getD p6 (1 : Nat) (0 : Int))) (Sp.andI IntKind.u32 (List.getD p6 (0 : Nat) (0 : Int)) (List.getD p6 (2 : Nat) (0 : Int)))) (Sp.andI IntKind.u32 (List.getD p6 (1 : Nat) (0 : Int)) (List.getD p6 (2 : Nat) (0 : Int))))), List.getD p6 (0 : Nat) (0 : Int), List.getD p6 (1 : Nat) (0 : Int), List.getD p6 (2 : Nat) (0 : Int), IntKind.wrap IntKind.u32 (List.getD p6 (3 : Nat) (0 : Int) + IntKind.wrap IntKind.u32 (IntKind.wrap IntKind.u32 (IntKind.wrap IntKind.u32 (IntKind.wrap IntKind.u32 (List.getD p6 (7 : Nat) (0 : Int) + Sp.xorI IntKind.u32 (Sp.xorI IntKind.u32 ((Sp.v_96 (List.getD p6 (4 : Nat) (0 : Int)) (6 : Int)).1) ((Sp.v_96 (List.getD p6 (4 : Nat) (0 : Int)) (11 : Int)).1)) ((Sp.v_96 (List.getD p6 (4 : Nat) (0 : Int)) (25 : Int)).1)) + Sp.xorI IntKind.u32 (Sp.andI IntKind.u32 (List.getD p6 (4 : Nat) (0 : Int)) (List.getD p6 (5 : Nat) (0 : Int))) (Sp.andI IntKind.u32 (Sp.xorI IntKind.u32 (4294967295 : Int) (List.getD p6 (4 : Nat) (0 : Int))) (List.getD p6 (6 : Nat) (0 : Int)))) + List.getD p3 (Int.toNat p0) (0 : Int)) + List.getD p5 (Int.toNat p0) (0 : Int))), List.getD p6 (4 : Nat) (0 : Int), List.getD p6 (5 : Nat) (0 : Int), List.getD p6 (6 : Nat) (0 : Int)]))))))))))) else K1 (Ex.exit (4 : Nat)) (X_35_67_2_1_0 p1 p2 p3 p4 p6) := by kernel_rfl
theorem Bgd_35_67_2_1 {R : Type} {c : Bool} {x : Option R} {y : Option Sp.E_35_67_2_1} {k0 : (List Int) → (List Int) → (List Int) → (List Int) → (List Int) → Option R} (h : x = Sp.B_35_67_2_1 y k0) : gd c x = Sp.B_35_67_2_1 (gd c y) k0 := by cases c; rfl; exact h
theorem Bcond_35_67_2_1 {R : Type} {c : Bool} {x x' : Option R} {y y' : Option Sp.E_35_67_2_1} {k0 : (List Int) → (List Int) → (List Int) → (List Int) → (List Int) → Option R} (h : x = Sp.B_35_67_2_1 y k0) (h' : x' = Sp.B_35_67_2_1 y' k0) : (bif c then x else x') = Sp.B_35_67_2_1 (bif c then y else y') k0 := by cases c; exact h'; exact h
theorem loop_35_67_2_1 {R : Type} (k : Ex → St → Option R) : ∀ (m : Nat) (p0 : Int) (p1 : List Int) (p2 : List Int) (p3 : List Int) (p4 : List Int) (p5 : List Int) (p6 : List Int), evLoopN (evCodeL sm_35 FU (ovr noO (evFn sm_35 fns FU 0)) .nil ir67_b2) (St.norm ir67_v2) m (T_35_67_2_1 p0 p1 p2 p3 p4 p5 p6) k = Sp.B_35_67_2_1 (Sp.L_35_67_2_1 m p0 p1 p2 p3 p4 p5 p6) (fun p1 p2 p3 p4 p6 => k (Ex.exit (4 : Nat)) (X_35_67_2_1_0 p1 p2 p3 p4 p6))
  | 0, _, _, _, _, _, _, _ => rfl
  | m + 1, p0, p1, p2, p3, p4, p5, p6 => by
    rw [evLoopN_succ, body_35_67_2_1, Sp.L_35_67_2_1]
    repeat' first | apply Bgd_35_67_2_1 | apply Bcond_35_67_2_1 | exact loop_35_67_2_1 k m _ _ _ _ _ _ _ | rfl
theorem ok_35_67_2_1 {R : Type} (T : St) (k : Ex → St → Option R) (r : R) (h0 : o_35_67_2_1 G_35_67_2_1 T k = some r) : evLoopN (evCode sm_35 FU (evFn sm_35 fns FU 0) ir67_b2) (St.norm ir67_v2) FU T k = some r := by
  obtain ⟨p0, p1, p2, p3, p4, p5, p6, rfl, h⟩ := o_35_67_2_1_inv h0
  refine evLoopN_L (t := .nil) noO_ok trivial _ _ _ _ ?_
  rw [loop_35_67_2_1]
  exact h
theorem OK_35_67_2 {R : Type} (T : St) (k : Ex → St → Option R) (r : R) (h : O_35_67_2 T k = some r) : evLoopN (evCode sm_35 FU (evFn sm_35 fns FU 0) ir67_b2) (St.norm ir67_v2) FU T k = some r := by
  unfold O_35_67_2 at h
  cases hm : m_35_67_2_0 T
  rotate_left
  · rw [hm, cond_true] at h; exact ok_35_67_2_0 T k r h
  rw [hm, cond_false] at h
  clear hm
  cases hm : m_35_67_2_1 T
  rotate_left
  · rw [hm, cond_true] at h; exact ok_35_67_2_1 T k r h
  rw [hm, cond_false] at h
  clear hm
  cases h
theorem body_35_67_3_0 {R : Type} (K0 : St → Option R) (K1 : Ex → St → Option R) (p0 : Int) (p1 : List Int) (p2 : List Int) (p3 : List Int) (p4 : List Int) : evLB (evCodeL sm_35 FU (ovr noO (evFn sm_35 fns FU 0)) .nil ir67_b3) (St.norm ir67_v3) (T_35_67_3_0 p0 p1 p2 p3 p4) K0 K1 =
  bif decide (p0 < (8 : Int)) then gd (inB p0 (8 : Nat)) (gd (decide (Int.toNat p0 < (8 : Nat)) && true) (gd (inB p0 (8 : Nat)) (gd (decide (Int.toNat p0 < (8 : Nat)) && true) (gd (inB p0 (8 : Nat)) (gd (decide (Int.toNat p0 < (8 : Nat)) && true) (K0 (T_35_67_3_0 (IntKind.wrap IntKind.i64 (p0 + (1 : Int))) p1 (List.set p2 (Int.toNat p0) (IntKind.wrap IntKind.u32 (List.getD p2 (Int.toNat p0) (0 : Int) + List.getD p4 (Int.toNat p0) (0 : Int)))) p3 p4))))))) else K1 (Ex.exit (6 : Nat)) (X_35_67_3_0_0 p1 p2 p3) := by kernel_rfl
theorem Bgd_35_67_3_0 {R : Type} {c : Bool} {x : Option R} {y : Option Sp.E_35_67_3_0} {k0 : (List Int) → (List Int) → (List Int) → Option R} (h : x = Sp.B_35_67_3_0 y k0) : gd c x = Sp.B_35_67_3_0 (gd c y) k0 := by cases c; rfl; exact h
theorem Bcond_35_67_3_0 {R : Type} {c : Bool} {x x' : Option R} {y y' : Option Sp.E_35_67_3_0} {k0 : (List Int) → (List Int) → (List Int) → Option R} (h : x = Sp.B_35_67_3_0 y k0) (h' : x' = Sp.B_35_67_3_0 y' k0) : (bif c then x else x') = Sp.B_35_67_3_0 (bif c then y else y') k0 := by cases c; exact h'; exact h
theorem loop_35_67_3_0 {R : Type} (k : Ex → St → Option R) : ∀ (m : Nat) (p0 : Int) (p1 : List Int) (p2 : List Int) (p3 : List Int) (p4 : List Int), evLoopN (evCodeL sm_35 FU (ovr noO (evFn sm_35 fns FU 0)) .nil ir67_b3) (St.norm ir67_v3) m (T_35_67_3_0 p0 p1 p2 p3 p4) k = Sp.B_35_67_3_0 (Sp.L_35_67_3_0 m p0 p1 p2 p3 p4) (fun p1 p2 p3 => k (Ex.exit (6 : Nat)) (X_35_67_3_0_0 p1 p2 p3))
  | 0, _, _, _, _, _ => rfl
  | m + 1, p0, p1, p2, p3, p4 => by
    rw [evLoopN_succ, body_35_67_3_0, Sp.L_35_67_3_0]
    repeat' first | apply Bgd_35_67_3_0 | apply Bcond_35_67_3_0 | exact loop_35_67_3_0 k m _ _ _ _ _ | rfl
theorem ok_35_67_3_0 {R : Type} (T : St) (k : Ex → St → Option R) (r : R) (h0 : o_35_67_3_0 G_35_67_3_0 T k = some r) : evLoopN (evCode sm_35 FU (evFn sm_35 fns FU 0) ir67_b3) (St.norm ir67_v3) FU T k = some r := by
  obtain ⟨p0, p1, p2, p3, p4, rfl, h⟩ := o_35_67_3_0_inv h0
  refine evLoopN_L (t := .nil) noO_ok trivial _ _ _ _ ?_
  rw [loop_35_67_3_0]
  exact h
theorem body_35_67_3_1 {R : Type} (K0 : St → Option R) (K1 : Ex → St → Option R) (p0 : Int) (p1 : List Int) (p2 : List Int) (p3 : List Int) (p4 : List Int) (p5 : List Int) : evLB (evCodeL sm_35 FU (ovr noO (evFn sm_35 fns FU 0)) .nil ir67_b3) (St.norm ir67_v3) (T_35_67_3_1 p0 p1 p2 p3 p4 p5) K0 K1 =
  bif decide (p0 < (8 : Int)) then gd (inB p0 (8 : Nat)) (gd (decide (Int.toNat p0 < (8 : Nat)) && true) (gd (inB p0 (8 : Nat)) (gd (decide (Int.toNat p0 < (8 : Nat)) && true) (gd (inB p0 (8 : Nat)) (gd (decide (Int.toNat p0 < (8 : Nat)) && true) (K0 (T_35_67_3_1 (IntKind.wrap IntKind.i64 (p0 + (1 : Int))) p1 (List.set p2 (Int.toNat p0) (IntKind.wrap IntKind.u32 (List.getD p2 (Int.toNat p0) (0 : Int) + List.getD p5 (Int.toNat p0) (0 : Int)))) p3 p4 p5))))))) else K1 (Ex.exit (6 : Nat)) (X_35_67_3_1_0 p1 p2 p3 p4) := by kernel_rfl
theorem Bgd_35_67_3_1 {R : Type} {c : Bool} {x : Option R} {y : Option Sp.E_35_67_3_1} {k0 : (List Int) → (List Int) → (List Int) → (List Int) → Option R} (h : x = Sp.B_35_67_3_1 y k0) : gd c x = Sp.B_35_67_3_1 (gd c y) k0 := by cases c; rfl; exact h
theorem Bcond_35_67_3_1 {R : Type} {c : Bool} {x x' : Option R} {y y' : Option Sp.E_35_67_3_1} {k0 : (List Int) → (List Int) → (List Int) → (List Int) → Option R} (h : x = Sp.B_35_67_3_1 y k0) (h' : x' = Sp.B_35_67_3_1 y' k0) : (bif c then x else x') = Sp.B_35_67_3_1 (bif c then y else y') k0 := by cases c; exact h'; exact h
theorem loop_35_67_3_1 {R : Type} (k : Ex → St → Option R) : ∀ (m : Nat) (p0 : Int) (p1 : List Int) (p2 : List Int) (p3 : List Int) (p4 : List Int) (p5 : List Int), evLoopN (evCodeL sm_35 FU (ovr noO (evFn sm_35 fns FU 0)) .nil ir67_b3) (St.norm ir67_v3) m (T_35_67_3_1 p0 p1 p2 p3 p4 p5) k = Sp.B_35_67_3_1 (Sp.L_35_67_3_1 m p0 p1 p2 p3 p4 p5) (fun p1 p2 p3 p4 => k (Ex.exit (6 : Nat)) (X_35_67_3_1_0 p1 p2 p3 p4))
  | 0, _, _, _, _, _, _ => rfl
  | m + 1, p0, p1, p2, p3, p4, p5 => by
    rw [evLoopN_succ, body_35_67_3_1, Sp.L_35_67_3_1]
    repeat' first | apply Bgd_35_67_3_1 | apply Bcond_35_67_3_1 | exact loop_35_67_3_1 k m _ _ _ _ _ _ | rfl
theorem ok_35_67_3_1 {R : Type} (T : St) (k : Ex → St → Option R) (r : R) (h0 : o_35_67_3_1 G_35_67_3_1 T k = some r) : evLoopN (evCode sm_35 FU (evFn sm_35 fns FU 0) ir67_b3) (St.norm ir67_v3) FU T k = some r := by
  obtain ⟨p0, p1, p2, p3, p4, p5, rfl, h⟩ := o_35_67_3_1_inv h0
  refine evLoopN_L (t := .nil) noO_ok trivial _ _ _ _ ?_
  rw [loop_35_67_3_1]
  exact h
theorem OK_35_67_3 {R : Type} (T : St) (k : Ex → St → Option R) (r : R) (h : O_35_67_3 T k = some r) : evLoopN (evCode sm_35 FU (evFn sm_35 fns FU 0) ir67_b3) (St.norm ir67_v3) FU T k = some r := by
  unfold O_35_67_3 at h
  cases hm : m_35_67_3_0 T
  rotate_left
  · rw [hm, cond_true] at h; exact ok_35_67_3_0 T k r h
  rw [hm, cond_false] at h
  clear hm
  cases hm : m_35_67_3_1 T
  rotate_left
  · rw [hm, cond_true] at h; exact ok_35_67_3_1 T k r h
  rw [hm, cond_false] at h
  clear hm
  cases h
theorem g_35_67_ok {R : Type} (args : List CV) (hp : List Blk) (k : CV → List Blk → Option R) (r : R) (h : g_35_67 args hp k = some r) : evFn sm_35 fns FU 1 67 args hp k = some r :=
  evFnL_sound (fn := ir67) (t := (ir67_t O_35_67_0 O_35_67_1 O_35_67_2 O_35_67_3)) (o := noO) rfl noO_ok (ir67_tok (fun T k r => OK_35_67_0 T k r) (fun T k r => OK_35_67_1 T k r) (fun T k r => OK_35_67_2 T k r) (fun T k r => OK_35_67_3 T k r)) h
theorem ov_35_35_ok {R : Type} : OvrOK (R := R) (fun f' => bif Nat.beq f' 67 then some (g_35_67) else none) (evFn sm_35 fns FU 1) := by
  intro f' g h args hp k r hg
  dsimp only at h
  by_cases h67 : f' = 67
  · subst h67
    injection h with h
    subst h
    exact evFn_le 0 (g_35_67_ok _ _ _ _ hg)
  rw [nbeq_ne h67, cond_false] at h
  cases h
theorem body_35_0 {R : Type} (K0 : St → Option R) (K1 : Ex → St → Option R) (p0 : List Int) (p1 : List Int) (p2 : List Int) (p3 : List Int) (p4 : List Int) : evLB (evCodeL sm_35 FU (ovr (fun f' => bif Nat.beq f' 67 then some (g_35_67) else none) (evFn sm_35 fns FU 1)) .nil ir35_b0) (St.norm ir35_v0) (T_35_0 p0 p1 p2 p3 p4) K0 K1 =
  bif decide ((↑(List.length p1) : Int) ≥ (64 : Int)) then gd (sl3 (0 : Int) (64 : Int) (↑(List.length p1) : Int)) (Sp.B_35_67_0_0 (Sp.L_35_67_0_0 (4611686018427387904 : Nat) (List.take (64 : Nat) (List.drop (0 : Nat) p1)) (0 : Int) p2 p3 p4 (List.replicate (64 : Nat) (0 : Int))) fun y19 y20 y21 y22 => Sp.B_35_67_1_0 (Sp.L_35_67_1_0 (4611686018427387904 : Nat) (16 : Int) y19 y20 y21 y22) fun y23 y24 y25 y26 => Sp.B_35_67_2_0 (Sp.L_35_67_2_0 (4611686018427387904 : Nat) (0 : Int) y23 y24 y25 y26 y24) fun y27 y28 y29 y30 => Sp.B_35_67_3_0 (Sp.L_35_67_3_0 (4611686018427387904 : Nat) (0 : Int) y27 y28 y29 y30) fun y31 y32 y33 => gd (sl3 (64 : Int) (↑(List.length p1) : Int) (↑(List.length p1) : Int)) (K0 (T_35_0 p0 (List.drop (64 : Nat) p1) y31 y32 y33))) else K1 (Ex.exit (0 : Nat)) (X_35_0_0 p0 p1 p2 p3 p4) := by kernel_rfl
theorem Bgd_35_0 {R : Type} {c : Bool} {x : Option R} {y : Option Sp.E_35_0} {k0 : (List Int) → (List Int) → (List Int) → (List Int) → (List Int) → Option R} (h : x = Sp.B_35_0 y k0) : gd c x = Sp.B_35_0 (gd c y) k0 := by cases c; rfl; exact h
theorem Bcond_35_0 {R : Type} {c : Bool} {x x' : Option R} {y y' : Option Sp.E_35_0} {k0 : (List Int) → (List Int) → (List Int) → (List Int) → (List Int) → Option R} (h : x = Sp.B_35_0 y k0) (h' : x' = Sp.B_35_0 y' k0) : (bif c then x else x') = Sp.B_35_0 (bif c then y else y') k0 := by cases c; exact h'; exact h
theorem Bin_35_0_35_67_0_0 {R : Type} {r : Option Sp.E_35_67_0_0} {k0 : (List Int) → (List Int) → (List Int) → (List Int) → (List Int) → Option R} {f0 : (List Int) → (List Int) → (List Int) → (List Int) → Option R} {g0 : (List Int) → (List Int) → (List Int) → (List Int) → Option Sp.E_35_0} (h0 : ∀ z0 z1 z2 z3, f0 z0 z1 z2 z3 = Sp.B_35_0 (g0 z0 z1 z2 z3) k0) : Sp.B_35_67_0_0 r f0 = Sp.B_35_0 (Sp.B_35_67_0_0 r g0) k0 := by
  cases r with
  | none => rfl
  | some e => cases e with
    | e0 z0 z1 z2 z3 => exact h0 _ _ _ _
theorem Bin_35_0_35_67_1_0 {R : Type} {r : Option Sp.E_35_67_1_0} {k0 : (List Int) → (List Int) → (List Int) → (List Int) → (List Int) → Option R} {f0 : (List Int) → (List Int) → (List Int) → (List Int) → Option R} {g0 : (List Int) → (List Int) → (List Int) → (List Int) → Option Sp.E_35_0} (h0 : ∀ z0 z1 z2 z3, f0 z0 z1 z2 z3 = Sp.B_35_0 (g0 z0 z1 z2 z3) k0) : Sp.B_35_67_1_0 r f0 = Sp.B_35_0 (Sp.B_35_67_1_0 r g0) k0 := by
  cases r with
  | none => rfl
  | some e => cases e with
    | e0 z0 z1 z2 z3 => exact h0 _ _ _ _
theorem Bin_35_0_35_67_2_0 {R : Type} {r : Option Sp.E_35_67_2_0} {k0 : (List Int) → (List Int) → (List Int) → (List Int) → (List Int) → Option R} {f0 : (List Int) → (List Int) → (List Int) → (List Int) → Option R} {g0 : (List Int) → (List Int) → (List Int) → (List Int) → Option Sp.E_35_0} (h0 : ∀ z0 z1 z2 z3, f0 z0 z1 z2 z3 = Sp.B_35_0 (g0 z0 z1 z2 z3) k0) : Sp.B_35_67_2_0 r f0 = Sp.B_35_0 (Sp.B_35_67_2_0 r g0) k0 := by
  cases r with
  | none => rfl
  | some e => cases e with
    | e0 z0 z1 z2 z3 => exact h0 _ _ _ _
theorem Bin_35_0_35_67_3_0 {R : Type} {r : Option Sp.E_35_67_3_0} {k0 : (List Int) → (List Int) → (List Int) → (List Int) → (List Int) → Option R} {f0 : (List Int) → (List Int) → (List Int) → Option R} {g0 : (List Int) → (List Int) → (List Int) → Option Sp.E_35_0} (h0 : ∀ z0 z1 z2, f0 z0 z1 z2 = Sp.B_35_0 (g0 z0 z1 z2) k0) : Sp.B_35_67_3_0 r f0 = Sp.B_35_0 (Sp.B_35_67_3_0 r g0) k0 := by
  cases r with
  | none => rfl
  | some e => cases e with
    | e0 z0 z1 z2 => exact h0 _ _ _
theorem loop_35_0 {R : Type} (k : Ex → St → Option R) : ∀ (m : Nat) (p0 : List Int) (p1 : List Int) (p2 : List Int) (p3 : List Int) (p4 : List Int), evLoopN (evCodeL sm_35 FU (ovr (fun f' => bif Nat.beq f' 67 then some (g_35_67) else none) (evFn sm_35 fns FU 1)) .nil ir35_b0) (St.norm ir35_v0) m (T_35_0 p0 p1 p2 p3 p4) k = Sp.B_35_0 (Sp.L_35_0 m p0 p1 p2 p3 p4) (fun p0 p1 p2 p3 p4 => k (Ex.exit (0 : Nat)) (X_35_0_0 p0 p1 p2 p3 p4))
  | 0, _, _, _, _, _ => rfl
  | m + 1, p0, p1, p2, p3, p4 => by
    rw [evLoopN_succ, body_35_0, Sp.L_35_0]
    repeat' first | apply Bgd_35_0 | apply Bcond_35_0 | (apply Bin_35_0_35_67_0_0 <;> intros) | (apply Bin_35_0_35_67_1_0 <;> intros) | (apply Bin_35_0_35_67_2_0 <;> intros) | (apply Bin_35_0_35_67_3_0 <;> intros) | exact loop_35_0 k m _ _ _ _ _ | rfl
theorem ok_35_0 {R : Type} (T : St) (k : Ex → St → Option R) (r : R) (h0 : o_35_0 G_35_0 T k = some r) : evLoopN (evCode sm_35 FU (evFn sm_35 fns FU 1) ir35_b0) (St.norm ir35_v0) FU T k = some r := by
  obtain ⟨p0, p1, p2, p3, p4, rfl, h⟩ := o_35_0_inv h0
  refine evLoopN_L (t := .nil) ov_35_35_ok trivial _ _ _ _ ?_
  rw [loop_35_0]
  exact h
theorem OK_35_35_0 {R : Type} (T : St) (k : Ex → St → Option R) (r : R) (h : O_35_35_0 T k = some r) : evLoopN (evCode sm_35 FU (evFn sm_35 fns FU 1) ir35_b0) (St.norm ir35_v0) FU T k = some r := ok_35_0 T k r h
theorem body_35_2 {R : Type} (K0 : St → Option R) (K1 : Ex → St → Option R) (p0 : Int) (p1 : Int) (p2 : List Int) (p3 : List Int) (p4 : List Int) (p5 : List Int) : evLB (evCodeL sm_35 FU (ovr (fun f' => bif Nat.beq f' 67 then some (g_35_67) else none) (evFn sm_35 fns FU 1)) .nil ir35_b2) (St.norm ir35_v2) (T_35_2 p0 p1 p2 p3 p4 p5) K0 K1 =
  bif decide (p1 < p0) then gd (sl3 p1 (IntKind.wrap IntKind.i64 (p1 + (64 : Int))) (128 : Int)) (Sp.B_35_67_0_1 (Sp.L_35_67_0_1 (4611686018427387904 : Nat) (Int.toNat p1) (Int.toNat (IntKind.wrap IntKind.i64 (p1 + (64 : Int))) - Int.toNat p1) ((128 : Nat) - Int.toNat p1) (0 : Int) p2 p3 p4 p5 (List.replicate (64 : Nat) (0 : Int))) fun y19 y20 y21 y22 y23 => Sp.B_35_67_1_1 (Sp.L_35_67_1_1 (4611686018427387904 : Nat) (16 : Int) y19 y20 y21 y22 y23) fun y24 y25 y26 y27 y28 => Sp.B_35_67_2_1 (Sp.L_35_67_2_1 (4611686018427387904 : Nat) (0 : Int) y24 y25 y26 y27 y28 y25) fun y29 y30 y31 y32 y33 => Sp.B_35_67_3_1 (Sp.L_35_67_3_1 (4611686018427387904 : Nat) (0 : Int) y29 y30 y31 y32 y33) fun y34 y35 y36 y37 => K0 (T_35_2 p0 (IntKind.wrap IntKind.i64 (p1 + (64 : Int))) y34 y35 y36 y37)) else K1 (Ex.exit (2 : Nat)) (X_35_2_0 p2 p3) := by kernel_rfl
theorem Bgd_35_2 {R : Type} {c : Bool} {x : Option R} {y : Option Sp.E_35_2} {k0 : (List Int) → (List Int) → Option R} (h : x = Sp.B_35_2 y k0) : gd c x = Sp.B_35_2 (gd c y) k0 := by cases c; rfl; exact h
theorem Bcond_35_2 {R : Type} {c : Bool} {x x' : Option R} {y y' : Option Sp.E_35_2} {k0 : (List Int) → (List Int) → Option R} (h : x = Sp.B_35_2 y k0) (h' : x' = Sp.B_35_2 y' k0) : (bif c then x else x') = Sp.B_35_2 (bif c then y else y') k0 := by cases c; exact h'; exact h
theorem Bin_35_2_35_67_0_1 {R : Type} {r : Option Sp.E_35_67_0_1} {k0 : (List Int) → (List Int) → Option R} {f0 : (List Int) → (List Int) → (List Int) → (List Int) → (List Int) → Option R} {g0 : (List Int) → (List Int) → (List Int) → (List Int) → (List Int) → Option Sp.E_35_2} (h0 : ∀ z0 z1 z2 z3 z4, f0 z0 z1 z2 z3 z4 = Sp.B_35_2 (g0 z0 z1 z2 z3 z4) k0) : Sp.B_35_67_0_1 r f0 = Sp.B_35_2 (Sp.B_35_67_0_1 r g0) k0 := by
  cases r with
  | none => rfl
  | some e => cases e with
    | e0 z0 z1 z2 z3 z4 => exact h0 _ _ _ _ _
theorem Bin_35_2_35_67_1_1 {R : Type} {r : Option Sp.E_35_67_1_1} {k0 : (List Int) → (List Int) → Option R} {f0 : (List Int) → (List Int) → (List Int) → (List Int) → (List Int) → Option R} {g0 : (List Int) → (List Int) → (List Int) → (List Int) → (List Int) → Option Sp.E_35_2} (h0 : ∀ z0 z1 z2 z3 z4, f0 z0 z1 z2 z3 z4 = Sp.B_35_2 (g0 z0 z1 z2 z3 z4) k0) : Sp.B_35_67_1_1 r f0 = Sp.B_35_2 (Sp.B_35_67_1_1 r g0) k0 := by
  cases r with
  | none => rfl
  | some e => cases e with
    | e0 z0 z1 z2 z3 z4 => exact h0 _ _ _ _ _
theorem Bin_35_2_35_67_2_1 {R : Type} {r : Option Sp.E_35_67_2_1} {k0 : (List Int) → (List Int) → Option R} {f0 : (List Int) → (List Int) → (List Int) → (List Int) → (List Int) → Option R} {g0 : (List Int) → (List Int) → (List Int) → (List Int) → (List Int) → Option Sp.E_35_2} (h0 : ∀ z0 z1 z2 z3 z4, f0 z0 z1 z2 z3 z4 = Sp.B_35_2 (g0 z0 z1 z2 z3 z4) k0) : Sp.B_35_67_2_1 r f0 = Sp.B_35_2 (Sp.B_35_67_2_1 r g0) k0 := by
  cases r with
  | none => rfl
  | some e => cases e with
    | e0 z0 z1 z2 z3 z4 => exact h0 _ _ _ _ _
theorem Bin_35_2_35_67_3_1 {R : Type} {r : Option Sp.E_35_67_3_1} {k0 : (List Int) → (List Int) → Option R} {f0 : (List Int) → (List Int) → (List Int) → (List Int) → Option R} {g0 : (List Int) → (List Int) → (List Int) → (List Int) → Option Sp.E_35_2} (h0 : ∀ z0 z1 z2 z3, f0 z0 z1 z2 z3 = Sp.B_35_2 (g0 z0 z1 z2 z3) k0) : Sp.B_35_67_3_1 r f0 = Sp.B_35_2 (Sp.B_35_67_3_1 r g0) k0 := by
  cases r with
  | none => rfl
  | some e => cases e with
    | e0 z0 z1 z2 z3 => exact h0 _ _ _ _
theorem loop_35_2 {R : Type} (k : Ex → St → Option R) : ∀ (m : Nat) (p0 : Int) (p1 : Int) (p2 : List Int) (p3 : List Int) (p4 : List Int) (p5 : List Int), evLoopN (evCodeL sm_35 FU (ovr (fun f' => bif Nat.beq f' 67 then some (g_35_67) else none) (evFn sm_35 fns FU 1)) .nil ir35_b2) (St.norm ir35_v2) m (T_35_2 p0 p1 p2 p3 p4 p5) k = Sp.B_35_2 (Sp.L_35_2 m p0 p1 p2 p3 p4 p5) (fun p2 p3 => k (Ex.exit (2 : Nat)) (X_35_2_0 p2 p3))
  | 0, _, _, _, _, _, _ => rfl
  | m + 1, p0, p1, p2, p3, p4, p5 => by
    rw [evLoopN_succ, body_35_2, Sp.L_35_2]
    repeat' first | apply Bgd_35_2 | apply Bcond_35_2 | (apply Bin_35_2_35_67_0_1 <;> intros) | (apply Bin_35_2_35_67_1_1 <;> intros) | (apply Bin_35_2_35_67_2_1 <;> intros) | (apply Bin_35_2_35_67_3_1 <;> intros) | exact loop_35_2 k m _ _ _ _ _ _ | rfl
theorem ok_35_2 {R : Type} (T : St) (k : Ex → St → Option R) (r : R) (h0 : o_35_2 G_35_2 T k = some r) : evLoopN (evCode sm_35 FU (evFn sm_35 fns FU 1) ir35_b2) (St.norm ir35_v2) FU T k = some r := by
  obtain ⟨p0, p1, p2, p3, p4, p5, rfl, h⟩ := o_35_2_inv h0
  refine evLoopN_L (t := .nil) ov_35_35_ok trivial _ _ _ _ ?_
  rw [loop_35_2]
  exact h
theorem OK_35_35_2 {R : Type} (T : St) (k : Ex → St → Option R) (r : R) (h : O_35_35_2 T k = some r) : evLoopN (evCode sm_35 FU (evFn sm_35 fns FU 1) ir35_b2) (St.norm ir35_v2) FU T k = some r := ok_35_2 T k r h
theorem body_35_3 {R : Type} (K0 : St → Option R) (K1 : Ex → St → Option R) (p0 : List Int) (p1 : Int) (p2 : List Int) (p3 : List Int) : evLB (evCodeL sm_35 FU (ovr (fun f' => bif Nat.beq f' 67 then some (g_35_67) else none) (evFn sm_35 fns FU 1)) .nil ir35_b3) (St.norm ir35_v3) (T_35_3 p0 p1 p2 p3) K0 K1 =
  bif decide (p1 < (8 : Int)) then gd (inB p1 (8 : Nat)) (gd (sl3 (IntKind.wrap IntKind.i64 ((4 : Int) * p1)) (32 : Int) (32 : Int)) (gd (inB (0 : Int) ((32 : Nat) - Int.toNat (IntKind.wrap IntKind.i64 ((4 : Int) * p1)))) (gd (decide (Int.toNat (IntKind.wrap IntKind.i64 ((4 : Int) * p1)) + (0 : Nat) < (32 : Nat)) && true) (gd (inB (1 : Int) ((32 : Nat) - Int.toNat (IntKind.wrap IntKind.i64 ((4 : Int) * p1)))) (gd (decide (Int.toNat (IntKind.wrap IntKind.i64 ((4 : Int) * p1)) + (1 : Nat) < (32 : Nat)) && true) (gd (inB (2 : Int) ((32 : Nat) - Int.toNat (IntKind.wrap IntKind.i64 ((4 : Int) * p1)))) (gd (decide (Int.toNat (IntKind.wrap IntKind.i64 ((4 : Int) * p1)) + (2 : Nat) < (32 : Nat)) && true) (gd (inB (3 : Int) ((32 : Nat) - Int.toNat (IntKind.wrap IntKind.i64 ((4 : Int) * p1)))) (gd (decide (Int.toNat (IntKind.wrap IntKind.i64 ((4 : Int) * p1)) + (3 : Nat) < (32 : Nat)) && true) (K0 (T_35_3 p0 (IntKind.wrap IntKind.i64 (p1 + (1 : Int))) p2 (List.set (List.set (List.set (List.set p3 (Int.toNat (IntKind.wrap IntKind.i64 ((4 : Int) * p1)) + (0 : Nat)) (IntKind.wrap IntKind.u8 (Int.fdiv (List.getD p0 (Int.toNat p1) (0 : Int)) (16777216 : Int)))) (Int.toNat (IntKind.wrap IntKind.i64 ((4 : Int) * p1)) + (1 : Nat)) (IntKind.wrap IntKind.u8 (Int.fdiv (List.getD p0 (Int.toNat p1) (0 : Int)) (65536 : Int)))) (Int.toNat (IntKind.wrap IntKind.i64 ((4 : Int) * p1)) + (2 : Nat)) (IntKind.wrap IntKind.u8 (Int.fdiv (List.getD p0 (Int.toNat p1) (0 : Int)) (256 : Int)))) (Int.toNat (IntKind.wrap IntKind.i64 ((4 : Int) * p1)) + (3 : Nat)) (IntKind.wrap IntKind.u8 (List.getD p0 (Int.toNat p1) (0 : Int))))))))))))))) else K1 (Ex.exit (4 : Nat)) (X_35_3_0 p2 p3) := by kernel_rfl
theorem Bgd_35_3 {R : Type} {c : Bool} {x : Option R} {y : Option Sp.E_35_3} {k0 : (List Int) → (List Int) → Option R} (h : x = Sp.B_35_3 y k0) : gd c x = Sp.B_35_3 (gd c y) k0 := by cases c; rfl; exact h
theorem Bcond_35_3 {R : Type} {c : Bool} {x x' : Option R} {y y' : Option Sp.E_35_3} {k0 : (List Int) → (List Int) → Option R} (h : x = Sp.B_35_3 y k0) (h' : x' = Sp.B_35_3 y' k0) : (bif c then x else x') = Sp.B_35_3 (bif c then y else y') k0 := by cases c; exact h'; exact h
theorem loop_35_3 {R : Type} (k : Ex → St → Option R) : ∀ (m : Nat) (p0 : List Int) (p1 : Int) (p2 : List Int) (p3 : List Int), evLoopN (evCodeL sm_35 FU (ovr (fun f' => bif Nat.beq f' 67 then some (g_35_67) else none) (evFn sm_35 fns FU 1)) .nil ir35_b3) (St.norm ir35_v3) m (T_35_3 p0 p1 p2 p3) k = Sp.B_35_3 (Sp.L_35_3 m p0 p1 p2 p3) (fun p2 p3 => k (Ex.exit (4 : Nat)) (X_35_3_0 p2 p3))
  | 0, _, _, _, _ => rfl
  | m + 1, p0, p1, p2, p3 => by
    rw [evLoopN_succ, body_35_3, Sp.L_35_3]
    repeat' first | apply Bgd_35_3 | apply Bcond_35_3 | exact loop_35_3 k m _ _ _ _ | rfl
theorem ok_35_3 {R : Type} (T : St) (k : Ex → St → Option R) (r : R) (h0 : o_35_3 G_35_3 T k = some r) : evLoopN (evCode sm_35 FU (evFn sm_35 fns FU 1) ir35_b3) (St.norm ir35_v3) FU T k = some r := by
  obtain ⟨p0, p1, p2, p3, rfl, h⟩ := o_35_3_inv h0
  refine evLoopN_L (t := .nil) ov_35_35_ok trivial _ _ _ _ ?_
  rw [loop_35_3]
  exact h
theorem OK_35_35_3 {R : Type} (T : St) (k : Ex → St → Option R) (r : R) (h : O_35_35_3 T k = some r) : evLoopN (evCode sm_35 FU (evFn sm_35 fns FU 1) ir35_b3) (St.norm ir35_v3) FU T k = some r := ok_35_3 T k r h
theorem body_35_1 {R : Type} (K1 : Ex → St → Option R) (p0 : List Int) (p1 : Int) (p2 : List Int) (p3 : List Int) (p4 : List Int) (p5 : List Int) : evJ (evCodeL sm_35 FU (ovr (fun f' => bif Nat.beq f' 67 then some (g_35_67) else none) (evFn sm_35 fns FU 1)) (ir35_bt1 O_35_35_2 O_35_35_3) ir35_b1) (T_35_1 p0 p1 p2 p3 p4 p5) K1 =
  gd (sl3 (IntKind.wrap IntKind.i64 (p1 - (8 : Int))) (128 : Int) (128 : Int)) (gd (inB (0 : Int) ((128 : Nat) - Int.toNat (IntKind.wrap IntKind.i64 (p1 - (8 : Int))))) (gd (decide (Int.toNat (IntKind.wrap IntKind.i64 (p1 - (8 : Int))) + (0 : Nat) < (128 : Nat)) && true) (gd (inB (1 : Int) ((128 : Nat) - Int.toNat (IntKind.wrap IntKind.i64 (p1 - (8 : Int))))) (gd (decide (Int.toNat (IntKind.wrap IntKind.i64 (p1 - (8 : Int))) + (1 : Nat) < (128 : Nat)) && true) (gd (inB (2 : Int) ((128 : Nat) - Int.toNat (IntKind.wrap IntKind.i64 (p1 - (8 : Int))))) (gd (decide (Int.toNat (IntKind.wrap IntKind.i64 (p1 - (8 : Int))) + (2 : Nat) < (128 : Nat)) && true) (gd (inB (3 : Int) ((128 : Nat) - Int.toNat (IntKind.wrap IntKind.i64 (p1 - (8 : Int))))) (gd (decide (Int.toNat (IntKind.wrap IntKind.i64 (p1 - (8 : Int))) + (3 : Nat) < (128 : Nat)) && true) (gd (sl3 (IntKind.wrap IntKind.i64 (p1 - (4 : Int))) (128 : Int) (128 : Int)) (gd (inB (0 : Int) ((128 : Nat) - Int.toNat (IntKind.wrap IntKind.i64 (p1 - (4 : Int))))) (gd (decide (Int.toNat (IntKind.wrap IntKind.i64 (p1 - (4 : Int))) + (0 : Nat) < (128 : Nat)) && true) (gd (inB (1 : Int) ((128 : Nat) - Int.toNat (IntKind.wrap IntKind.i64 (p1 - (4 : Int))))) (gd (decide (Int.toNat (IntKind.wrap IntKind.i64 (p1 - (4 : Int))) + (1 : Nat) < (128 : Nat)) && true) (gd (inB (2 : Int) ((128 : Nat) - Int.toNat (IntKind.wrap IntKind.i64 (p1 - (4 : Int))))) (gd (decide (Int.toNat (IntKind.wrap IntKind.i64 (p1 - (4 : Int))) + (2 : Nat) < (128 : Nat)) && true) (gd (inB (3 : Int) ((128 : Nat) - Int.toNat (IntKind.wrap IntKind.i64 (p1 - (4 : Int))))) (gd (decide (Int.toNat (IntKind.wrap IntKind.i64 (p1 - (4 : Int))) + (3 : Nat) < (128 : Nat)) && true) (Sp.B_35_2 (Sp.L_35_2 (4611686018427387904 : Nat) p1 (0 : Int) p2 p3 p4 (List.set (List.set (List.set (List.set (List.set (List.set (List.set (List.set p5 (Int.toNat (IntKind.wrap IntKind.i64 (p1 - (8 : Int))) + (0 : Nat)) (IntKind.wrap IntKind.u8 (Int.fdiv (IntKind.wrap IntKind.u32 (Int.fdiv (IntKind.wrap IntKind.u64 (IntKind.wrap IntKind.u64 (↑(List.length p0) : Int) * (8 : Int))) (4294967296 : Int))) (16777216 : Int)))) (Int.toNat (IntKind.wrap IntKind.i64 (p1 - (8 : Int))) + (1 : Nat)) (IntKind.wrap IntKind.u8 (Int.fdiv (IntKind.wrap IntKind.u32 (Int.fdiv (IntKind.wrap IntKind.u64 (IntKind.wrap IntKind.u64 (↑(List.length p0) : Int) * (8 : Int))) (4294967296 : Int))) (65536 : Int)))) (Int.toNat (IntKind.wrap IntKind.i64 (p1 - (8 : Int))) + (2 : Nat)) (IntKind.wrap IntKind.u8 (Int.fdiv (IntKind.wrap IntKind.u32 (Int.fdiv (IntKind.wrap IntKind.u64 (IntKind.wrap IntKind.u64 (↑(List.length p0) : Int) * (8 : Int))) (4294967296 : Int))) (256 : Int)))) (Int.toNat (IntKind.wrap IntKind.i64 (p1 - (8 : Int))) + (3 : Nat)) (IntKind.wrap IntKind.u8 (IntKind.wrap IntKind.u32 (Int.fdiv (IntKind.wrap IntKind.u64 (IntKind.wrap IntKind.u64 (↑(List.length p0) : Int) * (8 : Int))) (4294967296 : Int))))) (Int.toNat (IntKind.wrap IntKind.i64 (p1 - (4 : Int))) + (0 : Nat)) (IntKind.wrap IntKind.u8 (Int.fdiv (IntKind.wrap IntKind.u32 (IntKind.wrap IntKind.u64 (IntKind.wrap IntKind.u64 (↑(List.length p0) : Int) * (8 : Int)))) (16777216 : Int)))) (Int.toNat (IntKind.wrap IntKind.i64 (p1 - (4 : Int))) + (1 : Nat)) (IntKind.wrap IntKind.u8 (Int.fdiv (IntKind.wrap IntKind.u32 (IntKind.wrap IntKind.u64 (IntKind.wrap IntKind.u64 (↑(List.length p0) : Int) * (8 : Int)))) (65536 : Int)))) (Int.toNat (IntKind.wrap IntKind.i64 (p1 - (4 : Int))) + (2 : Nat)) (IntKind.wrap IntKind.u8 (Int.fdiv (IntKind.wrap IntKind.u32 (IntKind.wrap IntKind.u64 (IntKind.wrap IntKind.u64 (↑(List.length p0) : Int) * (8 : Int)))) (256 : Int)))) (Int.toNat (IntKind.wrap IntKind.i64 (p1 - (4 : Int))) + (3 : Nat)) (IntKind.wrap IntKind.u8 (IntKind.wrap IntKind.u32 (IntKind.wrap IntKind.u64 (IntKind.wrap IntKind.u64 (↑(List.length p0) : Int) * (8 : Int))))))) fun y4 y5 => Sp.B_35_3 (Sp.L_35_3 (4611686018427387904 : Nat) y5 (0 : Int) y4 (List.replicate (32 : Nat) (0 : Int))) fun y6 y7 => K1 Ex.ret (X_35_1_0 y7))))))))))))))))))) := by kernel_rfl
theorem Bgd_35_1 {R : Type} {c : Bool} {x : Option R} {y : Option Sp.E_35_1} {k0 : (List Int) → Option R} (h : x = Sp.B_35_1 y k0) : gd c x = Sp.B_35_1 (gd c y) k0 := by cases c; rfl; exact h
theorem Bcond_35_1 {R : Type} {c : Bool} {x x' : Option R} {y y' : Option Sp.E_35_1} {k0 : (List Int) → Option R} (h : x = Sp.B_35_1 y k0) (h' : x' = Sp.B_35_1 y' k0) : (bif c then x else x') = Sp.B_35_1 (bif c then y else y') k0 := by cases c; exact h'; exact h
theorem Bin_35_1_35_2 {R : Type} {r : Option Sp.E_35_2} {k0 : (List Int) → Option R} {f0 : (List Int) → (List Int) → Option R} {g0 : (List Int) → (List Int) → Option Sp.E_35_1} (h0 : ∀ z0 z1, f0 z0 z1 = Sp.B_35_1 (g0 z0 z1) k0) : Sp.B_35_2 r f0 = Sp.B_35_1 (Sp.B_35_2 r g0) k0 := by
  cases r with
  | none => rfl
  | some e => cases e with
    | e0 z0 z1 => exact h0 _ _
theorem Bin_35_1_35_3 {R : Type} {r : Option Sp.E_35_3} {k0 : (List Int) → Option R} {f0 : (List Int) → (List Int) → Option R} {g0 : (List Int) → (List Int) → Option Sp.E_35_1} (h0 : ∀ z0 z1, f0 z0 z1 = Sp.B_35_1 (g0 z0 z1) k0) : Sp.B_35_3 r f0 = Sp.B_35_1 (Sp.B_35_3 r g0) k0 := by
  cases r with
  | none => rfl
  | some e => cases e with
    | e0 z0 z1 => exact h0 _ _
theorem loop_35_1 {R : Type} (k : Ex → St → Option R) (p0 : List Int) (p1 : Int) (p2 : List Int) (p3 : List Int) (p4 : List Int) (p5 : List Int) : evJ (evCodeL sm_35 FU (ovr (fun f' => bif Nat.beq f' 67 then some (g_35_67) else none) (evFn sm_35 fns FU 1)) (ir35_bt1 O_35_35_2 O_35_35_3) ir35_b1) (T_35_1 p0 p1 p2 p3 p4 p5) k = Sp.B_35_1 (Sp.J_35_1 p0 p1 p2 p3 p4 p5) (fun y7 => k Ex.ret (X_35_1_0 y7)) := by
  rw [body_35_1, Sp.J_35_1]
  repeat' first | apply Bgd_35_1 | apply Bcond_35_1 | (apply Bin_35_1_35_2 <;> intros) | (apply Bin_35_1_35_3 <;> intros) | rfl
theorem ok_35_1 {R : Type} (T : St) (k : Ex → St → Option R) (r : R) (h0 : o_35_1 G_35_1 T k = some r) : evCode sm_35 FU (evFn sm_35 fns FU 1) ir35_b1 T k = some r := by
  obtain ⟨p0, p1, p2, p3, p4, p5, rfl, h⟩ := o_35_1_inv h0
  refine bodyL_sound (t := (ir35_bt1 O_35_35_2 O_35_35_3)) ov_35_35_ok (ir35_bt1ok (fun T k r => OK_35_35_2 T k r) (fun T k r => OK_35_35_3 T k r)) (((show ∀ (b : St → (Ex → St → Option R) → Option R) (T : St) (k : Ex → St → Option R), b T k = evJ b T k from fun _ _ _ => rfl) _ _ _).trans ((loop_35_1 k p0 p1 p2 p3 p4 p5).trans h))
theorem OK_35_35_1 {R : Type} (T : St) (k : Ex → St → Option R) (r : R) (h : O_35_35_1 T k = some r) : evCode sm_35 FU (evFn sm_35 fns FU 1) ir35_b1 T k = some r := ok_35_1 T k r h
noncomputable def F_35 (a0 : (List Int)) : Option ((List Int) × Unit) :=
  gd Sp.p_66 (Sp.B_35_0 (Sp.L_35_0 (4611686018427387904 : Nat) a0 a0 (List.replicate (32 : Nat) (0 : Int)) [(1779033703 : Int), (3144134277 : Int), (1013904242 : Int), (2773480762 : Int), (1359893119 : Int), (2600822924 : Int), (528734635 : Int), (1541459225 : Int)] (Sp.v_66.1)) fun y7 y8 y9 y10 y11 => gd (inB (↑(Nat.min (List.length y8) (128 : Nat)) : Int) (128 : Nat)) (gd (decide (Int.toNat (↑(Nat.min (List.length y8) (128 : Nat)) : Int) < (128 : Nat)) && true) (bif decide (IntKind.wrap IntKind.i64 ((↑(Nat.min (List.length y8) (128 : Nat)) : Int) + (9 : Int)) > (64 : Int)) then Sp.B_35_1 (Sp.J_35_1 y7 (128 : Int) y9 y10 y11 (List.set (over (List.replicate (128 : Nat) (0 : Int)) (0 : Nat) (List.take (128 : Nat) y8)) (Int.toNat (↑(Nat.min (List.length y8) (128 : Nat)) : Int)) (128 : Int))) fun y12 => some (y12, PUnit.unit) else Sp.B_35_1 (Sp.J_35_1 y7 (64 : Int) y9 y10 y11 (List.set (over (List.replicate (128 : Nat) (0 : Int)) (0 : Nat) (List.take (128 : Nat) y8)) (Int.toNat (↑(Nat.min (List.length y8) (128 : Nat)) : Int)) (128 : Int))) fun y13 => some (y13, PUnit.unit))))
theorem fn_35 (a0 : (List Int)) : evFnL sm_35 FU (ovr (fun f' => bif Nat.beq f' 67 then some (g_35_67) else none) (evFn sm_35 fns FU 1)) (ir35_t O_35_35_0 O_35_35_1) ir35 (ofH [(.slice (.int .u8))] (a0, ())) [] (pureK [(.arr 32 (.int .u8))]) = F_35 a0 := by kernel_rfl
noncomputable def Sp.p_35 (a0 : (List Int)) : Bool := (F_35 a0).isSome
noncomputable def Sp.v_35 (a0 : (List Int)) : (List Int) × Unit := (F_35 a0).getD (dfH [(.arr 32 (.int .u8))])
noncomputable def s_35 : Summ := shN [(.slice (.int .u8))] [(.arr 32 (.int .u8))] (fun x => Sp.p_35 x.1) (fun x => Sp.v_35 x.1)
theorem pv_35 (a0 : (List Int)) {y : (List Int) × Unit} (h : F_35 a0 = some y) : Sp.p_35 a0 = true ∧ Sp.v_35 a0 = y := ⟨by rw [Sp.p_35, h]; rfl, by rw [Sp.v_35, h]; rfl⟩
theorem run_35 (x : HDen [(.slice (.int .u8))]) (y : HDen [(.arr 32 (.int .u8))]) (h : F_35 x.1 = some y) : evFn sm_35 fns FU 2 35 (ofH [(.slice (.int .u8))] x) [] (pureK [(.arr 32 (.int .u8))]) = some y :=
  evFnL_sound (fn := ir35) (t := (ir35_t O_35_35_0 O_35_35_1)) (o := (fun f' => bif Nat.beq f' 67 then some (g_35_67) else none)) rfl ov_35_35_ok (ir35_tok (fun T k r => OK_35_35_0 T k r) (fun T k r => OK_35_35_1 T k r)) ((fn_35 _).trans h)
end
end Go.Ev
namespace Go.Ev
open Go
set_option maxRecDepth 100000
set_option maxHeartbeats 4000000
set_option linter.unusedVariables false
noncomputable section
abbrev Zt43_0 : Type := List (List Int)
abbrev Zy43_1 : Ty := (Ty.slice (Ty.slice (Ty.int IntKind.u32)))
abbrev Zy43_2 : Ty := (Ty.slice (Ty.int IntKind.u32))

abbrev s43_77 : Summ := growS (.int .u32) 42 4
noncomputable def sm_43 : Nat → Option Summ := fun f => bif Nat.beq f 77 then some s43_77 else none
noncomputable def T_43_0 (p0 : Zt43_0) (p1 : Int) (p2 : Zt43_0) (p3 : Int) (p4 : Int) : St := St.mk ([CV.pure Zy43_1 p0, jk, jk, CV.int IntKind.i64 p1, jk, jk, jk, jk, jk, CV.pure Zy43_1 p2, CV.int IntKind.i64 p3, CV.int IntKind.i64 p4] ++ (jl 24)) [] (0 : Nat)
noncomputable def X_43_0_0 (p0 : Zt43_0) (p1 : Int) : St := St.mk ([CV.pure Zy43_1 p0, jk, jk, CV.int IntKind.i64 p1] ++ (jl 32)) [] (0 : Nat)
inductive Sp.E_43_0 where
  | e0 (p0 : List (List Int)) (p1 : Int)
noncomputable def Sp.B_43_0 {R : Type} (r : Option Sp.E_43_0) (k0 : (Zt43_0) → (Int) → Option R) : Option R := match r with
  | none => none
  | some (.e0 p0 p1) => k0 p0 p1
noncomputable def Sp.L_43_0 : Nat → (List (List Int)) → (Int) → (List (List Int)) → (Int) → (Int) → Option Sp.E_43_0
  | 0, _, _, _, _, _ => none
  | m + 1, p0, p1, p2, p3, p4 => bif decide (p4 < p3) then gd (inB p4 (List.length p2)) (bif decide (IntKind.wrap IntKind.i64 (p1 + (↑(List.length (List.getD p2 (Int.toNat p4) (Ty.dflt (Ty.slice (Ty.int IntKind.u32))))) : Int)) < (0 : Int)) then none else Sp.L_43_0 m p0 (IntKind.wrap IntKind.i64 (p1 + (↑(List.length (List.getD p2 (Int.toNat p4) (Ty.dflt (Ty.slice (Ty.int IntKind.u32))))) : Int))) p2 p3 (IntKind.wrap IntKind.i64 (p4 + (1 : Int)))) else some (Sp.E_43_0.e0 p0 p1)
noncomputable def G_43_0 {R : Type} (p0 : Zt43_0) (p1 : Int) (p2 : Zt43_0) (p3 : Int) (p4 : Int) (k : Ex → St → Option R) : Option R := Sp.B_43_0 (Sp.L_43_0 FU p0 p1 p2 p3 p4) (fun p0 p1 => k (Ex.exit (0 : Nat)) (X_43_0_0 p0 p1))
noncomputable def o_43_0 {R : Type} (G : (Zt43_0) → (Int) → (Zt43_0) → (Int) → (Int) → (Ex → St → Option R) → Option R) : St → (Ex → St → Option R) → Option R := fun T k => match T.sl.getD 0 .junk, T.sl.getD 3 .junk, T.sl.getD 9 .junk, T.sl.getD 10 .junk, T.sl.getD 11 .junk, T.hp with
  | CV.pure (Ty.slice (Ty.slice (Ty.int IntKind.u32))) p0, CV.int IntKind.i64 p1, CV.pure (Ty.slice (Ty.slice (Ty.int IntKind.u32))) p2, CV.int IntKind.i64 p3, CV.int IntKind.i64 p4, [] => gd (shapeOK T 36 [0, 3, 9, 10, 11] (0 : Nat)) (G p0 p1 p2 p3 p4 k)
  | _, _, _, _, _, _ => none
theorem o_43_0_inv {R : Type} {G : (Zt43_0) → (Int) → (Zt43_0) → (Int) → (Int) → (Ex → St → Option R) → Option R} {T : St} {k : Ex → St → Option R} {r : R} (h : o_43_0 G T k = some r) : ∃ p0 p1 p2 p3 p4, T = T_43_0 p0 p1 p2 p3 p4 ∧ G p0 p1 p2 p3 p4 k = some r := by
  unfold o_43_0 at h
  split at h
  · obtain ⟨hs, h'⟩ := gd_some h
    refine ⟨_, _, _, _, _, (st_of (asg := [(0, _), (3, _), (9, _), (10, _), (11, _)]) hs ⟨by assumption, by assumption, by assumption, by assumption, by assumption, trivial⟩ (by assumption)).trans ?_, h'⟩
    kernel_rfl
  · cases h
noncomputable def T_43_1 (p0 : Zt43_0) (p1 : Int) (p2 : Int) (p3 : List Int) : St := St.mk (jl 6 ++ ([CV.whole (0 : Nat)] ++ (jl 18 ++ ([CV.pure Zy43_1 p0, CV.int IntKind.i64 p1, CV.int IntKind.i64 p2] ++ (jl 8))))) [Blk.vec (42 : Nat) (Ty.int IntKind.u32) p3] (0 : Nat)
noncomputable def X_43_1_0 (p3 : List Int) : St := St.mk (jl 6 ++ ([CV.whole (0 : Nat)] ++ (jl 29))) [Blk.vec (42 : Nat) (Ty.int IntKind.u32) p3] (0 : Nat)
inductive Sp.E_43_1 where
  | e0 (p3 : List Int)
noncomputable def Sp.B_43_1 {R : Type} (r : Option Sp.E_43_1) (k0 : (List Int) → Option R) : Option R := match r with
  | none => none
  | some (.e0 p3) => k0 p3
noncomputable def Sp.L_43_1 : Nat → (List (List Int)) → (Int) → (Int) → (List Int) → Option Sp.E_43_1
  | 0, _, _, _, _ => none
  | m + 1, p0, p1, p2, p3 => bif decide (p2 < p1) then gd (inB p2 (List.length p0)) (gd (room (List.length p3 + List.length (List.getD p0 (Int.toNat p2) (Ty.dflt (Ty.slice (Ty.int IntKind.u32))))) (4 : Nat)) (Sp.L_43_1 m p0 p1 (IntKind.wrap IntKind.i64 (p2 + (1 : Int))) (p3 ++ List.getD p0 (Int.toNat p2) (Ty.dflt (Ty.slice (Ty.int IntKind.u32)))))) else some (Sp.E_43_1.e0 p3)
noncomputable def G_43_1 {R : Type} (p0 : Zt43_0) (p1 : Int) (p2 : Int) (p3 : List Int) (k : Ex → St → Option R) : Option R := Sp.B_43_1 (Sp.L_43_1 FU p0 p1 p2 p3) (fun p3 => k (Ex.exit (2 : Nat)) (X_43_1_0 p3))
noncomputable def o_43_1 {R : Type} (G : (Zt43_0) → (Int) → (Int) → (List Int) → (Ex → St → Option R) → Option R) : St → (Ex → St → Option R) → Option R := fun T k => match T.sl.getD 6 .junk, T.sl.getD 25 .junk, T.sl.getD 26 .junk, T.sl.getD 27 .junk, T.hp with
  | CV.whole (0 : Nat), CV.pure (Ty.slice (Ty.slice (Ty.int IntKind.u32))) p0, CV.int IntKind.i64 p1, CV.int IntKind.i64 p2, ((Blk.vec (42 : Nat) (Ty.int IntKind.u32) p3) :: []) => gd (shapeOK T 36 [6, 25, 26, 27] (0 : Nat)) (G p0 p1 p2 p3 k)
  | _, _, _, _, _ => none
theorem o_43_1_inv {R : Type} {G : (Zt43_0) → (Int) → (Int) → (List Int) → (Ex → St → Option R) → Option R} {T : St} {k : Ex → St → Option R} {r : R} (h : o_43_1 G T k = some r) : ∃ p0 p1 p2 p3, T = T_43_1 p0 p1 p2 p3 ∧ G p0 p1 p2 p3 k = some r := by
  unfold o_43_1 at h
  split at h
  · obtain ⟨hs, h'⟩ := gd_some h
    refine ⟨_, _, _, _, (st_of (asg := [(6, _), (25, _), (26, _), (27, _)]) hs ⟨by assumption, by assumption, by assumption, by assumption, trivial⟩ (by assumption)).trans ?_, h'⟩
    kernel_rfl
  · cases h
noncomputable def O_43_43_0 {R : Type} : St → (Ex → St → Option R) → Option R := fun T k => o_43_0 G_43_0 T k
noncomputable def O_43_43_1 {R : Type} : St → (Ex → St → Option R) → Option R := fun T k => o_43_1 G_43_1 T k
theorem body_43_0 {R : Type} (K0 : St → Option R) (K1 : Ex → St → Option R) (p0 : Zt43_0) (p1 : Int) (p2 : Zt43_0) (p3 : Int) (p4 : Int) : evLB (evCodeL sm_43 FU (ovr noO (evFn sm_43 fns FU 0)) .nil ir43_b0) (St.norm ir43_v0) (T_43_0 p0 p1 p2 p3 p4) K0 K1 =
  bif decide (p4 < p3) then gd (inB p4 (List.length p2)) (bif decide (IntKind.wrap IntKind.i64 (p1 + (↑(List.length (List.getD p2 (Int.toNat p4) (Ty.dflt Zy43_2))) : Int)) < (0 : Int)) then none else K0 (T_43_0 p0 (IntKind.wrap IntKind.i64 (p1 + (↑(List.length (List.getD p2 (Int.toNat p4) (Ty.dflt Zy43_2))) : Int))) p2 p3 (IntKind.wrap IntKind.i64 (p4 + (1 : Int))))) else K1 (Ex.exit (0 : Nat)) (X_43_0_0 p0 p1) := by kernel_rfl
theorem Bgd_43_0 {R : Type} {c : Bool} {x : Option R} {y : Option Sp.E_43_0} {k0 : (Zt43_0) → (Int) → Option R} (h : x = Sp.B_43_0 y k0) : gd c x = Sp.B_43_0 (gd c y) k0 := by cases c; rfl; exact h
theorem Bcond_43_0 {R : Type} {c : Bool} {x x' : Option R} {y y' : Option Sp.E_43_0} {k0 : (Zt43_0) → (Int) → Option R} (h : x = Sp.B_43_0 y k0) (h' : x' = Sp.B_43_0 y' k0) : (bif c then x else x') = Sp.B_43_0 (bif c then y else y') k0 := by cases c; exact h'; exact h
theorem loop_43_0 {R : Type} (k : Ex → St → Option R) : ∀ (m : Nat) (p0 : Zt43_0) (p1 : Int) (p2 : Zt43_0) (p3 : Int) (p4 : Int), evLoopN (evCodeL sm_43 FU (ovr noO (evFn sm_43 fns FU 0)) .nil ir43_b0) (St.norm ir43_v0) m (T_43_0 p0 p1 p2 p3 p4) k = Sp.B_43_0 (Sp.L_43_0 m p0 p1 p2 p3 p4) (fun p0 p1 => k (Ex.exit (0 : Nat)) (X_43_0_0 p0 p1))
  | 0, _, _, _, _, _ => rfl
  | m + 1, p0, p1, p2, p3, p4 => by
    rw [evLoopN_succ, body_43_0, Sp.L_43_0]
    repeat' first | apply Bgd_43_0 | apply Bcond_43_0 | exact loop_43_0 k m _ _ _ _ _ | rfl
theorem ok_43_0 {R : Type} (T : St) (k : Ex → St → Option R) (r : R) (h0 : o_43_0 G_43_0 T k = some r) : evLoopN (evCode sm_43 FU (evFn sm_43 fns FU 0) ir43_b0) (St.norm ir43_v0) FU T k = some r := by
  obtain ⟨p0, p1, p2, p3, p4, rfl, h⟩ := o_43_0_inv h0
  refine evLoopN_L (t := .nil) noO_ok trivial _ _ _ _ ?_
  rw [loop_43_0]
  exact h
theorem OK_43_43_0 {R : Type} (T : St) (k : Ex → St → Option R) (r : R) (h : O_43_43_0 T k = some r) : evLoopN (evCode sm_43 FU (evFn sm_43 fns FU 0) ir43_b0) (St.norm ir43_v0) FU T k = some r := ok_43_0 T k r h
theorem body_43_1 {R : Type} (K0 : St → Option R) (K1 : Ex → St → Option R) (p0 : Zt43_0) (p1 : Int) (p2 : Int) (p3 : List Int) : evLB (evCodeL sm_43 FU (ovr noO (evFn sm_43 fns FU 0)) .nil ir43_b1) (St.norm ir43_v1) (T_43_1 p0 p1 p2 p3) K0 K1 =
  bif decide (p2 < p1) then gd (inB p2 (List.length p0)) (gd (room (List.length p3 + List.length (List.getD p0 (Int.toNat p2) (Ty.dflt Zy43_2))) (4 : Nat)) (K0 (T_43_1 p0 p1 (IntKind.wrap IntKind.i64 (p2 + (1 : Int))) (p3 ++ List.getD p0 (Int.toNat p2) (Ty.dflt Zy43_2))))) else K1 (Ex.exit (2 : Nat)) (X_43_1_0 p3) := by kernel_rfl
theorem Bgd_43_1 {R : Type} {c : Bool} {x : Option R} {y : Option Sp.E_43_1} {k0 : (List Int) → Option R} (h : x = Sp.B_43_1 y k0) : gd c x = Sp.B_43_1 (gd c y) k0 := by cases c; rfl; exact h
theorem Bcond_43_1 {R : Type} {c : Bool} {x x' : Option R} {y y' : Option Sp.E_43_1} {k0 : (List Int) → Option R} (h : x = Sp.B_43_1 y k0) (h' : x' = Sp.B_43_1 y' k0) : (bif c then x else x') = Sp.B_43_1 (bif c then y else y') k0 := by cases c; exact h'; exact h
theorem loop_43_1 {R : Type} (k : Ex → St → Option R) : ∀ (m : Nat) (p0 : Zt43_0) (p1 : Int) (p2 : Int) (p3 : List Int), evLoopN (evCodeL sm_43 FU (ovr noO (evFn sm_43 fns FU 0)) .nil ir43_b1) (St.norm ir43_v1) m (T_43_1 p0 p1 p2 p3) k = Sp.B_43_1 (Sp.L_43_1 m p0 p1 p2 p3) (fun p3 => k (Ex.exit (2 : Nat)) (X_43_1_0 p3))
  | 0, _, _, _, _ => rfl
  | m + 1, p0, p1, p2, p3 => by
    rw [evLoopN_succ, body_43_1, Sp.L_43_1]
    repeat' first | apply Bgd_43_1 | apply Bcond_43_1 | exact loop_43_1 k m _ _ _ _ | rfl
theorem ok_43_1 {R : Type} (T : St) (k : Ex → St → Option R) (r : R) (h0 : o_43_1 G_43_1 T k = some r) : evLoopN (evCode sm_43 FU (evFn sm_43 fns FU 0) ir43_b1) (St.norm ir43_v1) FU T k = some r := by
  obtain ⟨p0, p1, p2, p3, rfl, h⟩ := o_43_1_inv h0
  refine evLoopN_L (t := .nil) noO_ok trivial _ _ _ _ ?_
  rw [loop_43_1]
  exact h
theorem OK_43_43_1 {R : Type} (T : St) (k : Ex → St → Option R) (r : R) (h : O_43_43_1 T k = some r) : evLoopN (evCode sm_43 FU (evFn sm_43 fns FU 0) ir43_b1) (St.norm ir43_v1) FU T k = some r := ok_43_1 T k r h
noncomputable def F_43 (a0 : (List (List Int))) : Option ((List Int) × Unit) :=
  Sp.B_43_0 (Sp.L_43_0 (4611686018427387904 : Nat) a0 (0 : Int) a0 (↑(List.length a0) : Int) (0 : Int)) fun y3 y4 => gd (decide ((0 : Int) ≤ y4) && room (Int.toNat y4) (4 : Nat)) (Sp.B_43_1 (Sp.L_43_1 (4611686018427387904 : Nat) y3 (↑(List.length y3) : Int) (0 : Int) []) fun y5 => some (y5, PUnit.unit))
theorem fn_43 (a0 : (List (List Int))) : evFnL sm_43 FU (ovr noO (evFn sm_43 fns FU 0)) (ir43_t O_43_43_0 O_43_43_1) ir43 (ofH [(.slice (.slice (.int .u32)))] (a0, ())) [] (pureK [(.slice (.int .u32))]) = F_43 a0 := by kernel_rfl
noncomputable def Sp.p_43 (a0 : (List (List Int))) : Bool := (F_43 a0).isSome
noncomputable def Sp.v_43 (a0 : (List (List Int))) : (List Int) × Unit := (F_43 a0).getD (dfH [(.slice (.int .u32))])
noncomputable def s_43 : Summ := shS [(.slice (.slice (.int .u32)))] [(.slice (.int .u32))] (fun x => Sp.p_43 x.1) (fun x => Sp.v_43 x.1)
theorem pv_43 (a0 : (List (List Int))) {y : (List Int) × Unit} (h : F_43 a0 = some y) : Sp.p_43 a0 = true ∧ Sp.v_43 a0 = y := ⟨by rw [Sp.p_43, h]; rfl, by rw [Sp.v_43, h]; rfl⟩
theorem run_43 (x : HDen [(.slice (.slice (.int .u32)))]) (y : HDen [(.slice (.int .u32))]) (h : F_43 x.1 = some y) : evFn sm_43 fns FU 1 43 (ofH [(.slice (.slice (.int .u32)))] x) [] (pureK [(.slice (.int .u32))]) = some y :=
  evFnL_sound (fn := ir43) (t := (ir43_t O_43_43_0 O_43_43_1)) (o := noO) rfl noO_ok (ir43_tok (fun T k r => OK_43_43_0 T k r) (fun T k r => OK_43_43_1 T k r)) ((fn_43 _).trans h)
end
end Go.Ev
namespace Go.Ev
open Go
set_option maxRecDepth 100000
set_option maxHeartbeats 4000000
set_option linter.unusedVariables false
noncomputable section
abbrev Zy69_0 : Ty := (Ty.arr (32 : Nat) (Ty.int IntKind.u8))

noncomputable def sm_69 : Nat → Option Summ := fun f => none
noncomputable def T_69_1 (p0 : Int) (p1 : List Int) (p2 : Int) (p3 : List Int) (p4 : Int) (p5 : List Int) : St := St.mk ([jk, jk, jk, CV.whole (0 : Nat), CV.int IntKind.i64 p0, jk, jk, jk, jk, CV.pure Zy69_0 p1, CV.int IntKind.i64 p2] ++ (jl 8 ++ ([CV.pure (Ty.arr (2 : Nat) (Ty.int IntKind.i64)) p3, CV.int IntKind.i64 p4] ++ (jl 22)))) [Blk.vec (3 : Nat) (Ty.int IntKind.i64) p5] (0 : Nat)
noncomputable def X_69_1_0 (p0 : Int) (p1 : List Int) (p2 : Int) (p5 : List Int) : St := St.mk ([jk, jk, jk, CV.whole (0 : Nat), CV.int IntKind.i64 p0, jk, jk, jk, jk, CV.pure Zy69_0 p1, CV.int IntKind.i64 p2] ++ (jl 32)) [Blk.vec (3 : Nat) (Ty.int IntKind.i64) p5] (0 : Nat)
inductive Sp.E_69_1 where
  | e0 (p0 : Int) (p1 : List Int) (p2 : Int) (p5 : List Int)
noncomputable def Sp.B_69_1 {R : Type} (r : Option Sp.E_69_1) (k0 : (Int) → (List Int) → (Int) → (List Int) → Option R) : Option R := match r with
  | none => none
  | some (.e0 p0 p1 p2 p5) => k0 p0 p1 p2 p5
noncomputable def Sp.L_69_1 : Nat → (Int) → (List Int) → (Int) → (List Int) → (Int) → (List Int) → Option Sp.E_69_1
  | 0, _, _, _, _, _, _ => none
  | m + 1, p0, p1, p2, p3, p4, p5 => bif decide (p4 < (2 : Int)) then gd (inB p4 (2 : Nat)) (gd (room (List.length p5 + (1 : Nat)) (8 : Nat)) (Sp.L_69_1 m (IntKind.wrap IntKind.i64 (p0 + IntKind.wrap IntKind.i64 ((15 : Int) - List.getD p3 (Int.toNat p4) (0 : Int)))) p1 p2 p3 (IntKind.wrap IntKind.i64 (p4 + (1 : Int))) (p5 ++ [List.getD p3 (Int.toNat p4) (0 : Int)]))) else some (Sp.E_69_1.e0 p0 p1 p2 p5)
noncomputable def G_69_1 {R : Type} (p0 : Int) (p1 : List Int) (p2 : Int) (p3 : List Int) (p4 : Int) (p5 : List Int) (k : Ex → St → Option R) : Option R := Sp.B_69_1 (Sp.L_69_1 FU p0 p1 p2 p3 p4 p5) (fun p0 p1 p2 p5 => k (Ex.exit (2 : Nat)) (X_69_1_0 p0 p1 p2 p5))
noncomputable def o_69_1 {R : Type} (G : (Int) → (List Int) → (Int) → (List Int) → (Int) → (List Int) → (Ex → St → Option R) → Option R) : St → (Ex → St → Option R) → Option R := fun T k => match T.sl.getD 3 .junk, T.sl.getD 4 .junk, T.sl.getD 9 .junk, T.sl.getD 10 .junk, T.sl.getD 19 .junk, T.sl.getD 20 .junk, T.hp with
  | CV.whole (0 : Nat), CV.int IntKind.i64 p0, CV.pure (Ty.arr (32 : Nat) (Ty.int IntKind.u8)) p1, CV.int IntKind.i64 p2, CV.pure (Ty.arr (2 : Nat) (Ty.int IntKind.i64)) p3, CV.int IntKind.i64 p4, ((Blk.vec (3 : Nat) (Ty.int IntKind.i64) p5) :: []) => gd (shapeOK T 43 [3, 4, 9, 10, 19, 20] (0 : Nat)) (G p0 p1 p2 p3 p4 p5 k)
  | _, _, _, _, _, _, _ => none
theorem o_69_1_inv {R : Type} {G : (Int) → (List Int) → (Int) → (List Int) → (Int) → (List Int) → (Ex → St → Option R) → Option R} {T : St} {k : Ex → St → Option R} {r : R} (h : o_69_1 G T k = some r) : ∃ p0 p1 p2 p3 p4 p5, T = T_69_1 p0 p1 p2 p3 p4 p5 ∧ G p0 p1 p2 p3 p4 p5 k = some r := by
  unfold o_69_1 at h
  split at h
  · obtain ⟨hs, h'⟩ := gd_some h
    refine ⟨_, _, _, _, _, _, (st_of (asg := [(3, _), (4, _), (9, _), (10, _), (19, _), (20, _)]) hs ⟨by assumption, by assumption, by assumption, by assumption, by assumption, by assumption, trivial⟩ (by assumption)).trans ?_, h'⟩
    kernel_rfl
  · cases h
noncomputable def T_69_0 (p0 : Int) (p1 : List Int) (p2 : Int) (p3 : List Int) : St := St.mk ([jk, jk, jk, CV.whole (0 : Nat), CV.int IntKind.i64 p0, jk, jk, jk, jk, CV.pure Zy69_0 p1, CV.int IntKind.i64 p2] ++ (jl 32)) [Blk.vec (3 : Nat) (Ty.int IntKind.i64) p3] (0 : Nat)
noncomputable def X_69_0_0 (p0 : Int) (p3 : List Int) : St := St.mk ([jk, jk, jk, CV.whole (0 : Nat), CV.int IntKind.i64 p0] ++ (jl 38)) [Blk.vec (3 : Nat) (Ty.int IntKind.i64) p3] (0 : Nat)
inductive Sp.E_69_0 where
  | e0 (p0 : Int) (p3 : List Int)
noncomputable def Sp.B_69_0 {R : Type} (r : Option Sp.E_69_0) (k0 : (Int) → (List Int) → Option R) : Option R := match r with
  | none => none
  | some (.e0 p0 p3) => k0 p0 p3
noncomputable def Sp.L_69_0 : Nat → (Int) → (List Int) → (Int) → (List Int) → Option Sp.E_69_0
  | 0, _, _, _, _ => none
  | m + 1, p0, p1, p2, p3 => bif decide (p2 < (32 : Int)) then gd (inB p2 (32 : Nat)) (Sp.B_69_1 (Sp.L_69_1 (4611686018427387904 : Nat) p0 p1 p2 [IntKind.wrap IntKind.i64 (Int.fdiv (List.getD p1 (Int.toNat p2) (0 : Int)) (16 : Int)), IntKind.wrap IntKind.i64 (Sp.andI IntKind.u8 (List.getD p1 (Int.toNat p2) (0 : Int)) (15 : Int))] (0 : Int) p3) fun y4 y5 y6 y7 => Sp.L_69_0 m y4 y5 (IntKind.wrap IntKind.i64 (y6 + (1 : Int))) y7) else some (Sp.E_69_0.e0 p0 p3)
noncomputable def G_69_0 {R : Type} (p0 : Int) (p1 : List Int) (p2 : Int) (p3 : List Int) (k : Ex → St → Option R) : Option R := Sp.B_69_0 (Sp.L_69_0 FU p0 p1 p2 p3) (fun p0 p3 => k (Ex.exit (0 : Nat)) (X_69_0_0 p0 p3))
noncomputable def o_69_0 {R : Type} (G : (Int) → (List Int) → (Int) → (List Int) → (Ex → St → Option R) → Option R) : St → (Ex → St → Option R) → Option R := fun T k => match T.sl.getD 3 .junk, T.sl.getD 4 .junk, T.sl.getD 9 .junk, T.sl.getD 10 .junk, T.hp with
  | CV.whole (0 : Nat), CV.int IntKind.i64 p0, CV.pure (Ty.arr (32 : Nat) (Ty.int IntKind.u8)) p1, CV.int IntKind.i64 p2, ((Blk.vec (3 : Nat) (Ty.int IntKind.i64) p3) :: []) => gd (shapeOK T 43 [3, 4, 9, 10] (0 : Nat)) (G p0 p1 p2 p3 k)
  | _, _, _, _, _ => none
theorem o_69_0_inv {R : Type} {G : (Int) → (List Int) → (Int) → (List Int) → (Ex → St → Option R) → Option R} {T : St} {k : Ex → St → Option R} {r : R} (h : o_69_0 G T k = some r) : ∃ p0 p1 p2 p3, T = T_69_0 p0 p1 p2 p3 ∧ G p0 p1 p2 p3 k = some r := by
  unfold o_69_0 at h
  split at h
  · obtain ⟨hs, h'⟩ := gd_some h
    refine ⟨_, _, _, _, (st_of (asg := [(3, _), (4, _), (9, _), (10, _)]) hs ⟨by assumption, by assumption, by assumption, by assumption, trivial⟩ (by assumption)).trans ?_, h'⟩
    kernel_rfl
  · cases h
noncomputable def O_69_69_1 {R : Type} : St → (Ex → St → Option R) → Option R := fun T k => o_69_1 G_69_1 T k
noncomputable def O_69_69_0 {R : Type} : St → (Ex → St → Option R) → Option R := fun T k => o_69_0 G_69_0 T k
theorem body_69_1 {R : Type} (K0 : St → Option R) (K1 : Ex → St → Option R) (p0 : Int) (p1 : List Int) (p2 : Int) (p3 : List Int) (p4 : Int) (p5 : List Int) : evLB (evCodeL sm_69 FU (ovr noO (evFn sm_69 fns FU 0)) .nil ir69_b1) (St.norm ir69_v1) (T_69_1 p0 p1 p2 p3 p4 p5) K0 K1 =
  bif decide (p4 < (2 : Int)) then gd (inB p4 (2 : Nat)) (gd (room (List.length p5 + (1 : Nat)) (8 : Nat)) (K0 (T_69_1 (IntKind.wrap IntKind.i64 (p0 + IntKind.wrap IntKind.i64 ((15 : Int) - List.getD p3 (Int.toNat p4) (0 : Int)))) p1 p2 p3 (IntKind.wrap IntKind.i64 (p4 + (1 : Int))) (p5 ++ [List.getD p3 (Int.toNat p4) (0 : Int)])))) else K1 (Ex.exit (2 : Nat)) (X_69_1_0 p0 p1 p2 p5) := by kernel_rfl
theorem Bgd_69_1 {R : Type} {c : Bool} {x : Option R} {y : Option Sp.E_69_1} {k0 : (Int) → (List Int) → (Int) → (List Int) → Option R} (h : x = Sp.B_69_1 y k0) : gd c x = Sp.B_69_1 (gd c y) k0 := by cases c; rfl; exact h
theorem Bcond_69_1 {R : Type} {c : Bool} {x x' : Option R} {y y' : Option Sp.E_69_1} {k0 : (Int) → (List Int) → (Int) → (List Int) → Option R} (h : x = Sp.B_69_1 y k0) (h' : x' = Sp.B_69_1 y' k0) : (bif c then x else x') = Sp.B_69_1 (bif c then y else y') k0 := by cases c; exact h'; exact h
theorem loop_69_1 {R : Type} (k : Ex → St → Option R) : ∀ (m : Nat) (p0 : Int) (p1 : List Int) (p2 : Int) (p3 : List Int) (p4 : Int) (p5 : List Int), evLoopN (evCodeL sm_69 FU (ovr noO (evFn sm_69 fns FU 0)) .nil ir69_b1) (St.norm ir69_v1) m (T_69_1 p0 p1 p2 p3 p4 p5) k = Sp.B_69_1 (Sp.L_69_1 m p0 p1 p2 p3 p4 p5) (fun p0 p1 p2 p5 => k (Ex.exit (2 : Nat)) (X_69_1_0 p0 p1 p2 p5))
  | 0, _, _, _, _, _, _ => rfl
  | m + 1, p0, p1, p2, p3, p4, p5 => by
    rw [evLoopN_succ, body_69_1, Sp.L_69_1]
    repeat' first | apply Bgd_69_1 | apply Bcond_69_1 | exact loop_69_1 k m _ _ _ _ _ _ | rfl
theorem ok_69_1 {R : Type} (T : St) (k : Ex → St → Option R) (r : R) (h0 : o_69_1 G_69_1 T k = some r) : evLoopN (evCode sm_69 FU (evFn sm_69 fns FU 0) ir69_b1) (St.norm ir69_v1) FU T k = some r := by
  obtain ⟨p0, p1, p2, p3, p4, p5, rfl, h⟩ := o_69_1_inv h0
  refine evLoopN_L (t := .nil) noO_ok trivial _ _ _ _ ?_
  rw [loop_69_1]
  exact h
theorem OK_69_69_1 {R : Type} (T : St) (k : Ex → St → Option R) (r : R) (h : O_69_69_1 T k = some r) : evLoopN (evCode sm_69 FU (evFn sm_69 fns FU 0) ir69_b1) (St.norm ir69_v1) FU T k = some r := ok_69_1 T k r h
theorem body_69_0 {R : Type} (K0 : St → Option R) (K1 : Ex → St → Option R) (p0 : Int) (p1 : List Int) (p2 : Int) (p3 : List Int) : evLB (evCodeL sm_69 FU (ovr noO (evFn sm_69 fns FU 0)) (ir69_bt0 O_69_69_1) ir69_b0) (St.norm ir69_v0) (T_69_0 p0 p1 p2 p3) K0 K1 =
  bif decide (p2 < (32 : Int)) then gd (inB p2 (32 : Nat)) (Sp.B_69_1 (Sp.L_69_1 (4611686018427387904 : Nat) p0 p1 p2 [IntKind.wrap IntKind.i64 (Int.fdiv (List.getD p1 (Int.toNat p2) (0 : Int)) (16 : Int)), IntKind.wrap IntKind.i64 (Sp.andI IntKind.u8 (List.getD p1 (Int.toNat p2) (0 : Int)) (15 : Int))] (0 : Int) p3) fun y4 y5 y6 y7 => K0 (T_69_0 y4 y5 (IntKind.wrap IntKind.i64 (y6 + (1 : Int))) y7)) else K1 (Ex.exit (0 : Nat)) (X_69_0_0 p0 p3) := by kernel_rfl
theorem Bgd_69_0 {R : Type} {c : Bool} {x : Option R} {y : Option Sp.E_69_0} {k0 : (Int) → (List Int) → Option R} (h : x = Sp.B_69_0 y k0) : gd c x = Sp.B_69_0 (gd c y) k0 := by cases c; rfl; exact h
theorem Bcond_69_0 {R : Type} {c : Bool} {x x' : Option R} {y y' : Option Sp.E_69_0} {k0 : (Int) → (List Int) → Option R} (h : x = Sp.B_69_0 y k0) (h' : x' = Sp.B_69_0 y' k0) : (bif c then x else x') = Sp.B_69_0 (bif c then y else y') k0 := by cases c; exact h'; exact h
theorem Bin_69_0_69_1 {R : Type} {r : Option Sp.E_69_1} {k0 : (Int) → (List Int) → Option R} {f0 : (Int) → (List Int) → (Int) → (List Int) → Option R} {g0 : (Int) → (List Int) → (Int) → (List Int) → Option Sp.E_69_0} (h0 : ∀ z0 z1 z2 z3, f0 z0 z1 z2 z3 = Sp.B_69_0 (g0 z0 z1 z2 z3) k0) : Sp.B_69_1 r f0 = Sp.B_69_0 (Sp.B_69_1 r g0) k0 := by
  cases r with
  | none => rfl
  | some e => cases e with
    | e0 z0 z1 z2 z3 => exact h0 _ _ _ _
theorem loop_69_0 {R : Type} (k : Ex → St → Option R) : ∀ (m : Nat) (p0 : Int) (p1 : List Int) (p2 : Int) (p3 : List Int), evLoopN (evCodeL sm_69 FU (ovr noO (evFn sm_69 fns FU 0)) (ir69_bt0 O_69_69_1) ir69_b0) (St.norm ir69_v0) m (T_69_0 p0 p1 p2 p3) k = Sp.B_69_0 (Sp.L_69_0 m p0 p1 p2 p3) (fun p0 p3 => k (Ex.exit (0 : Nat)) (X_69_0_0 p0 p3))
  | 0, _, _, _, _ => rfl
  | m + 1, p0, p1, p2, p3 => by
    rw [evLoopN_succ, body_69_0, Sp.L_69_0]
    repeat' first | apply Bgd_69_0 | apply Bcond_69_0 | (apply Bin_69_0_69_1 <;> intros) | exact loop_69_0 k m _ _ _ _ | rfl
theorem ok_69_0 {R : Type} (T : St) (k : Ex → St → Option R) (r : R) (h0 : o_69_0 G_69_0 T k = some r) : evLoopN (evCode sm_69 FU (evFn sm_69 fns FU 0) ir69_b0) (St.norm ir69_v0) FU T k = some r := by
  obtain ⟨p0, p1, p2, p3, rfl, h⟩ := o_69_0_inv h0
  refine evLoopN_L (t := (ir69_bt0 O_69_69_1)) noO_ok (ir69_bt0ok (fun T k r => OK_69_69_1 T k r)) _ _ _ _ ?_
  rw [loop_69_0]
  exact h
theorem OK_69_69_0 {R : Type} (T : St) (k : Ex → St → Option R) (r : R) (h : O_69_69_0 T k = some r) : evLoopN (evCode sm_69 FU (evFn sm_69 fns FU 0) ir69_b0) (St.norm ir69_v0) FU T k = some r := ok_69_0 T k r h
noncomputable def F_69 (a0 : (List Int)) : Option ((List Int) × Unit) :=
  Sp.B_69_0 (Sp.L_69_0 (4611686018427387904 : Nat) (0 : Int) a0 (0 : Int) []) fun y2 y3 => gd (room (List.length y3 + (3 : Nat)) (8 : Nat)) (some (y3 ++ [Int.fdiv y2 (256 : Int), Sp.andI IntKind.i64 (Int.fdiv y2 (16 : Int)) (15 : Int), Sp.andI IntKind.i64 y2 (15 : Int)], PUnit.unit))
theorem fn_69 (a0 : (List Int)) : evFnL sm_69 FU (ovr noO (evFn sm_69 fns FU 0)) (ir69_t O_69_69_0) ir69 (ofH [(.arr 32 (.int .u8))] (a0, ())) [] (pureK [(.slice (.int .i64))]) = F_69 a0 := by kernel_rfl
noncomputable def Sp.p_69 (a0 : (List Int)) : Bool := (F_69 a0).isSome
noncomputable def Sp.v_69 (a0 : (List Int)) : (List Int) × Unit := (F_69 a0).getD (dfH [(.slice (.int .i64))])
noncomputable def s_69 : Summ := shS [(.arr 32 (.int .u8))] [(.slice (.int .i64))] (fun x => Sp.p_69 x.1) (fun x => Sp.v_69 x.1)
theorem pv_69 (a0 : (List Int)) {y : (List Int) × Unit} (h : F_69 a0 = some y) : Sp.p_69 a0 = true ∧ Sp.v_69 a0 = y := ⟨by rw [Sp.p_69, h]; rfl, by rw [Sp.v_69, h]; rfl⟩
theorem run_69 (x : HDen [(.arr 32 (.int .u8))]) (y : HDen [(.slice (.int .i64))]) (h : F_69 x.1 = some y) : evFn sm_69 fns FU 1 69 (ofH [(.arr 32 (.int .u8))] x) [] (pureK [(.slice (.int .i64))]) = some y :=
  evFnL_sound (fn := ir69) (t := (ir69_t O_69_69_0)) (o := noO) rfl noO_ok (ir69_tok (fun T k r => OK_69_69_0 T k r)) ((fn_69 _).trans h)
end
end Go.Ev
namespace Go.Ev
open Go
set_option maxRecDepth 100000
set_option maxHeartbeats 4000000
set_option linter.unusedVariables false
noncomputable section

noncomputable def sm_70 : Nat → Option Summ := fun f => bif Nat.beq f 35 then some s_35 else none
noncomputable def T_70_0 (p0 : Int) (p1 : Int) (p2 : List Int) (p3 : List Int) : St := St.mk ([jk, jk, CV.int IntKind.i64 p0, CV.ptr (0 : Nat) [], jk, jk, CV.ptr (1 : Nat) [], CV.int IntKind.i64 p1] ++ (jl 13)) [Blk.mem (CV.pure (Ty.arr (32 : Nat) (Ty.int IntKind.u8)) p2), Blk.mem (CV.pure (Ty.arr (32 : Nat) (Ty.int IntKind.u8)) p3)] (0 : Nat)
noncomputable def X_70_0_0 (p2 : List Int) (p3 : List Int) : St := St.mk ([jk, jk, jk, CV.ptr (0 : Nat) [], jk, jk, CV.ptr (1 : Nat) []] ++ (jl 14)) [Blk.mem (CV.pure (Ty.arr (32 : Nat) (Ty.int IntKind.u8)) p2), Blk.mem (CV.pure (Ty.arr (32 : Nat) (Ty.int IntKind.u8)) p3)] (0 : Nat)
inductive Sp.E_70_0 where
  | e0 (p2 : List Int) (p3 : List Int)
noncomputable def Sp.B_70_0 {R : Type} (r : Option Sp.E_70_0) (k0 : (List Int) → (List Int) → Option R) : Option R := match r with
  | none => none
  | some (.e0 p2 p3) => k0 p2 p3
noncomputable def Sp.L_70_0 : Nat → (Int) → (Int) → (List Int) → (List Int) → Option Sp.E_70_0
  | 0, _, _, _, _ => none
  | m + 1, p0, p1, p2, p3 => bif decide (p1 < p0) then gd (room ((1 : Nat) + List.length (List.take (32 : Nat) (List.drop (0 : Nat) p2))) (1 : Nat)) (gd (Sp.p_35 ([IntKind.wrap IntKind.u8 p1] ++ List.take (32 : Nat) (List.drop (0 : Nat) p2))) (Sp.L_70_0 m p0 (IntKind.wrap IntKind.i64 (p1 + (1 : Int))) ((Sp.v_35 ([IntKind.wrap IntKind.u8 p1] ++ List.take (32 : Nat) (List.drop (0 : Nat) p2))).1) p3)) else some (Sp.E_70_0.e0 p2 p3)
noncomputable def G_70_0 {R : Type} (p0 : Int) (p1 : Int) (p2 : List Int) (p3 : List Int) (k : Ex → St → Option R) : Option R := Sp.B_70_0 (Sp.L_70_0 FU p0 p1 p2 p3) (fun p2 p3 => k (Ex.exit (0 : Nat)) (X_70_0_0 p2 p3))
noncomputable def o_70_0 {R : Type} (G : (Int) → (Int) → (List Int) → (List Int) → (Ex → St → Option R) → Option R) : St → (Ex → St → Option R) → Option R := fun T k => match T.sl.getD 2 .junk, T.sl.getD 3 .junk, T.sl.getD 6 .junk, T.sl.getD 7 .junk, T.hp with
  | CV.int IntKind.i64 p0, CV.ptr (0 : Nat) [], CV.ptr (1 : Nat) [], CV.int IntKind.i64 p1, ((Blk.mem (CV.pure (Ty.arr (32 : Nat) (Ty.int IntKind.u8)) p2)) :: (Blk.mem (CV.pure (Ty.arr (32 : Nat) (Ty.int IntKind.u8)) p3)) :: []) => gd (shapeOK T 21 [2, 3, 6, 7] (0 : Nat)) (G p0 p1 p2 p3 k)
  | _, _, _, _, _ => none
theorem o_70_0_inv {R : Type} {G : (Int) → (Int) → (List Int) → (List Int) → (Ex → St → Option R) → Option R} {T : St} {k : Ex → St → Option R} {r : R} (h : o_70_0 G T k = some r) : ∃ p0 p1 p2 p3, T = T_70_0 p0 p1 p2 p3 ∧ G p0 p1 p2 p3 k = some r := by
  unfold o_70_0 at h
  split at h
  · obtain ⟨hs, h'⟩ := gd_some h
    refine ⟨_, _, _, _, (st_of (asg := [(2, _), (3, _), (6, _), (7, _)]) hs ⟨by assumption, by assumption, by assumption, by assumption, trivial⟩ (by assumption)).trans ?_, h'⟩
    kernel_rfl
  · cases h
noncomputable def O_70_70_0 {R : Type} : St → (Ex → St → Option R) → Option R := fun T k => o_70_0 G_70_0 T k
theorem body_70_0 {R : Type} (K0 : St → Option R) (K1 : Ex → St → Option R) (p0 : Int) (p1 : Int) (p2 : List Int) (p3 : List Int) : evLB (evCodeL sm_70 FU (ovr noO (evFn sm_70 fns FU 0)) .nil ir70_b0) (St.norm ir70_v0) (T_70_0 p0 p1 p2 p3) K0 K1 =
  bif decide (p1 < p0) then gd (room ((1 : Nat) + List.length (List.take (32 : Nat) (List.drop (0 : Nat) p2))) (1 : Nat)) (gd (Sp.p_35 ([IntKind.wrap IntKind.u8 p1] ++ List.take (32 : Nat) (List.drop (0 : Nat) p2))) (K0 (T_70_0 p0 (IntKind.wrap IntKind.i64 (p1 + (1 : Int))) ((Sp.v_35 ([IntKind.wrap IntKind.u8 p1] ++ List.take (32 : Nat) (List.drop (0 : Nat) p2))).1) p3))) else K1 (Ex.exit (0 : Nat)) (X_70_0_0 p2 p3) := by kernel_rfl
theorem Bgd_70_0 {R : Type} {c : Bool} {x : Option R} {y : Option Sp.E_70_0} {k0 : (List Int) → (List Int) → Option R} (h : x = Sp.B_70_0 y k0) : gd c x = Sp.B_70_0 (gd c y) k0 := by cases c; rfl; exact h
theorem Bcond_70_0 {R : Type} {c : Bool} {x x' : Option R} {y y' : Option Sp.E_70_0} {k0 : (List Int) → (List Int) → Option R} (h : x = Sp.B_70_0 y k0) (h' : x' = Sp.B_70_0 y' k0) : (bif c then x else x') = Sp.B_70_0 (bif c then y else y') k0 := by cases c; exact h'; exact h
theorem loop_70_0 {R : Type} (k : Ex → St → Option R) : ∀ (m : Nat) (p0 : Int) (p1 : Int) (p2 : List Int) (p3 : List Int), evLoopN (evCodeL sm_70 FU (ovr noO (evFn sm_70 fns FU 0)) .nil ir70_b0) (St.norm ir70_v0) m (T_70_0 p0 p1 p2 p3) k = Sp.B_70_0 (Sp.L_70_0 m p0 p1 p2 p3) (fun p2 p3 => k (Ex.exit (0 : Nat)) (X_70_0_0 p2 p3))
  | 0, _, _, _, _ => rfl
  | m + 1, p0, p1, p2, p3 => by
    rw [evLoopN_succ, body_70_0, Sp.L_70_0]
    repeat' first | apply Bgd_70_0 | apply Bcond_70_0 | exact loop_70_0 k m _ _ _ _ | rfl
theorem ok_70_0 {R : Type} (T : St) (k : Ex → St → Option R) (r : R) (h0 : o_70_0 G_70_0 T k = some r) : evLoopN (evCode sm_70 FU (evFn sm_70 fns FU 0) ir70_b0) (St.norm ir70_v0) FU T k = some r := by
  obtain ⟨p0, p1, p2, p3, rfl, h⟩ := o_70_0_inv h0
  refine evLoopN_L (t := .nil) noO_ok trivial _ _ _ _ ?_
  rw [loop_70_0]
  exact h
theorem OK_70_70_0 {R : Type} (T : St) (k : Ex → St → Option R) (r : R) (h : O_70_70_0 T k = some r) : evLoopN (evCode sm_70 FU (evFn sm_70 fns FU 0) ir70_b0) (St.norm ir70_v0) FU T k = some r := ok_70_0 T k r h
noncomputable def F_70 (a0 : (List Int)) (a1 : Int) (a2 : Int) : Option ((List Int) × Unit) :=
  Sp.B_70_0 (Sp.L_70_0 (4611686018427387904 : Nat) a2 a1 a0 (List.replicate (32 : Nat) (0 : Int))) fun y2 y3 => some (y2, PUnit.unit)
theorem fn_70 (a0 : (List Int)) (a1 : Int) (a2 : Int) : evFnL sm_70 FU (ovr noO (evFn sm_70 fns FU 0)) (ir70_t O_70_70_0) ir70 (ofH [(.arr 32 (.int .u8)), (.int .i64), (.int .i64)] (a0, a1, a2, ())) [] (pureK [(.arr 32 (.int .u8))]) = F_70 a0 a1 a2 := by kernel_rfl
noncomputable def Sp.p_70 (a0 : (List Int)) (a1 : Int) (a2 : Int) : Bool := (F_70 a0 a1 a2).isSome
noncomputable def Sp.v_70 (a0 : (List Int)) (a1 : Int) (a2 : Int) : (List Int) × Unit := (F_70 a0 a1 a2).getD (dfH [(.arr 32 (.int .u8))])
noncomputable def s_70 : Summ := shN [(.arr 32 (.int .u8)), (.int .i64), (.int .i64)] [(.arr 32 (.int .u8))] (fun x => Sp.p_70 x.1 x.2.1 x.2.2.1) (fun x => Sp.v_70 x.1 x.2.1 x.2.2.1)
theorem pv_70 (a0 : (List Int)) (a1 : Int) (a2 : Int) {y : (List Int) × Unit} (h : F_70 a0 a1 a2 = some y) : Sp.p_70 a0 a1 a2 = true ∧ Sp.v_70 a0 a1 a2 = y := ⟨by rw [Sp.p_70, h]; rfl, by rw [Sp.v_70, h]; rfl⟩
theorem run_70 (x : HDen [(.arr 32 (.int .u8)), (.int .i64), (.int .i64)]) (y : HDen [(.arr 32 (.int .u8))]) (h : F_70 x.1 x.2.1 x.2.2.1 = some y) : evFn sm_70 fns FU 1 70 (ofH [(.arr 32 (.int .u8)), (.int .i64), (.int .i64)] x) [] (pureK [(.arr 32 (.int .u8))]) = some y :=
  evFnL_sound (fn := ir70) (t := (ir70_t O_70_70_0)) (o := noO) rfl noO_ok (ir70_tok (fun T k r => OK_70_70_0 T k r)) ((fn_70 _ _ _).trans h)
end
end Go.Ev
namespace Go.Ev
open Go
set_option maxRecDepth 100000
set_option maxHeartbeats 4000000
set_option linter.unusedVariables false
noncomputable section

noncomputable def sm_73 : Nat → Option Summ := fun f => bif Nat.beq f 35 then some s_35 else none


noncomputable def F_73 (a0 : (List Int)) (a1 : (List Int)) : Option ((List Int) × Unit) :=
  gd (room ((1 : Nat) + List.length (List.take (32 : Nat) (List.drop (0 : Nat) a0))) (1 : Nat)) (gd (room (List.length ([(255 : Int)] ++ List.take (32 : Nat) (List.drop (0 : Nat) a0)) + List.length (List.take (32 : Nat) (List.drop (0 : Nat) a1))) (1 : Nat)) (gd (Sp.p_35 ([(255 : Int)] ++ List.take (32 : Nat) (List.drop (0 : Nat) a0) ++ List.take (32 : Nat) (List.drop (0 : Nat) a1))) (some ((Sp.v_35 ([(255 : Int)] ++ List.take (32 : Nat) (List.drop (0 : Nat) a0) ++ List.take (32 : Nat) (List.drop (0 : Nat) a1))).1, PUnit.unit))))
theorem fn_73 (a0 : (List Int)) (a1 : (List Int)) : evFnL sm_73 FU (ovr noO (evFn sm_73 fns FU 0)) .nil ir73 (ofH [(.arr 32 (.int .u8)), (.arr 32 (.int .u8))] (a0, a1, ())) [] (pureK [(.arr 32 (.int .u8))]) = F_73 a0 a1 := by kernel_rfl
noncomputable def Sp.p_73 (a0 : (List Int)) (a1 : (List Int)) : Bool := (F_73 a0 a1).isSome
noncomputable def Sp.v_73 (a0 : (List Int)) (a1 : (List Int)) : (List Int) × Unit := (F_73 a0 a1).getD (dfH [(.arr 32 (.int .u8))])
noncomputable def s_73 : Summ := shN [(.arr 32 (.int .u8)), (.arr 32 (.int .u8))] [(.arr 32 (.int .u8))] (fun x => Sp.p_73 x.1 x.2.1) (fun x => Sp.v_73 x.1 x.2.1)
theorem pv_73 (a0 : (List Int)) (a1 : (List Int)) {y : (List Int) × Unit} (h : F_73 a0 a1 = some y) : Sp.p_73 a0 a1 = true ∧ Sp.v_73 a0 a1 = y := ⟨by rw [Sp.p_73, h]; rfl, by rw [Sp.v_73, h]; rfl⟩
theorem run_73 (x : HDen [(.arr 32 (.int .u8)), (.arr 32 (.int .u8))]) (y : HDen [(.arr 32 (.int .u8))]) (h : F_73 x.1 x.2.1 = some y) : evFn sm_73 fns FU 1 73 (ofH [(.arr 32 (.int .u8)), (.arr 32 (.int .u8))] x) [] (pureK [(.arr 32 (.int .u8))]) = some y :=
  evFnL_sound (fn := ir73) (t := .nil) (o := noO) rfl noO_ok trivial ((fn_73 _ _).trans h)
end
end Go.Ev
namespace Go.Ev
open Go
set_option maxRecDepth 100000
set_option maxHeartbeats 4000000
set_option linter.unusedVariables false
noncomputable section

noncomputable def sm_78 : Nat → Option Summ := fun f => none


noncomputable def F_78 (a0 : (Int × ((List (List Int)) × ((List (List Int)) × Unit)))) : Option (Bool × Unit) :=
  bif decide (a0.1 ≥ (0 : Int)) then bif decide (a0.1 < (4 : Int)) then bif (↑(List.length (a0.2.1)) : Int) == (67 : Int) then some ((↑(List.length (a0.2.2.1)) : Int) == (2 : Int), PUnit.unit) else some (false, PUnit.unit) else some (false, PUnit.unit) else some (false, PUnit.unit)
theorem fn_78 (a0 : (Int × ((List (List Int)) × ((List (List Int)) × Unit)))) : evFnL sm_78 FU (ovr noO (evFn sm_78 fns FU 0)) .nil ir78 (ofH [(.pair (.int .i64) (.pair (.slice (.arr 32 (.int .u8))) (.pair (.slice (.arr 32 (.int .u8))) .unit)))] (a0, ())) [] (pureK [.bool]) = F_78 a0 := by kernel_rfl
noncomputable def Sp.p_78 (a0 : (Int × ((List (List Int)) × ((List (List Int)) × Unit)))) : Bool := (F_78 a0).isSome
noncomputable def Sp.v_78 (a0 : (Int × ((List (List Int)) × ((List (List Int)) × Unit)))) : Bool × Unit := (F_78 a0).getD (dfH [.bool])
noncomputable def s_78 : Summ := shN [(.pair (.int .i64) (.pair (.slice (.arr 32 (.int .u8))) (.pair (.slice (.arr 32 (.int .u8))) .unit)))] [.bool] (fun x => Sp.p_78 x.1) (fun x => Sp.v_78 x.1)
theorem pv_78 (a0 : (Int × ((List (List Int)) × ((List (List Int)) × Unit)))) {y : Bool × Unit} (h : F_78 a0 = some y) : Sp.p_78 a0 = true ∧ Sp.v_78 a0 = y := ⟨by rw [Sp.p_78, h]; rfl, by rw [Sp.v_78, h]; rfl⟩
theorem run_78 (x : HDen [(.pair (.int .i64) (.pair (.slice (.arr 32 (.int .u8))) (.pair (.slice (.arr 32 (.int .u8))) .unit)))]) (y : HDen [.bool]) (h : F_78 x.1 = some y) : evFn sm_78 fns FU 1 78 (ofH [(.pair (.int .i64) (.pair (.slice (.arr 32 (.int .u8))) (.pair (.slice (.arr 32 (.int .u8))) .unit)))] x) [] (pureK [.bool]) = some y :=
  evFnL_sound (fn := ir78) (t := .nil) (o := noO) rfl noO_ok trivial ((fn_78 _).trans h)
end
end Go.Ev
namespace Go.Ev
open Go
set_option maxRecDepth 100000
set_option maxHeartbeats 4000000
set_option linter.unusedVariables false
noncomputable section

noncomputable def sm_79 : Nat → Option Summ := fun f => bif Nat.beq f 35 then some s_35 else none
noncomputable def T_79_0 (p0 : List (List Int)) (p1 : Int) (p2 : Int) (p3 : List Int) (p4 : List Int) : St := St.mk ([jk, jk, CV.ptr (0 : Nat) [], CV.whole (1 : Nat), jk, jk, CV.pure (Ty.slice (Ty.arr (32 : Nat) (Ty.int IntKind.u8))) p0, CV.int IntKind.i64 p1, CV.int IntKind.i64 p2] ++ (jl 9)) [Blk.mem (CV.pure (Ty.arr (32 : Nat) (Ty.int IntKind.u8)) p3), Blk.vec (5 : Nat) (Ty.int IntKind.u8) p4] (0 : Nat)
noncomputable def X_79_0_0 (p3 : List Int) (p4 : List Int) : St := St.mk ([jk, jk, CV.ptr (0 : Nat) [], CV.whole (1 : Nat)] ++ (jl 14)) [Blk.mem (CV.pure (Ty.arr (32 : Nat) (Ty.int IntKind.u8)) p3), Blk.vec (5 : Nat) (Ty.int IntKind.u8) p4] (0 : Nat)
inductive Sp.E_79_0 where
  | e0 (p3 : List Int) (p4 : List Int)
noncomputable def Sp.B_79_0 {R : Type} (r : Option Sp.E_79_0) (k0 : (List Int) → (List Int) → Option R) : Option R := match r with
  | none => none
  | some (.e0 p3 p4) => k0 p3 p4
noncomputable def Sp.L_79_0 : Nat → (List (List Int)) → (Int) → (Int) → (List Int) → (List Int) → Option Sp.E_79_0
  | 0, _, _, _, _, _ => none
  | m + 1, p0, p1, p2, p3, p4 => bif decide (p2 < p1) then gd (inB p2 (List.length p0)) (gd (room (List.length p4 + List.length (List.take (32 : Nat) (List.drop (0 : Nat) (List.getD p0 (Int.toNat p2) (Ty.dflt (Ty.arr (32 : Nat) (Ty.int IntKind.u8))))))) (1 : Nat)) (Sp.L_79_0 m p0 p1 (IntKind.wrap IntKind.i64 (p2 + (1 : Int))) p3 (p4 ++ List.take (32 : Nat) (List.drop (0 : Nat) (List.getD p0 (Int.toNat p2) (Ty.dflt (Ty.arr (32 : Nat) (Ty.int IntKind.u8)))))))) else some (Sp.E_79_0.e0 p3 p4)
noncomputable def G_79_0 {R : Type} (p0 : List (List Int)) (p1 : Int) (p2 : Int) (p3 : List Int) (p4 : List Int) (k : Ex → St → Option R) : Option R := Sp.B_79_0 (Sp.L_79_0 FU p0 p1 p2 p3 p4) (fun p3 p4 => k (Ex.exit (0 : Nat)) (X_79_0_0 p3 p4))
noncomputable def o_79_0 {R : Type} (G : (List (List Int)) → (Int) → (Int) → (List Int) → (List Int) → (Ex → St → Option R) → Option R) : St → (Ex → St → Option R) → Option R := fun T k => match T.sl.getD 2 .junk, T.sl.getD 3 .junk, T.sl.getD 6 .junk, T.sl.getD 7 .junk, T.sl.getD 8 .junk, T.hp with
  | CV.ptr (0 : Nat) [], CV.whole (1 : Nat), CV.pure (Ty.slice (Ty.arr (32 : Nat) (Ty.int IntKind.u8))) p0, CV.int IntKind.i64 p1, CV.int IntKind.i64 p2, ((Blk.mem (CV.pure (Ty.arr (32 : Nat) (Ty.int IntKind.u8)) p3)) :: (Blk.vec (5 : Nat) (Ty.int IntKind.u8) p4) :: []) => gd (shapeOK T 18 [2, 3, 6, 7, 8] (0 : Nat)) (G p0 p1 p2 p3 p4 k)
  | _, _, _, _, _, _ => none
theorem o_79_0_inv {R : Type} {G : (List (List Int)) → (Int) → (Int) → (List Int) → (List Int) → (Ex → St → Option R) → Option R} {T : St} {k : Ex → St → Option R} {r : R} (h : o_79_0 G T k = some r) : ∃ p0 p1 p2 p3 p4, T = T_79_0 p0 p1 p2 p3 p4 ∧ G p0 p1 p2 p3 p4 k = some r := by
  unfold o_79_0 at h
  split at h
  · obtain ⟨hs, h'⟩ := gd_some h
    refine ⟨_, _, _, _, _, (st_of (asg := [(2, _), (3, _), (6, _), (7, _), (8, _)]) hs ⟨by assumption, by assumption, by assumption, by assumption, by assumption, trivial⟩ (by assumption)).trans ?_, h'⟩
    kernel_rfl
  · cases h
noncomputable def O_79_79_0 {R : Type} : St → (Ex → St → Option R) → Option R := fun T k => o_79_0 G_79_0 T k
theorem body_79_0 {R : Type} (K0 : St → Option R) (K1 : Ex → St → Option R) (p0 : List (List Int)) (p1 : Int) (p2 : Int) (p3 : List Int) (p4 : List Int) : evLB (evCodeL sm_79 FU (ovr noO (evFn sm_79 fns FU 0)) .nil ir79_b0) (St.norm ir79_v0) (T_79_0 p0 p1 p2 p3 p4) K0 K1 =
  bif decide (p2 < p1) then gd (inB p2 (List.length p0)) (gd (room (List.length p4 + List.length (List.take (32 : Nat) (List.drop (0 : Nat) (List.getD p0 (Int.toNat p2) (Ty.dflt (Ty.arr (32 : Nat) (Ty.int IntKind.u8))))))) (1 : Nat)) (K0 (T_79_0 p0 p1 (IntKind.wrap IntKind.i64 (p2 + (1 : Int))) p3 (p4 ++ List.take (32 : Nat) (List.drop (0 : Nat) (List.getD p0 (Int.toNat p2) (Ty.dflt (Ty.arr (32 : Nat) (Ty.int IntKind.u8))))))))) else K1 (Ex.exit (0 : Nat)) (X_79_0_0 p3 p4) := by kernel_rfl
theorem Bgd_79_0 {R : Type} {c : Bool} {x : Option R} {y : Option Sp.E_79_0} {k0 : (List Int) → (List Int) → Option R} (h : x = Sp.B_79_0 y k0) : gd c x = Sp.B_79_0 (gd c y) k0 := by cases c; rfl; exact h
theorem Bcond_79_0 {R : Type} {c : Bool} {x x' : Option R} {y y' : Option Sp.E_79_0} {k0 : (List Int) → (List Int) → Option R} (h : x = Sp.B_79_0 y k0) (h' : x' = Sp.B_79_0 y' k0) : (bif c then x else x') = Sp.B_79_0 (bif c then y else y') k0 := by cases c; exact h'; exact h
theorem loop_79_0 {R : Type} (k : Ex → St → Option R) : ∀ (m : Nat) (p0 : List (List Int)) (p1 : Int) (p2 : Int) (p3 : List Int) (p4 : List Int), evLoopN (evCodeL sm_79 FU (ovr noO (evFn sm_79 fns FU 0)) .nil ir79_b0) (St.norm ir79_v0) m (T_79_0 p0 p1 p2 p3 p4) k = Sp.B_79_0 (Sp.L_79_0 m p0 p1 p2 p3 p4) (fun p3 p4 => k (Ex.exit (0 : Nat)) (X_79_0_0 p3 p4))
  | 0, _, _, _, _, _ => rfl
  | m + 1, p0, p1, p2, p3, p4 => by
    rw [evLoopN_succ, body_79_0, Sp.L_79_0]
    repeat' first | apply Bgd_79_0 | apply Bcond_79_0 | exact loop_79_0 k m _ _ _ _ _ | rfl
theorem ok_79_0 {R : Type} (T : St) (k : Ex → St → Option R) (r : R) (h0 : o_79_0 G_79_0 T k = some r) : evLoopN (evCode sm_79 FU (evFn sm_79 fns FU 0) ir79_b0) (St.norm ir79_v0) FU T k = some r := by
  obtain ⟨p0, p1, p2, p3, p4, rfl, h⟩ := o_79_0_inv h0
  refine evLoopN_L (t := .nil) noO_ok trivial _ _ _ _ ?_
  rw [loop_79_0]
  exact h
theorem OK_79_79_0 {R : Type} (T : St) (k : Ex → St → Option R) (r : R) (h : O_79_79_0 T k = some r) : evLoopN (evCode sm_79 FU (evFn sm_79 fns FU 0) ir79_b0) (St.norm ir79_v0) FU T k = some r := ok_79_0 T k r h
noncomputable def F_79 (a0 : (List (List Int))) : Option ((List Int) × Unit) :=
  Sp.B_79_0 (Sp.L_79_0 (4611686018427387904 : Nat) a0 (↑(List.length a0) : Int) (0 : Int) (List.replicate (32 : Nat) (0 : Int)) []) fun y2 y3 => gd (Sp.p_35 y3) (some ((Sp.v_35 y3).1, PUnit.unit))
theorem fn_79 (a0 : (List (List Int))) : evFnL sm_79 FU (ovr noO (evFn sm_79 fns FU 0)) (ir79_t O_79_79_0) ir79 (ofH [(.slice (.arr 32 (.int .u8)))] (a0, ())) [] (pureK [(.arr 32 (.int .u8))]) = F_79 a0 := by kernel_rfl
noncomputable def Sp.p_79 (a0 : (List (List Int))) : Bool := (F_79 a0).isSome
noncomputable def Sp.v_79 (a0 : (List (List Int))) : (List Int) × Unit := (F_79 a0).getD (dfH [(.arr 32 (.int .u8))])
noncomputable def s_79 : Summ := shN [(.slice (.arr 32 (.int .u8)))] [(.arr 32 (.int .u8))] (fun x => Sp.p_79 x.1) (fun x => Sp.v_79 x.1)
theorem pv_79 (a0 : (List (List Int))) {y : (List Int) × Unit} (h : F_79 a0 = some y) : Sp.p_79 a0 = true ∧ Sp.v_79 a0 = y := ⟨by rw [Sp.p_79, h]; rfl, by rw [Sp.v_79, h]; rfl⟩
theorem run_79 (x : HDen [(.slice (.arr 32 (.int .u8)))]) (y : HDen [(.arr 32 (.int .u8))]) (h : F_79 x.1 = some y) : evFn sm_79 fns FU 1 79 (ofH [(.slice (.arr 32 (.int .u8)))] x) [] (pureK [(.arr 32 (.int .u8))]) = some y :=
  evFnL_sound (fn := ir79) (t := (ir79_t O_79_79_0)) (o := noO) rfl noO_ok (ir79_tok (fun T k r => OK_79_79_0 T k r)) ((fn_79 _).trans h)
end
end Go.Ev
namespace Go.Ev
open Go
set_option maxRecDepth 100000
set_option maxHeartbeats 4000000
set_option linter.unusedVariables false
noncomputable section
abbrev Zt45_0 : Type := Int × List (List Int) × List (List Int) × Unit
abbrev Zy45_1 : Ty := (Ty.arr (32 : Nat) (Ty.int IntKind.u8))
abbrev Zy45_2 : Ty := (Ty.pair (Ty.int IntKind.i64) (Ty.pair (Ty.slice (Ty.arr (32 : Nat) (Ty.int IntKind.u8))) (Ty.pair (Ty.slice (Ty.arr (32 : Nat) (Ty.int IntKind.u8))) Ty.unit)))
abbrev Zy45_3 : Ty := (.pair (.int .i64) (.pair (.slice (.arr 32 (.int .u8))) (.pair (.slice (.arr 32 (.int .u8))) .unit)))
abbrev Zt45_4 : Type := List (List Int)

noncomputable def sm_45 : Nat → Option Summ := fun f => bif Nat.beq f 69 then some s_69 else bif Nat.beq f 70 then some s_70 else bif Nat.beq f 73 then some s_73 else bif Nat.beq f 78 then some s_78 else bif Nat.beq f 79 then some s_79 else none
noncomputable def T_45_0 (p0 : List Int) (p1 : Int) (p2 : Int) (p3 : List Int) (p4 : Zt45_0) (p5 : Zt45_4) : St := St.mk ([jk, jk, jk, CV.ptr (0 : Nat) [], jk, CV.ptr (1 : Nat) [], jk, CV.whole (2 : Nat)] ++ (jl 9 ++ ([CV.pure (Ty.slice (Ty.int IntKind.i64)) p0, CV.int IntKind.i64 p1, CV.int IntKind.i64 p2] ++ (jl 41)))) [Blk.mem (CV.pure Zy45_1 p3), Blk.mem (CV.pure Zy45_2 p4), Blk.vec (27 : Nat) Zy45_1 p5] (0 : Nat)
noncomputable def X_45_0_0 (p3 : List Int) (p4 : Zt45_0) (p5 : Zt45_4) : St := St.mk ([jk, jk, jk, CV.ptr (0 : Nat) [], jk, CV.ptr (1 : Nat) [], jk, CV.whole (2 : Nat)] ++ (jl 53)) [Blk.mem (CV.pure Zy45_1 p3), Blk.mem (CV.pure Zy45_2 p4), Blk.vec (27 : Nat) Zy45_1 p5] (0 : Nat)
inductive Sp.E_45_0 where
  | e0 (p3 : List Int) (p4 : Zt45_0) (p5 : Zt45_4)
noncomputable def Sp.B_45_0 {R : Type} (r : Option Sp.E_45_0) (k0 : (List Int) → (Zt45_0) → (Zt45_4) → Option R) : Option R := match r with
  | none => none
  | some (.e0 p3 p4 p5) => k0 p3 p4 p5
noncomputable def Sp.L_45_0 : Nat → (List Int) → (Int) → (Int) → (List Int) → (Int × List (List Int) × List (List Int) × Unit) → (List (List Int)) → Option Sp.E_45_0
  | 0, _, _, _, _, _, _ => none
  | m + 1, p0, p1, p2, p3, p4, p5 => bif decide (p2 < p1) then gd (inB p2 (List.length p0)) (gd (inB p2 (List.length (p4.2.1))) (gd (Sp.p_70 (List.getD (p4.2.1) (Int.toNat p2) (Ty.dflt (Ty.arr (32 : Nat) (Ty.int IntKind.u8)))) (List.getD p0 (Int.toNat p2) (0 : Int)) (15 : Int)) (gd (room (List.length p5 + (1 : Nat)) (32 : Nat)) (Sp.L_45_0 m p0 p1 (IntKind.wrap IntKind.i64 (p2 + (1 : Int))) p3 p4 (p5 ++ [(Sp.v_70 (List.getD (p4.2.1) (Int.toNat p2) (Ty.dflt (Ty.arr (32 : Nat) (Ty.int IntKind.u8)))) (List.getD p0 (Int.toNat p2) (0 : Int)) (15 : Int)).1]))))) else some (Sp.E_45_0.e0 p3 p4 p5)
noncomputable def G_45_0 {R : Type} (p0 : List Int) (p1 : Int) (p2 : Int) (p3 : List Int) (p4 : Zt45_0) (p5 : Zt45_4) (k : Ex → St → Option R) : Option R := Sp.B_45_0 (Sp.L_45_0 FU p0 p1 p2 p3 p4 p5) (fun p3 p4 p5 => k (Ex.exit (0 : Nat)) (X_45_0_0 p3 p4 p5))
noncomputable def o_45_0 {R : Type} (G : (List Int) → (Int) → (Int) → (List Int) → (Zt45_0) → (Zt45_4) → (Ex → St → Option R) → Option R) : St → (Ex → St → Option R) → Option R := fun T k => match T.sl.getD 3 .junk, T.sl.getD 5 .junk, T.sl.getD 7 .junk, T.sl.getD 17 .junk, T.sl.getD 18 .junk, T.sl.getD 19 .junk, T.hp with
  | CV.ptr (0 : Nat) [], CV.ptr (1 : Nat) [], CV.whole (2 : Nat), CV.pure (Ty.slice (Ty.int IntKind.i64)) p0, CV.int IntKind.i64 p1, CV.int IntKind.i64 p2, ((Blk.mem (CV.pure (Ty.arr (32 : Nat) (Ty.int IntKind.u8)) p3)) :: (Blk.mem (CV.pure (Ty.pair (Ty.int IntKind.i64) (Ty.pair (Ty.slice (Ty.arr (32 : Nat) (Ty.int IntKind.u8))) (Ty.pair (Ty.slice (Ty.arr (32 : Nat) (Ty.int IntKind.u8))) Ty.unit))) p4)) :: (Blk.vec (27 : Nat) (Ty.arr (32 : Nat) (Ty.int IntKind.u8)) p5) :: []) => gd (shapeOK T 61 [3, 5, 7, 17, 18, 19] (0 : Nat)) (G p0 p1 p2 p3 p4 p5 k)
  | _, _, _, _, _, _, _ => none
theorem o_45_0_inv {R : Type} {G : (List Int) → (Int) → (Int) → (List Int) → (Zt45_0) → (Zt45_4) → (Ex → St → Option R) → Option R} {T : St} {k : Ex → St → Option R} {r : R} (h : o_45_0 G T k = some r) : ∃ p0 p1 p2 p3 p4 p5, T = T_45_0 p0 p1 p2 p3 p4 p5 ∧ G p0 p1 p2 p3 p4 p5 k = some r := by
  unfold o_45_0 at h
  split at h
  · obtain ⟨hs, h'⟩ := gd_some h
    refine ⟨_, _, _, _, _, _, (st_of (asg := [(3, _), (5, _), (7, _), (17, _), (18, _), (19, _)]) hs ⟨by assumption, by assumption, by assumption, by assumption, by assumption, by assumption, trivial⟩ (by assumption)).trans ?_, h'⟩
    kernel_rfl
  · cases h
noncomputable def T_45_1 (p0 : Zt45_4) (p1 : Int) (p2 : Int) (p3 : List Int) (p4 : Zt45_0) (p5 : List Int) : St := St.mk ([jk, jk, jk, CV.ptr (0 : Nat) [], jk, CV.ptr (1 : Nat) [], jk, jk, jk, jk, CV.ptr (2 : Nat) []] ++ (jl 27 ++ ([CV.pure (Ty.slice (Ty.arr (32 : Nat) (Ty.int IntKind.u8))) p0, CV.int IntKind.i64 p1, CV.int IntKind.i64 p2] ++ (jl 20)))) [Blk.mem (CV.pure Zy45_1 p3), Blk.mem (CV.pure Zy45_2 p4), Blk.mem (CV.pure Zy45_1 p5)] (0 : Nat)
noncomputable def X_45_1_0 (p3 : List Int) (p5 : List Int) : St := St.mk ([jk, jk, jk, CV.ptr (0 : Nat) []] ++ (jl 6 ++ ([CV.ptr (1 : Nat) []] ++ (jl 50)))) [Blk.mem (CV.pure Zy45_1 p3), Blk.mem (CV.pure Zy45_1 p5)] (0 : Nat)
inductive Sp.E_45_1 where
  | e0 (p3 : List Int) (p5 : List Int)
noncomputable def Sp.B_45_1 {R : Type} (r : Option Sp.E_45_1) (k0 : (List Int) → (List Int) → Option R) : Option R := match r with
  | none => none
  | some (.e0 p3 p5) => k0 p3 p5
noncomputable def Sp.L_45_1 : Nat → (List (List Int)) → (Int) → (Int) → (List Int) → (Int × List (List Int) × List (List Int) × Unit) → (List Int) → Option Sp.E_45_1
  | 0, _, _, _, _, _, _ => none
  | m + 1, p0, p1, p2, p3, p4, p5 => bif decide (p2 < p1) then gd (inB p2 (List.length p0)) (gd (decide ((0 : Int) ≤ p2)) (bif Sp.andI IntKind.i64 (Int.fdiv (p4.1) ((2 : Int) ^ Nat.min (Int.toNat p2) (64 : Nat))) (1 : Int) == (1 : Int) then gd (Sp.p_73 (List.getD p0 (Int.toNat p2) (Ty.dflt (Ty.arr (32 : Nat) (Ty.int IntKind.u8)))) p5) (Sp.L_45_1 m p0 p1 (IntKind.wrap IntKind.i64 (p2 + (1 : Int))) p3 p4 ((Sp.v_73 (List.getD p0 (Int.toNat p2) (Ty.dflt (Ty.arr (32 : Nat) (Ty.int IntKind.u8)))) p5).1)) else gd (Sp.p_73 p5 (List.getD p0 (Int.toNat p2) (Ty.dflt (Ty.arr (32 : Nat) (Ty.int IntKind.u8))))) (Sp.L_45_1 m p0 p1 (IntKind.wrap IntKind.i64 (p2 + (1 : Int))) p3 p4 ((Sp.v_73 p5 (List.getD p0 (Int.toNat p2) (Ty.dflt (Ty.arr (32 : Nat) (Ty.int IntKind.u8))))).1)))) else some (Sp.E_45_1.e0 p3 p5)
noncomputable def G_45_1 {R : Type} (p0 : Zt45_4) (p1 : Int) (p2 : Int) (p3 : List Int) (p4 : Zt45_0) (p5 : List Int) (k : Ex → St → Option R) : Option R := Sp.B_45_1 (Sp.L_45_1 FU p0 p1 p2 p3 p4 p5) (fun p3 p5 => k (Ex.exit (2 : Nat)) (X_45_1_0 p3 p5))
noncomputable def o_45_1 {R : Type} (G : (Zt45_4) → (Int) → (Int) → (List Int) → (Zt45_0) → (List Int) → (Ex → St → Option R) → Option R) : St → (Ex → St → Option R) → Option R := fun T k => match T.sl.getD 3 .junk, T.sl.getD 5 .junk, T.sl.getD 10 .junk, T.sl.getD 38 .junk, T.sl.getD 39 .junk, T.sl.getD 40 .junk, T.hp with
  | CV.ptr (0 : Nat) [], CV.ptr (1 : Nat) [], CV.ptr (2 : Nat) [], CV.pure (Ty.slice (Ty.arr (32 : Nat) (Ty.int IntKind.u8))) p0, CV.int IntKind.i64 p1, CV.int IntKind.i64 p2, ((Blk.mem (CV.pure (Ty.arr (32 : Nat) (Ty.int IntKind.u8)) p3)) :: (Blk.mem (CV.pure (Ty.pair (Ty.int IntKind.i64) (Ty.pair (Ty.slice (Ty.arr (32 : Nat) (Ty.int IntKind.u8))) (Ty.pair (Ty.slice (Ty.arr (32 : Nat) (Ty.int IntKind.u8))) Ty.unit))) p4)) :: (Blk.mem (CV.pure (Ty.arr (32 : Nat) (Ty.int IntKind.u8)) p5)) :: []) => gd (shapeOK T 61 [3, 5, 10, 38, 39, 40] (0 : Nat)) (G p0 p1 p2 p3 p4 p5 k)
  | _, _, _, _, _, _, _ => none
theorem o_45_1_inv {R : Type} {G : (Zt45_4) → (Int) → (Int) → (List Int) → (Zt45_0) → (List Int) → (Ex → St → Option R) → Option R} {T : St} {k : Ex → St → Option R} {r : R} (h : o_45_1 G T k = some r) : ∃ p0 p1 p2 p3 p4 p5, T = T_45_1 p0 p1 p2 p3 p4 p5 ∧ G p0 p1 p2 p3 p4 p5 k = some r := by
  unfold o_45_1 at h
  split at h
  · obtain ⟨hs, h'⟩ := gd_some h
    refine ⟨_, _, _, _, _, _, (st_of (asg := [(3, _), (5, _), (10, _), (38, _), (39, _), (40, _)]) hs ⟨by assumption, by assumption, by assumption, by assumption, by assumption, by assumption, trivial⟩ (by assumption)).trans ?_, h'⟩
    kernel_rfl
  · cases h
noncomputable def O_45_45_0 {R : Type} : St → (Ex → St → Option R) → Option R := fun T k => o_45_0 G_45_0 T k
noncomputable def O_45_45_1 {R : Type} : St → (Ex → St → Option R) → Option R := fun T k => o_45_1 G_45_1 T k
theorem body_45_0 {R : Type} (K0 : St → Option R) (K1 : Ex → St → Option R) (p0 : List Int) (p1 : Int) (p2 : Int) (p3 : List Int) (p4 : Zt45_0) (p5 : Zt45_4) : evLB (evCodeL sm_45 FU (ovr noO (evFn sm_45 fns FU 0)) .nil ir45_b0) (St.norm ir45_v0) (T_45_0 p0 p1 p2 p3 p4 p5) K0 K1 =
  bif decide (p2 < p1) then gd (inB p2 (List.length p0)) (gd (inB p2 (List.length (p4.2.1))) (gd (Sp.p_70 (List.getD (p4.2.1) (Int.toNat p2) (Ty.dflt Zy45_1)) (List.getD p0 (Int.toNat p2) (0 : Int)) (15 : Int)) (gd (room (List.length p5 + (1 : Nat)) (32 : Nat)) (K0 (T_45_0 p0 p1 (IntKind.wrap IntKind.i64 (p2 + (1 : Int))) p3 p4 (p5 ++ [(Sp.v_70 (List.getD (p4.2.1) (Int.toNat p2) (Ty.dflt Zy45_1)) (List.getD p0 (Int.toNat p2) (0 : Int)) (15 : Int)).1])))))) else K1 (Ex.exit (0 : Nat)) (X_45_0_0 p3 p4 p5) := by kernel_rfl
theorem Bgd_45_0 {R : Type} {c : Bool} {x : Option R} {y : Option Sp.E_45_0} {k0 : (List Int) → (Zt45_0) → (Zt45_4) → Option R} (h : x = Sp.B_45_0 y k0) : gd c x = Sp.B_45_0 (gd c y) k0 := by cases c; rfl; exact h
theorem Bcond_45_0 {R : Type} {c : Bool} {x x' : Option R} {y y' : Option Sp.E_45_0} {k0 : (List Int) → (Zt45_0) → (Zt45_4) → Option R} (h : x = Sp.B_45_0 y k0) (h' : x' = Sp.B_45_0 y' k0) : (bif c then x else x') = Sp.B_45_0 (bif c then y else y') k0 := by cases c; exact h'; exact h
theorem loop_45_0 {R : Type} (k : Ex → St → Option R) : ∀ (m : Nat) (p0 : List Int) (p1 : Int) (p2 : Int) (p3 : List Int) (p4 : Zt45_0) (p5 : Zt45_4), evLoopN (evCodeL sm_45 FU (ovr noO (evFn sm_45 fns FU 0)) .nil ir45_b0) (St.norm ir45_v0) m (T_45_0 p0 p1 p2 p3 p4 p5) k = Sp.B_45_0 (Sp.L_45_0 m p0 p1 p2 p3 p4 p5) (fun p3 p4 p5 => k (Ex.exit (0 : Nat)) (X_45_0_0 p3 p4 p5))
  | 0, _, _, _, _, _, _ => rfl
  | m + 1, p0, p1, p2, p3, p4, p5 => by
    rw [evLoopN_succ, body_45_0, Sp.L_45_0]
    repeat' first | apply Bgd_45_0 | apply Bcond_45_0 | exact loop_45_0 k m _ _ _ _ _ _ | rfl
theorem ok_45_0 {R : Type} (T : St) (k : Ex → St → Option R) (r : R) (h0 : o_45_0 G_45_0 T k = some r) : evLoopN (evCode sm_45 FU (evFn sm_45 fns FU 0) ir45_b0) (St.norm ir45_v0) FU T k = some r := by
  obtain ⟨p0, p1, p2, p3, p4, p5, rfl, h⟩ := o_45_0_inv h0
  refine evLoopN_L (t := .nil) noO_ok trivial _ _ _ _ ?_
  rw [loop_45_0]
  exact h
theorem OK_45_45_0 {R : Type} (T : St) (k : Ex → St → Option R) (r : R) (h : O_45_45_0 T k = some r) : evLoopN (evCode sm_45 FU (evFn sm_45 fns FU 0) ir45_b0) (St.norm ir45_v0) FU T k = some r := ok_45_0 T k r h
theorem body_45_1 {R : Type} (K0 : St → Option R) (K1 : Ex → St → Option R) (p0 : Zt45_4) (p1 : Int) (p2 : Int) (p3 : List Int) (p4 : Zt45_0) (p5 : List Int) : evLB (evCodeL sm_45 FU (ovr noO (evFn sm_45 fns FU 0)) .nil ir45_b1) (St.norm ir45_v1) (T_45_1 p0 p1 p2 p3 p4 p5) K0 K1 =
  bif decide (p2 < p1) then gd (inB p2 (List.length p0)) (gd (decide ((0 : Int) ≤ p2)) (bif Sp.andI IntKind.i64 (Int.fdiv (p4.1) ((2 : Int) ^ Nat.min (Int.toNat p2) (64 : Nat))) (1 : Int) == (1 : Int) then gd (Sp.p_73 (List.getD p0 (Int.toNat p2) (Ty.dflt Zy45_1)) p5) (K0 (T_45_1 p0 p1 (IntKind.wrap IntKind.i64 (p2 + (1 : Int))) p3 p4 ((Sp.v_73 (List.getD p0 (Int.toNat p2) (Ty.dflt Zy45_1)) p5).1))) else gd (Sp.p_73 p5 (List.getD p0 (Int.toNat p2) (Ty.dflt Zy45_1))) (K0 (T_45_1 p0 p1 (IntKind.wrap IntKind.i64 (p2 + (1 : Int))) p3 p4 ((Sp.v_73 p5 (List.getD p0 (Int.toNat p2) (Ty.dflt Zy45_1))).1))))) else K1 (Ex.exit (2 : Nat)) (X_45_1_0 p3 p5) := by kernel_rfl
theorem Bgd_45_1 {R : Type} {c : Bool} {x : Option R} {y : Option Sp.E_45_1} {k0 : (List Int) → (List Int) → Option R} (h : x = Sp.B_45_1 y k0) : gd c x = Sp.B_45_1 (gd c y) k0 := by cases c; rfl; exact h
theorem Bcond_45_1 {R : Type} {c : Bool} {x x' : Option R} {y y' : Option Sp.E_45_1} {k0 : (List Int) → (List Int) → Option R} (h : x = Sp.B_45_1 y k0) (h' : x' = Sp.B_45_1 y' k0) : (bif c then x else x') = Sp.B_45_1 (bif c then y else y') k0 := by cases c; exact h'; exact h
theorem loop_45_1 {R : Type} (k : Ex → St → Option R) : ∀ (m : Nat) (p0 : Zt45_4) (p1 : Int) (p2 : Int) (p3 : List Int) (p4 : Zt45_0) (p5 : List Int), evLoopN (evCodeL sm_45 FU (ovr noO (evFn sm_45 fns FU 0)) .nil ir45_b1) (St.norm ir45_v1) m (T_45_1 p0 p1 p2 p3 p4 p5) k = Sp.B_45_1 (Sp.L_45_1 m p0 p1 p2 p3 p4 p5) (fun p3 p5 => k (Ex.exit (2 : Nat)) (X_45_1_0 p3 p5))
  | 0, _, _, _, _, _, _ => rfl
  | m + 1, p0, p1, p2, p3, p4, p5 => by
    rw [evLoopN_succ, body_45_1, Sp.L_45_1]
    repeat' first | apply Bgd_45_1 | apply Bcond_45_1 | exact loop_45_1 k m _ _ _ _ _ _ | rfl
theorem ok_45_1 {R : Type} (T : St) (k : Ex → St → Option R) (r : R) (h0 : o_45_1 G_45_1 T k = some r) : evLoopN (evCode sm_45 FU (evFn sm_45 fns FU 0) ir45_b1) (St.norm ir45_v1) FU T k = some r := by
  obtain ⟨p0, p1, p2, p3, p4, p5, rfl, h⟩ := o_45_1_inv h0
  refine evLoopN_L (t := .nil) noO_ok trivial _ _ _ _ ?_
  rw [loop_45_1]
  exact h
theorem OK_45_45_1 {R : Type} (T : St) (k : Ex → St → Option R) (r : R) (h : O_45_45_1 T k = some r) : evLoopN (evCode sm_45 FU (evFn sm_45 fns FU 0) ir45_b1) (St.norm ir45_v1) FU T k = some r := ok_45_1 T k r h
noncomputable def F_45 (a0 : (List Int)) (a1 : (List Int)) (a2 : (Int × ((List (List Int)) × ((List (List Int)) × Unit)))) : Option (Bool × Unit) :=
  gd (Sp.p_78 a2) (bif !(Sp.v_78 a2).1 then some (false, PUnit.unit) else gd (Sp.p_69 a1) (Sp.B_45_0 (Sp.L_45_0 (4611686018427387904 : Nat) ((Sp.v_69 a1).1) (↑(List.length ((Sp.v_69 a1).1)) : Int) (0 : Int) a0 a2 []) fun y5 y6 y7 => gd (Sp.p_79 y7) (Sp.B_45_1 (Sp.L_45_1 (4611686018427387904 : Nat) (y6.2.2.1) (↑(List.length (y6.2.2.1)) : Int) (0 : Int) y5 y6 ((Sp.v_79 y7).1)) fun y8 y9 => some (Ty.beq (Ty.arr (32 : Nat) (Ty.int IntKind.u8)) y9 y8, PUnit.unit))))
theorem fn_45 (a0 : (List Int)) (a1 : (List Int)) (a2 : (Int × ((List (List Int)) × ((List (List Int)) × Unit)))) : evFnL sm_45 FU (ovr noO (evFn sm_45 fns FU 0)) (ir45_t O_45_45_0 O_45_45_1) ir45 (ofH [(.arr 32 (.int .u8)), (.arr 32 (.int .u8)), Zy45_3] (a0, a1, a2, ())) [] (pureK [.bool]) = F_45 a0 a1 a2 := by kernel_rfl
noncomputable def Sp.p_45 (a0 : (List Int)) (a1 : (List Int)) (a2 : (Int × ((List (List Int)) × ((List (List Int)) × Unit)))) : Bool := (F_45 a0 a1 a2).isSome
noncomputable def Sp.v_45 (a0 : (List Int)) (a1 : (List Int)) (a2 : (Int × ((List (List Int)) × ((List (List Int)) × Unit)))) : Bool × Unit := (F_45 a0 a1 a2).getD (dfH [.bool])
noncomputable def s_45 : Summ := shN [(.arr 32 (.int .u8)), (.arr 32 (.int .u8)), Zy45_3] [.bool] (fun x => Sp.p_45 x.1 x.2.1 x.2.2.1) (fun x => Sp.v_45 x.1 x.2.1 x.2.2.1)
theorem pv_45 (a0 : (List Int)) (a1 : (List Int)) (a2 : (Int × ((List (List Int)) × ((List (List Int)) × Unit)))) {y : Bool × Unit} (h : F_45 a0 a1 a2 = some y) : Sp.p_45 a0 a1 a2 = true ∧ Sp.v_45 a0 a1 a2 = y := ⟨by rw [Sp.p_45, h]; rfl, by rw [Sp.v_45, h]; rfl⟩
theorem run_45 (x : HDen [(.arr 32 (.int .u8)), (.arr 32 (.int .u8)), Zy45_3]) (y : HDen [.bool]) (h : F_45 x.1 x.2.1 x.2.2.1 = some y) : evFn sm_45 fns FU 1 45 (ofH [(.arr 32 (.int .u8)), (.arr 32 (.int .u8)), Zy45_3] x) [] (pureK [.bool]) = some y :=
  evFnL_sound (fn := ir45) (t := (ir45_t O_45_45_0 O_45_45_1)) (o := noO) rfl noO_ok (ir45_tok (fun T k r => OK_45_45_0 T k r) (fun T k r => OK_45_45_1 T k r)) ((fn_45 _ _ _).trans h)
end
end Go.Ev
namespace Go.Ev
open Go
set_option maxRecDepth 100000
set_option maxHeartbeats 4000000
set_option linter.unusedVariables false
noncomputable section

noncomputable def sm_13 : Nat → Option Summ := fun f => bif Nat.beq f 14 then some s_14 else bif Nat.beq f 35 then some s_35 else bif Nat.beq f 42 then some s_42 else bif Nat.beq f 43 then some s_43 else bif Nat.beq f 44 then some s_44 else bif Nat.beq f 45 then some s_45 else none


noncomputable def F_13 (a0 : (((List Int) × ((List Int) × (Int × Unit))) × ((List Int) × Unit))) (a1 : Int) : Option (Bool × Unit) :=
  gd (Sp.p_14 a0 a1) (bif !(Sp.v_14 a0 a1).2.1 then some (false, PUnit.unit) else gd (Sp.p_42 a0 a1) (gd (sl3 (1 : Int) (3 : Int) (↑(List.length ((Sp.v_42 a0 a1).1)) : Int)) (gd (sl3 (564 : Int) (IntKind.wrap IntKind.i64 ((564 : Int) + (Sp.v_14 a0 a1).1.2.1)) (↑(List.length ((Sp.v_42 a0 a1).1)) : Int)) (gd (Sp.p_43 [List.take (2 : Nat) (List.drop (1 : Nat) ((Sp.v_42 a0 a1).1)), List.take (Int.toNat (IntKind.wrap IntKind.i64 ((564 : Int) + (Sp.v_14 a0 a1).1.2.1)) - (564 : Nat)) (List.drop (564 : Nat) ((Sp.v_42 a0 a1).1))]) (gd (Sp.p_44 ((Sp.v_43 [List.take (2 : Nat) (List.drop (1 : Nat) ((Sp.v_42 a0 a1).1)), List.take (Int.toNat (IntKind.wrap IntKind.i64 ((564 : Int) + (Sp.v_14 a0 a1).1.2.1)) - (564 : Nat)) (List.drop (564 : Nat) ((Sp.v_42 a0 a1).1))]).1)) (gd (Sp.p_35 ((Sp.v_44 ((Sp.v_43 [List.take (2 : Nat) (List.drop (1 : Nat) ((Sp.v_42 a0 a1).1)), List.take (Int.toNat (IntKind.wrap IntKind.i64 ((564 : Int) + (Sp.v_14 a0 a1).1.2.1)) - (564 : Nat)) (List.drop (564 : Nat) ((Sp.v_42 a0 a1).1))]).1)).1)) (bif Ty.beq (Ty.arr (32 : Nat) (Ty.int IntKind.u8)) ((Sp.v_35 ((Sp.v_44 ((Sp.v_43 [List.take (2 : Nat) (List.drop (1 : Nat) ((Sp.v_42 a0 a1).1)), List.take (Int.toNat (IntKind.wrap IntKind.i64 ((564 : Int) + (Sp.v_14 a0 a1).1.2.1)) - (564 : Nat)) (List.drop (564 : Nat) ((Sp.v_42 a0 a1).1))]).1)).1)).1) ((Sp.v_14 a0 a1).1.2.2.1) then gd (Sp.p_45 (a0.2.1) ((Sp.v_14 a0 a1).1.2.2.1) ((Sp.v_14 a0 a1).1.2.2.2.1)) (some ((Sp.v_45 (a0.2.1) ((Sp.v_14 a0 a1).1.2.2.1) ((Sp.v_14 a0 a1).1.2.2.2.1)).1, PUnit.unit)) else some (false, PUnit.unit))))))))
theorem fn_13 (a0 : (((List Int) × ((List Int) × (Int × Unit))) × ((List Int) × Unit))) (a1 : Int) : evFnL sm_13 FU (ovr noO (evFn sm_13 fns FU 0)) .nil ir13 (ofH [(.pair (.pair (.slice (.int .u32)) (.pair (.slice (.int .i64)) (.pair (.int .i64) .unit))) (.pair (.arr 32 (.int .u8)) .unit)), (.int .i64)] (a0, a1, ())) [] (pureK [.bool]) = F_13 a0 a1 := by kernel_rfl
noncomputable def Sp.p_13 (a0 : (((List Int) × ((List Int) × (Int × Unit))) × ((List Int) × Unit))) (a1 : Int) : Bool := (F_13 a0 a1).isSome
noncomputable def Sp.v_13 (a0 : (((List Int) × ((List Int) × (Int × Unit))) × ((List Int) × Unit))) (a1 : Int) : Bool × Unit := (F_13 a0 a1).getD (dfH [.bool])
noncomputable def s_13 : Summ := shN [(.pair (.pair (.slice (.int .u32)) (.pair (.slice (.int .i64)) (.pair (.int .i64) .unit))) (.pair (.arr 32 (.int .u8)) .unit)), (.int .i64)] [.bool] (fun x => Sp.p_13 x.1 x.2.1) (fun x => Sp.v_13 x.1 x.2.1)
theorem pv_13 (a0 : (((List Int) × ((List Int) × (Int × Unit))) × ((List Int) × Unit))) (a1 : Int) {y : Bool × Unit} (h : F_13 a0 a1 = some y) : Sp.p_13 a0 a1 = true ∧ Sp.v_13 a0 a1 = y := ⟨by rw [Sp.p_13, h]; rfl, by rw [Sp.v_13, h]; rfl⟩
theorem run_13 (x : HDen [(.pair (.pair (.slice (.int .u32)) (.pair (.slice (.int .i64)) (.pair (.int .i64) .unit))) (.pair (.arr 32 (.int .u8)) .unit)), (.int .i64)]) (y : HDen [.bool]) (h : F_13 x.1 x.2.1 = some y) : evFn sm_13 fns FU 1 13 (ofH [(.pair (.pair (.slice (.int .u32)) (.pair (.slice (.int .i64)) (.pair (.int .i64) .unit))) (.pair (.arr 32 (.int .u8)) .unit)), (.int .i64)] x) [] (pureK [.bool]) = some y :=
  evFnL_sound (fn := ir13) (t := .nil) (o := noO) rfl noO_ok trivial ((fn_13 _ _).trans h)
end
end Go.Ev
namespace Go.Ev
open Go
set_option maxRecDepth 100000
set_option maxHeartbeats 4000000
set_option linter.unusedVariables false
noncomputable section

noncomputable def sm_51 : Nat → Option Summ := fun f => bif Nat.beq f 42 then some s_42 else none


noncomputable def F_51 (a0 : (((List Int) × ((List Int) × (Int × Unit))) × ((List Int) × Unit))) (a1 : Int) : Option (Bool × Unit) :=
  gd (Sp.p_42 a0 a1) (gd (inB (0 : Int) (List.length ((Sp.v_42 a0 a1).1))) (some (List.getD ((Sp.v_42 a0 a1).1) (0 : Nat) (0 : Int) == (0 : Int), PUnit.unit)))
theorem fn_51 (a0 : (((List Int) × ((List Int) × (Int × Unit))) × ((List Int) × Unit))) (a1 : Int) : evFnL sm_51 FU (ovr noO (evFn sm_51 fns FU 0)) .nil ir51 (ofH [(.pair (.pair (.slice (.int .u32)) (.pair (.slice (.int .i64)) (.pair (.int .i64) .unit))) (.pair (.arr 32 (.int .u8)) .unit)), (.int .i64)] (a0, a1, ())) [] (pureK [.bool]) = F_51 a0 a1 := by kernel_rfl
noncomputable def Sp.p_51 (a0 : (((List Int) × ((List Int) × (Int × Unit))) × ((List Int) × Unit))) (a1 : Int) : Bool := (F_51 a0 a1).isSome
noncomputable def Sp.v_51 (a0 : (((List Int) × ((List Int) × (Int × Unit))) × ((List Int) × Unit))) (a1 : Int) : Bool × Unit := (F_51 a0 a1).getD (dfH [.bool])
noncomputable def s_51 : Summ := shN [(.pair (.pair (.slice (.int .u32)) (.pair (.slice (.int .i64)) (.pair (.int .i64) .unit))) (.pair (.arr 32 (.int .u8)) .unit)), (.int .i64)] [.bool] (fun x => Sp.p_51 x.1 x.2.1) (fun x => Sp.v_51 x.1 x.2.1)
theorem pv_51 (a0 : (((List Int) × ((List Int) × (Int × Unit))) × ((List Int) × Unit))) (a1 : Int) {y : Bool × Unit} (h : F_51 a0 a1 = some y) : Sp.p_51 a0 a1 = true ∧ Sp.v_51 a0 a1 = y := ⟨by rw [Sp.p_51, h]; rfl, by rw [Sp.v_51, h]; rfl⟩
theorem run_51 (x : HDen [(.pair (.pair (.slice (.int .u32)) (.pair (.slice (.int .i64)) (.pair (.int .i64) .unit))) (.pair (.arr 32 (.int .u8)) .unit)), (.int .i64)]) (y : HDen [.bool]) (h : F_51 x.1 x.2.1 = some y) : evFn sm_51 fns FU 1 51 (ofH [(.pair (.pair (.slice (.int .u32)) (.pair (.slice (.int .i64)) (.pair (.int .i64) .unit))) (.pair (.arr 32 (.int .u8)) .unit)), (.int .i64)] x) [] (pureK [.bool]) = some y :=
  evFnL_sound (fn := ir51) (t := .nil) (o := noO) rfl noO_ok trivial ((fn_51 _ _).trans h)
end
end Go.Ev
namespace Go.Ev
open Go
set_option maxRecDepth 100000
set_option maxHeartbeats 4000000
set_option linter.unusedVariables false
noncomputable section
abbrev Zy17_0 : Ty := (.pair (.pair (.slice (.int .u32)) (.pair (.slice (.int .i64)) (.pair (.int .i64) .unit))) (.pair (.arr 32 (.int .u8)) .unit))
abbrev Zt17_1 : Type := (List Int × List Int × Int × Unit) × List Int × Unit

noncomputable def sm_17 : Nat → Option Summ := fun f => bif Nat.beq f 12 then some s_12 else bif Nat.beq f 13 then some s_13 else bif Nat.beq f 14 then some s_14 else bif Nat.beq f 51 then some s_51 else none
noncomputable def T_17_0 (p0 : Int) (p1 : Int) (p2 : Int) (p3 : Zt17_1) : St := St.mk ([jk, CV.ptr (0 : Nat) [], jk, jk, CV.int IntKind.i64 p0, CV.int IntKind.i64 p1] ++ (jl 6 ++ ([CV.int IntKind.i64 p2] ++ (jl 32)))) [Blk.mem (CV.pure (Ty.pair (Ty.pair (Ty.slice (Ty.int IntKind.u32)) (Ty.pair (Ty.slice (Ty.int IntKind.i64)) (Ty.pair (Ty.int IntKind.i64) Ty.unit))) (Ty.pair (Ty.arr (32 : Nat) (Ty.int IntKind.u8)) Ty.unit)) p3)] (0 : Nat)
noncomputable def X_17_0_0 (p0 : Int) (p1 : Int) : St := St.mk ([jk, jk, jk, jk, CV.int IntKind.i64 p0, CV.int IntKind.i64 p1] ++ (jl 39)) [] (0 : Nat)
inductive Sp.E_17_0 where
  | e0 (p0 : Int) (p1 : Int)
noncomputable def Sp.B_17_0 {R : Type} (r : Option Sp.E_17_0) (k0 : (Int) → (Int) → Option R) : Option R := match r with
  | none => none
  | some (.e0 p0 p1) => k0 p0 p1
noncomputable def Sp.L_17_0 : Nat → (Int) → (Int) → (Int) → ((List Int × List Int × Int × Unit) × List Int × Unit) → Option Sp.E_17_0
  | 0, _, _, _, _ => none
  | m + 1, p0, p1, p2, p3 => bif decide (p2 < (2 : Int)) then gd (Sp.p_14 p3 p2) (bif (Sp.v_14 p3 p2).2.1 then bif decide ((Sp.v_14 p3 p2).1.1 > p1) then gd (Sp.p_51 p3 p2) (bif (Sp.v_51 p3 p2).1 then gd (Sp.p_13 p3 p2) (bif (Sp.v_13 p3 p2).1 then Sp.L_17_0 m p2 ((Sp.v_14 p3 p2).1.1) (IntKind.wrap IntKind.i64 (p2 + (1 : Int))) p3 else Sp.L_17_0 m p0 p1 (IntKind.wrap IntKind.i64 (p2 + (1 : Int))) p3) else Sp.L_17_0 m p0 p1 (IntKind.wrap IntKind.i64 (p2 + (1 : Int))) p3) else Sp.L_17_0 m p0 p1 (IntKind.wrap IntKind.i64 (p2 + (1 : Int))) p3 else Sp.L_17_0 m p0 p1 (IntKind.wrap IntKind.i64 (p2 + (1 : Int))) p3) else some (Sp.E_17_0.e0 p0 p1)
noncomputable def G_17_0 {R : Type} (p0 : Int) (p1 : Int) (p2 : Int) (p3 : Zt17_1) (k : Ex → St → Option R) : Option R := Sp.B_17_0 (Sp.L_17_0 FU p0 p1 p2 p3) (fun p0 p1 => k (Ex.exit (0 : Nat)) (X_17_0_0 p0 p1))
noncomputable def o_17_0 {R : Type} (G : (Int) → (Int) → (Int) → (Zt17_1) → (Ex → St → Option R) → Option R) : St → (Ex → St → Option R) → Option R := fun T k => match T.sl.getD 1 .junk, T.sl.getD 4 .junk, T.sl.getD 5 .junk, T.sl.getD 12 .junk, T.hp with
  | CV.ptr (0 : Nat) [], CV.int IntKind.i64 p0, CV.int IntKind.i64 p1, CV.int IntKind.i64 p2, ((Blk.mem (CV.pure (Ty.pair (Ty.pair (Ty.slice (Ty.int IntKind.u32)) (Ty.pair (Ty.slice (Ty.int IntKind.i64)) (Ty.pair (Ty.int IntKind.i64) Ty.unit))) (Ty.pair (Ty.arr (32 : Nat) (Ty.int IntKind.u8)) Ty.unit)) p3)) :: []) => gd (shapeOK T 45 [1, 4, 5, 12] (0 : Nat)) (G p0 p1 p2 p3 k)
  | _, _, _, _, _ => none
theorem o_17_0_inv {R : Type} {G : (Int) → (Int) → (Int) → (Zt17_1) → (Ex → St → Option R) → Option R} {T : St} {k : Ex → St → Option R} {r : R} (h : o_17_0 G T k = some r) : ∃ p0 p1 p2 p3, T = T_17_0 p0 p1 p2 p3 ∧ G p0 p1 p2 p3 k = some r := by
  unfold o_17_0 at h
  split at h
  · obtain ⟨hs, h'⟩ := gd_some h
    refine ⟨_, _, _, _, (st_of (asg := [(1, _), (4, _), (5, _), (12, _)]) hs ⟨by assumption, by assumption, by assumption, by assumption, trivial⟩ (by assumption)).trans ?_, h'⟩
    kernel_rfl
  · cases h
noncomputable def O_17_17_0 {R : Type} : St → (Ex → St → Option R) → Option R := fun T k => o_17_0 G_17_0 T k
theorem body_17_0 {R : Type} (K0 : St → Option R) (K1 : Ex → St → Option R) (p0 : Int) (p1 : Int) (p2 : Int) (p3 : Zt17_1) : evLB (evCodeL sm_17 FU (ovr noO (evFn sm_17 fns FU 0)) .nil ir17_b0) (St.norm ir17_v0) (T_17_0 p0 p1 p2 p3) K0 K1 =
  bif decide (p2 < (2 : Int)) then gd (Sp.p_14 p3 p2) (bif (Sp.v_14 p3 p2).2.1 then bif decide ((Sp.v_14 p3 p2).1.1 > p1) then gd (Sp.p_51 p3 p2) (bif (Sp.v_51 p3 p2).1 then gd (Sp.p_13 p3 p2) (bif (Sp.v_13 p3 p2).1 then K0 (T_17_0 p2 ((Sp.v_14 p3 p2).1.1) (IntKind.wrap IntKind.i64 (p2 + (1 : Int))) p3) else K0 (T_17_0 p0 p1 (IntKind.wrap IntKind.i64 (p2 + (1 : Int))) p3)) else K0 (T_17_0 p0 p1 (IntKind.wrap IntKind.i64 (p2 + (1 : Int))) p3)) else K0 (T_17_0 p0 p1 (IntKind.wrap IntKind.i64 (p2 + (1 : Int))) p3) else K0 (T_17_0 p0 p1 (IntKind.wrap IntKind.i64 (p2 + (1 : Int))) p3)) else K1 (Ex.exit (0 : Nat)) (X_17_0_0 p0 p1) := by kernel_rfl
theorem Bgd_17_0 {R : Type} {c : Bool} {x : Option R} {y : Option Sp.E_17_0} {k0 : (Int) → (Int) → Option R} (h : x = Sp.B_17_0 y k0) : gd c x = Sp.B_17_0 (gd c y) k0 := by cases c; rfl; exact h
theorem Bcond_17_0 {R : Type} {c : Bool} {x x' : Option R} {y y' : Option Sp.E_17_0} {k0 : (Int) → (Int) → Option R} (h : x = Sp.B_17_0 y k0) (h' : x' = Sp.B_17_0 y' k0) : (bif c then x else x') = Sp.B_17_0 (bif c then y else y') k0 := by cases c; exact h'; exact h
theorem loop_17_0 {R : Type} (k : Ex → St → Option R) : ∀ (m : Nat) (p0 : Int) (p1 : Int) (p2 : Int) (p3 : Zt17_1), evLoopN (evCodeL sm_17 FU (ovr noO (evFn sm_17 fns FU 0)) .nil ir17_b0) (St.norm ir17_v0) m (T_17_0 p0 p1 p2 p3) k = Sp.B_17_0 (Sp.L_17_0 m p0 p1 p2 p3) (fun p0 p1 => k (Ex.exit (0 : Nat)) (X_17_0_0 p0 p1))
  | 0, _, _, _, _ => rfl
  | m + 1, p0, p1, p2, p3 => by
    rw [evLoopN_succ, body_17_0, Sp.L_17_0]
    repeat' first | apply Bgd_17_0 | apply Bcond_17_0 | exact loop_17_0 k m _ _ _ _ | rfl
theorem ok_17_0 {R : Type} (T : St) (k : Ex → St → Option R) (r : R) (h0 : o_17_0 G_17_0 T k = some r) : evLoopN (evCode sm_17 FU (evFn sm_17 fns FU 0) ir17_b0) (St.norm ir17_v0) FU T k = some r := by
  obtain ⟨p0, p1, p2, p3, rfl, h⟩ := o_17_0_inv h0
  refine evLoopN_L (t := .nil) noO_ok trivial _ _ _ _ ?_
  rw [loop_17_0]
  exact h
theorem OK_17_17_0 {R : Type} (T : St) (k : Ex → St → Option R) (r : R) (h : O_17_17_0 T k = some r) : evLoopN (evCode sm_17 FU (evFn sm_17 fns FU 0) ir17_b0) (St.norm ir17_v0) FU T k = some r := ok_17_0 T k r h
noncomputable def F_17 (a0 : (((List Int) × ((List Int) × (Int × Unit))) × ((List Int) × Unit))) : Option (Int × Int × Unit) :=
  gd (Sp.p_12 a0) (bif !(Sp.v_12 a0).1 then some ((0 : Int), (1 : Int), PUnit.unit) else Sp.B_17_0 (Sp.L_17_0 (4611686018427387904 : Nat) (0 : Int) (0 : Int) (0 : Int) a0) fun y2 y3 => bif y3 == (0 : Int) then some ((0 : Int), (7 : Int), PUnit.unit) else some (y2, (0 : Int), PUnit.unit))
theorem fn_17 (a0 : (((List Int) × ((List Int) × (Int × Unit))) × ((List Int) × Unit))) : evFnL sm_17 FU (ovr noO (evFn sm_17 fns FU 0)) (ir17_t O_17_17_0) ir17 (ofH [Zy17_0] (a0, ())) [] (pureK [(.int .i64), (.int .i64)]) = F_17 a0 := by kernel_rfl
noncomputable def Sp.p_17 (a0 : (((List Int) × ((List Int) × (Int × Unit))) × ((List Int) × Unit))) : Bool := (F_17 a0).isSome
noncomputable def Sp.v_17 (a0 : (((List Int) × ((List Int) × (Int × Unit))) × ((List Int) × Unit))) : Int × Int × Unit := (F_17 a0).getD (dfH [(.int .i64), (.int .i64)])
noncomputable def s_17 : Summ := shN [Zy17_0] [(.int .i64), (.int .i64)] (fun x => Sp.p_17 x.1) (fun x => Sp.v_17 x.1)
theorem pv_17 (a0 : (((List Int) × ((List Int) × (Int × Unit))) × ((List Int) × Unit))) {y : Int × Int × Unit} (h : F_17 a0 = some y) : Sp.p_17 a0 = true ∧ Sp.v_17 a0 = y := ⟨by rw [Sp.p_17, h]; rfl, by rw [Sp.v_17, h]; rfl⟩
theorem run_17 (x : HDen [Zy17_0]) (y : HDen [(.int .i64), (.int .i64)]) (h : F_17 x.1 = some y) : evFn sm_17 fns FU 1 17 (ofH [Zy17_0] x) [] (pureK [(.int .i64), (.int .i64)]) = some y :=
  evFnL_sound (fn := ir17) (t := (ir17_t O_17_17_0)) (o := noO) rfl noO_ok (ir17_tok (fun T k r => OK_17_17_0 T k r)) ((fn_17 _).trans h)
end
end Go.Ev
namespace Go.Ev
open Go
set_option maxRecDepth 100000
set_option maxHeartbeats 4000000
set_option linter.unusedVariables false
noncomputable section

noncomputable def sm_107 : Nat → Option Summ := fun f => none


noncomputable def F_107 (a0 : Int) (a1 : Int) : Option (Int × Int × Unit) :=
  some (IntKind.wrap IntKind.u32 (Int.fdiv (IntKind.wrap IntKind.u64 (IntKind.wrap IntKind.u64 a0 * IntKind.wrap IntKind.u64 a1)) (4294967296 : Int)), IntKind.wrap IntKind.u32 (IntKind.wrap IntKind.u64 (IntKind.wrap IntKind.u64 a0 * IntKind.wrap IntKind.u64 a1)), PUnit.unit)
theorem fn_107 (a0 : Int) (a1 : Int) : evFnL sm_107 FU (ovr noO (evFn sm_107 fns FU 0)) .nil ir107 (ofH [(.int .u32), (.int .u32)] (a0, a1, ())) [] (pureK [(.int .u32), (.int .u32)]) = F_107 a0 a1 := by kernel_rfl
noncomputable def Sp.p_107 (a0 : Int) (a1 : Int) : Bool := (F_107 a0 a1).isSome
noncomputable def Sp.v_107 (a0 : Int) (a1 : Int) : Int × Int × Unit := (F_107 a0 a1).getD (dfH [(.int .u32), (.int .u32)])
noncomputable def s_107 : Summ := shN [(.int .u32), (.int .u32)] [(.int .u32), (.int .u32)] (fun x => Sp.p_107 x.1 x.2.1) (fun x => Sp.v_107 x.1 x.2.1)
theorem run_107 (x : HDen [(.int .u32), (.int .u32)]) (y : HDen [(.int .u32), (.int .u32)]) (h : F_107 x.1 x.2.1 = some y) : evFn sm_107 fns FU 1 107 (ofH [(.int .u32), (.int .u32)] x) [] (pureK [(.int .u32), (.int .u32)]) = some y :=
  evFnL_sound (fn := ir107) (t := .nil) (o := noO) rfl noO_ok trivial ((fn_107 _ _).trans h)
end
end Go.Ev
namespace Go.Ev
open Go
set_option maxRecDepth 100000
set_option maxHeartbeats 4000000
set_option linter.unusedVariables false
noncomputable section

noncomputable def sm_108 : Nat → Option Summ := fun f => none


noncomputable def F_108 (a0 : Int) (a1 : Int) : Option (Int × Int × Unit) :=
  some (IntKind.wrap IntKind.u64 (IntKind.wrap IntKind.u64 (IntKind.wrap IntKind.u64 (Int.fdiv a0 (4294967296 : Int) * Int.fdiv a1 (4294967296 : Int)) + Int.fdiv (IntKind.wrap IntKind.u64 (IntKind.wrap IntKind.u64 (Int.fdiv a0 (4294967296 : Int) * Sp.andI IntKind.u64 a1 (4294967295 : Int)) + Int.fdiv (IntKind.wrap IntKind.u64 (Sp.andI IntKind.u64 a0 (4294967295 : Int) * Sp.andI IntKind.u64 a1 (4294967295 : Int))) (4294967296 : Int))) (4294967296 : Int)) + Int.fdiv (IntKind.wrap IntKind.u64 (Sp.andI IntKind.u64 (IntKind.wrap IntKind.u64 (IntKind.wrap IntKind.u64 (Int.fdiv a0 (4294967296 : Int) * Sp.andI IntKind.u64 a1 (4294967295 : Int)) + Int.fdiv (IntKind.wrap IntKind.u64 (Sp.andI IntKind.u64 a0 (4294967295 : Int) * Sp.andI IntKind.u64 a1 (4294967295 : Int))) (4294967296 : Int))) (4294967295 : Int) + IntKind.wrap IntKind.u64 (Sp.andI IntKind.u64 a0 (4294967295 : Int) * Int.fdiv a1 (4294967296 : Int)))) (4294967296 : Int)), IntKind.wrap IntKind.u64 (a0 * a1), PUnit.unit)
theorem fn_108 (a0 : Int) (a1 : Int) : evFnL sm_108 FU (ovr noO (evFn sm_108 fns FU 0)) .nil ir108 (ofH [(.int .u64), (.int .u64)] (a0, a1, ())) [] (pureK [(.int .u64), (.int .u64)]) = F_108 a0 a1 := by kernel_rfl
noncomputable def Sp.p_108 (a0 : Int) (a1 : Int) : Bool := (F_108 a0 a1).isSome
noncomputable def Sp.v_108 (a0 : Int) (a1 : Int) : Int × Int × Unit := (F_108 a0 a1).getD (dfH [(.int .u64), (.int .u64)])
noncomputable def s_108 : Summ := shN [(.int .u64), (.int .u64)] [(.int .u64), (.int .u64)] (fun x => Sp.p_108 x.1 x.2.1) (fun x => Sp.v_108 x.1 x.2.1)
theorem run_108 (x : HDen [(.int .u64), (.int .u64)]) (y : HDen [(.int .u64), (.int .u64)]) (h : F_108 x.1 x.2.1 = some y) : evFn sm_108 fns FU 1 108 (ofH [(.int .u64), (.int .u64)] x) [] (pureK [(.int .u64), (.int .u64)]) = some y :=
  evFnL_sound (fn := ir108) (t := .nil) (o := noO) rfl noO_ok trivial ((fn_108 _ _).trans h)
end
end Go.Ev
namespace Go.Ev
open Go
set_option maxRecDepth 100000
set_option maxHeartbeats 4000000
set_option linter.unusedVariables false
noncomputable section

noncomputable def sm_102 : Nat → Option Summ := fun f => bif Nat.beq f 107 then some s_107 else bif Nat.beq f 108 then some s_108 else none


noncomputable def F_102 (a0 : Int) (a1 : Int) : Option (Int × Int × Unit) :=
  gd (Sp.p_108 a0 a1) (some ((Sp.v_108 a0 a1).1, (Sp.v_108 a0 a1).2.1, PUnit.unit))
theorem fn_102 (a0 : Int) (a1 : Int) : evFnL sm_102 FU (ovr noO (evFn sm_102 fns FU 0)) .nil ir102 (ofH [(.int .u64), (.int .u64)] (a0, a1, ())) [] (pureK [(.int .u64), (.int .u64)]) = F_102 a0 a1 := by kernel_rfl
noncomputable def Sp.p_102 (a0 : Int) (a1 : Int) : Bool := (F_102 a0 a1).isSome
noncomputable def Sp.v_102 (a0 : Int) (a1 : Int) : Int × Int × Unit := (F_102 a0 a1).getD (dfH [(.int .u64), (.int .u64)])
noncomputable def s_102 : Summ := shN [(.int .u64), (.int .u64)] [(.int .u64), (.int .u64)] (fun x => Sp.p_102 x.1 x.2.1) (fun x => Sp.v_102 x.1 x.2.1)
theorem run_102 (x : HDen [(.int .u64), (.int .u64)]) (y : HDen [(.int .u64), (.int .u64)]) (h : F_102 x.1 x.2.1 = some y) : evFn sm_102 fns FU 1 102 (ofH [(.int .u64), (.int .u64)] x) [] (pureK [(.int .u64), (.int .u64)]) = some y :=
  evFnL_sound (fn := ir102) (t := .nil) (o := noO) rfl noO_ok trivial ((fn_102 _ _).trans h)
end
end Go.Ev
namespace Go.Ev
open Go
set_option maxRecDepth 100000
set_option maxHeartbeats 4000000
set_option linter.unusedVariables false
noncomputable section

noncomputable def sm_89 : Nat → Option Summ := fun f => bif Nat.beq f 102 then some s_102 else none
noncomputable def T_89_2 (p0 : Int) (p1 : List Int) : St := St.mk (jl 7 ++ ([CV.whole (0 : Nat), CV.int IntKind.i64 p0] ++ (jl 39))) [Blk.vec (42 : Nat) (Ty.int IntKind.u32) p1] (0 : Nat)
noncomputable def X_89_2_0 (p1 : List Int) : St := St.mk (jl 7 ++ ([CV.whole (0 : Nat)] ++ (jl 40))) [Blk.vec (42 : Nat) (Ty.int IntKind.u32) p1] (0 : Nat)
inductive Sp.E_89_2 where
  | e0 (p1 : List Int)
noncomputable def Sp.B_89_2 {R : Type} (r : Option Sp.E_89_2) (k0 : (List Int) → Option R) : Option R := match r with
  | none => none
  | some (.e0 p1) => k0 p1
noncomputable def Sp.L_89_2 : Nat → (Int) → (List Int) → Option Sp.E_89_2
  | 0, _, _ => none
  | m + 1, p0, p1 => bif decide (p0 < (↑(List.length p1) : Int)) then gd (sl3 p0 (↑(List.length p1) : Int) (↑(List.length p1) : Int)) (gd (sl3 (0 : Int) p0 (↑(List.length p1) : Int)) (gd (decide ((0 : Nat) + (Int.toNat p0 - (0 : Nat)) ≤ List.length p1) && (decide (Int.toNat p0 + (Int.toNat (↑(List.length p1) : Int) - Int.toNat p0) ≤ List.length p1) && decide ((0 : Nat) < List.length p1))) (Sp.L_89_2 m (IntKind.wrap IntKind.i64 (p0 + (↑(Nat.min (List.length (List.take (Int.toNat p0 - (0 : Nat)) (List.drop (0 : Nat) p1))) (Int.toNat (↑(List.length p1) : Int) - Int.toNat p0)) : Int))) (over p1 (Int.toNat p0) (List.take (Int.toNat (↑(List.length p1) : Int) - Int.toNat p0) (List.take (Int.toNat p0 - (0 : Nat)) (List.drop (0 : Nat) p1))))))) else some (Sp.E_89_2.e0 p1)
noncomputable def G_89_2 {R : Type} (p0 : Int) (p1 : List Int) (k : Ex → St → Option R) : Option R := Sp.B_89_2 (Sp.L_89_2 FU p0 p1) (fun p1 => k (Ex.exit (0 : Nat)) (X_89_2_0 p1))
noncomputable def o_89_2 {R : Type} (G : (Int) → (List Int) → (Ex → St → Option R) → Option R) : St → (Ex → St → Option R) → Option R := fun T k => match T.sl.getD 7 .junk, T.sl.getD 8 .junk, T.hp with
  | CV.whole (0 : Nat), CV.int IntKind.i64 p0, ((Blk.vec (42 : Nat) (Ty.int IntKind.u32) p1) :: []) => gd (shapeOK T 48 [7, 8] (0 : Nat)) (G p0 p1 k)
  | _, _, _ => none
theorem o_89_2_inv {R : Type} {G : (Int) → (List Int) → (Ex → St → Option R) → Option R} {T : St} {k : Ex → St → Option R} {r : R} (h : o_89_2 G T k = some r) : ∃ p0 p1, T = T_89_2 p0 p1 ∧ G p0 p1 k = some r := by
  unfold o_89_2 at h
  split at h
  · obtain ⟨hs, h'⟩ := gd_some h
    refine ⟨_, _, (st_of (asg := [(7, _), (8, _)]) hs ⟨by assumption, by assumption, trivial⟩ (by assumption)).trans ?_, h'⟩
    kernel_rfl
  · cases h
noncomputable def T_89_1 (p0 : List Int) (p1 : Int) : St := St.mk ([CV.pure (Ty.slice (Ty.int IntKind.u32)) p0, jk, jk, jk, jk, jk, CV.int IntKind.u64 p1] ++ (jl 41)) [] (0 : Nat)
noncomputable def X_89_1_0 (y5 : List Int) : St := St.mk ([jk, jk, jk, jk, CV.whole (0 : Nat)] ++ (jl 43)) [Blk.vec (42 : Nat) (Ty.int IntKind.u32) y5] (0 : Nat)
inductive Sp.E_89_1 where
  | e0 (y5 : List Int)
noncomputable def Sp.B_89_1 {R : Type} (r : Option Sp.E_89_1) (k0 : (List Int) → Option R) : Option R := match r with
  | none => none
  | some (.e0 y5) => k0 y5
noncomputable def Sp.J_89_1 (p0 : List Int) (p1 : Int) : Option Sp.E_89_1 :=
  gd (decide ((0 : Int) ≤ IntKind.wrap IntKind.i64 p1) && (IntKind.wrap IntKind.i64 p1 == IntKind.wrap IntKind.i64 p1 && room (Int.toNat (IntKind.wrap IntKind.i64 p1)) (4 : Nat))) (gd (decide ((0 : Nat) + List.length (List.replicate (Int.toNat (IntKind.wrap IntKind.i64 p1)) (0 : Int)) ≤ List.length (List.replicate (Int.toNat (IntKind.wrap IntKind.i64 p1)) (0 : Int))) && decide ((0 : Nat) < List.length (List.replicate (Int.toNat (IntKind.wrap IntKind.i64 p1)) (0 : Int)))) (Sp.B_89_2 (Sp.L_89_2 (4611686018427387904 : Nat) (↑(Nat.min (List.length p0) (List.length (List.replicate (Int.toNat (IntKind.wrap IntKind.i64 p1)) (0 : Int)))) : Int) (over (List.replicate (Int.toNat (IntKind.wrap IntKind.i64 p1)) (0 : Int)) (0 : Nat) (List.take (List.length (List.replicate (Int.toNat (IntKind.wrap IntKind.i64 p1)) (0 : Int))) p0))) fun y5 => some (Sp.E_89_1.e0 y5)))
noncomputable def G_89_1 {R : Type} (p0 : List Int) (p1 : Int) (k : Ex → St → Option R) : Option R := Sp.B_89_1 (Sp.J_89_1 p0 p1) (fun y5 => k Ex.ret (X_89_1_0 y5))
noncomputable def o_89_1 {R : Type} (G : (List Int) → (Int) → (Ex → St → Option R) → Option R) : St → (Ex → St → Option R) → Option R := fun T k => match T.sl.getD 0 .junk, T.sl.getD 6 .junk, T.hp with
  | CV.pure (Ty.slice (Ty.int IntKind.u32)) p0, CV.int IntKind.u64 p1, [] => gd (shapeOK T 48 [0, 6] (0 : Nat)) (G p0 p1 k)
  | _, _, _ => none
theorem o_89_1_inv {R : Type} {G : (List Int) → (Int) → (Ex → St → Option R) → Option R} {T : St} {k : Ex → St → Option R} {r : R} (h : o_89_1 G T k = some r) : ∃ p0 p1, T = T_89_1 p0 p1 ∧ G p0 p1 k = some r := by
  unfold o_89_1 at h
  split at h
  · obtain ⟨hs, h'⟩ := gd_some h
    refine ⟨_, _, (st_of (asg := [(0, _), (6, _)]) hs ⟨by assumption, by assumption, trivial⟩ (by assumption)).trans ?_, h'⟩
    kernel_rfl
  · cases h
noncomputable def T_89_0 (p0 : List Int) (p1 : Int) : St := St.mk ([CV.pure (Ty.slice (Ty.int IntKind.u32)) p0, CV.int IntKind.i64 p1] ++ (jl 46)) [] (0 : Nat)
noncomputable def X_89_0_0 (y1 : List Int) : St := St.mk ([jk, jk, jk, jk, CV.whole (0 : Nat)] ++ (jl 43)) [Blk.vec (42 : Nat) (Ty.int IntKind.u32) y1] (0 : Nat)
inductive Sp.E_89_0 where
  | e0 (y1 : List Int)
noncomputable def Sp.B_89_0 {R : Type} (r : Option Sp.E_89_0) (k0 : (List Int) → Option R) : Option R := match r with
  | none => none
  | some (.e0 y1) => k0 y1
noncomputable def Sp.J_89_0 (p0 : List Int) (p1 : Int) : Option Sp.E_89_0 :=
  gd (Sp.p_102 (IntKind.wrap IntKind.u64 (↑(List.length p0) : Int)) (IntKind.wrap IntKind.u64 p1)) (bif decide ((Sp.v_102 (IntKind.wrap IntKind.u64 (↑(List.length p0) : Int)) (IntKind.wrap IntKind.u64 p1)).1 > (0 : Int)) then none else bif decide ((Sp.v_102 (IntKind.wrap IntKind.u64 (↑(List.length p0) : Int)) (IntKind.wrap IntKind.u64 p1)).2.1 > (9223372036854775807 : Int)) then none else Sp.B_89_1 (Sp.J_89_1 p0 ((Sp.v_102 (IntKind.wrap IntKind.u64 (↑(List.length p0) : Int)) (IntKind.wrap IntKind.u64 p1)).2.1)) fun y1 => some (Sp.E_89_0.e0 y1))
noncomputable def G_89_0 {R : Type} (p0 : List Int) (p1 : Int) (k : Ex → St → Option R) : Option R := Sp.B_89_0 (Sp.J_89_0 p0 p1) (fun y1 => k Ex.ret (X_89_0_0 y1))
noncomputable def o_89_0 {R : Type} (G : (List Int) → (Int) → (Ex → St → Option R) → Option R) : St → (Ex → St → Option R) → Option R := fun T k => match T.sl.getD 0 .junk, T.sl.getD 1 .junk, T.hp with
  | CV.pure (Ty.slice (Ty.int IntKind.u32)) p0, CV.int IntKind.i64 p1, [] => gd (shapeOK T 48 [0, 1] (0 : Nat)) (G p0 p1 k)
  | _, _, _ => none
theorem o_89_0_inv {R : Type} {G : (List Int) → (Int) → (Ex → St → Option R) → Option R} {T : St} {k : Ex → St → Option R} {r : R} (h : o_89_0 G T k = some r) : ∃ p0 p1, T = T_89_0 p0 p1 ∧ G p0 p1 k = some r := by
  unfold o_89_0 at h
  split at h
  · obtain ⟨hs, h'⟩ := gd_some h
    refine ⟨_, _, (st_of (asg := [(0, _), (1, _)]) hs ⟨by assumption, by assumption, trivial⟩ (by assumption)).trans ?_, h'⟩
    kernel_rfl
  · cases h
noncomputable def O_89_89_2 {R : Type} : St → (Ex → St → Option R) → Option R := fun T k => o_89_2 G_89_2 T k
noncomputable def O_89_89_1 {R : Type} : St → (Ex → St → Option R) → Option R := fun T k => o_89_1 G_89_1 T k
noncomputable def O_89_89_0 {R : Type} : St → (Ex → St → Option R) → Option R := fun T k => o_89_0 G_89_0 T k
theorem body_89_2 {R : Type} (K0 : St → Option R) (K1 : Ex → St → Option R) (p0 : Int) (p1 : List Int) : evLB (evCodeL sm_89 FU (ovr noO (evFn sm_89 fns FU 0)) .nil ir89_b2) (St.norm ir89_v2) (T_89_2 p0 p1) K0 K1 =
  bif decide (p0 < (↑(List.length p1) : Int)) then gd (sl3 p0 (↑(List.length p1) : Int) (↑(List.length p1) : Int)) (gd (sl3 (0 : Int) p0 (↑(List.length p1) : Int)) (gd (decide ((0 : Nat) + (Int.toNat p0 - (0 : Nat)) ≤ List.length p1) && (decide (Int.toNat p0 + (Int.toNat (↑(List.length p1) : Int) - Int.toNat p0) ≤ List.length p1) && decide ((0 : Nat) < List.length p1))) (K0 (T_89_2 (IntKind.wrap IntKind.i64 (p0 + (↑(Nat.min (List.length (List.take (Int.toNat p0 - (0 : Nat)) (List.drop (0 : Nat) p1))) (Int.toNat (↑(List.length p1) : Int) - Int.toNat p0)) : Int))) (over p1 (Int.toNat p0) (List.take (Int.toNat (↑(List.length p1) : Int) - Int.toNat p0) (List.take (Int.toNat p0 - (0 : Nat)) (List.drop (0 : Nat) p1)))))))) else K1 (Ex.exit (0 : Nat)) (X_89_2_0 p1) := by kernel_rfl
theorem Bgd_89_2 {R : Type} {c : Bool} {x : Option R} {y : Option Sp.E_89_2} {k0 : (List Int) → Option R} (h : x = Sp.B_89_2 y k0) : gd c x = Sp.B_89_2 (gd c y) k0 := by cases c; rfl; exact h
theorem Bcond_89_2 {R : Type} {c : Bool} {x x' : Option R} {y y' : Option Sp.E_89_2} {k0 : (List Int) → Option R} (h : x = Sp.B_89_2 y k0) (h' : x' = Sp.B_89_2 y' k0) : (bif c then x else x') = Sp.B_89_2 (bif c then y else y') k0 := by cases c; exact h'; exact h
theorem loop_89_2 {R : Type} (k : Ex → St → Option R) : ∀ (m : Nat) (p0 : Int) (p1 : List Int), evLoopN (evCodeL sm_89 FU (ovr noO (evFn sm_89 fns FU 0)) .nil ir89_b2) (St.norm ir89_v2) m (T_89_2 p0 p1) k = Sp.B_89_2 (Sp.L_89_2 m p0 p1) (fun p1 => k (Ex.exit (0 : Nat)) (X_89_2_0 p1))
  | 0, _, _ => rfl
  | m + 1, p0, p1 => by
    rw [evLoopN_succ, body_89_2, Sp.L_89_2]
    repeat' first | apply Bgd_89_2 | apply Bcond_89_2 | exact loop_89_2 k m _ _ | rfl
theorem ok_89_2 {R : Type} (T : St) (k : Ex → St → Option R) (r : R) (h0 : o_89_2 G_89_2 T k = some r) : evLoopN (evCode sm_89 FU (evFn sm_89 fns FU 0) ir89_b2) (St.norm ir89_v2) FU T k = some r := by
  obtain ⟨p0, p1, rfl, h⟩ := o_89_2_inv h0
  refine evLoopN_L (t := .nil) noO_ok trivial _ _ _ _ ?_
  rw [loop_89_2]
  exact h
theorem OK_89_89_2 {R : Type} (T : St) (k : Ex → St → Option R) (r : R) (h : O_89_89_2 T k = some r) : evLoopN (evCode sm_89 FU (evFn sm_89 fns FU 0) ir89_b2) (St.norm ir89_v2) FU T k = some r := ok_89_2 T k r h
theorem body_89_1 {R : Type} (K1 : Ex → St → Option R) (p0 : List Int) (p1 : Int) : evJ (evCodeL sm_89 FU (ovr noO (evFn sm_89 fns FU 0)) (ir89_bt1 O_89_89_2) ir89_b1) (T_89_1 p0 p1) K1 =
  gd (decide ((0 : Int) ≤ IntKind.wrap IntKind.i64 p1) && (IntKind.wrap IntKind.i64 p1 == IntKind.wrap IntKind.i64 p1 && room (Int.toNat (IntKind.wrap IntKind.i64 p1)) (4 : Nat))) (gd (decide ((0 : Nat) + List.length (List.replicate (Int.toNat (IntKind.wrap IntKind.i64 p1)) (0 : Int)) ≤ List.length (List.replicate (Int.toNat (IntKind.wrap IntKind.i64 p1)) (0 : Int))) && decide ((0 : Nat) < List.length (List.replicate (Int.toNat (IntKind.wrap IntKind.i64 p1)) (0 : Int)))) (Sp.B_89_2 (Sp.L_89_2 (4611686018427387904 : Nat) (↑(Nat.min (List.length p0) (List.length (List.replicate (Int.toNat (IntKind.wrap IntKind.i64 p1)) (0 : Int)))) : Int) (over (List.replicate (Int.toNat (IntKind.wrap IntKind.i64 p1)) (0 : Int)) (0 : Nat) (List.take (List.length (List.replicate (Int.toNat (IntKind.wrap IntKind.i64 p1)) (0 : Int))) p0))) fun y5 => K1 Ex.ret (X_89_1_0 y5))) := by kernel_rfl
theorem Bgd_89_1 {R : Type} {c : Bool} {x : Option R} {y : Option Sp.E_89_1} {k0 : (List Int) → Option R} (h : x = Sp.B_89_1 y k0) : gd c x = Sp.B_89_1 (gd c y) k0 := by cases c; rfl; exact h
theorem Bcond_89_1 {R : Type} {c : Bool} {x x' : Option R} {y y' : Option Sp.E_89_1} {k0 : (List Int) → Option R} (h : x = Sp.B_89_1 y k0) (h' : x' = Sp.B_89_1 y' k0) : (bif c then x else x') = Sp.B_89_1 (bif c then y else y') k0 := by cases c; exact h'; exact h
theorem Bin_89_1_89_2 {R : Type} {r : Option Sp.E_89_2} {k0 : (List Int) → Option R} {f0 : (List Int) → Option R} {g0 : (List Int) → Option Sp.E_89_1} (h0 : ∀ z0, f0 z0 = Sp.B_89_1 (g0 z0) k0) : Sp.B_89_2 r f0 = Sp.B_89_1 (Sp.B_89_2 r g0) k0 := by
  cases r with
  | none => rfl
  | some e => cases e with
    | e0 z0 => exact h0 _
theorem loop_89_1 {R : Type} (k : Ex → St → Option R) (p0 : List Int) (p1 : Int) : evJ (evCodeL sm_89 FU (ovr noO (evFn sm_89 fns FU 0)) (ir89_bt1 O_89_89_2) ir89_b1) (T_89_1 p0 p1) k = Sp.B_89_1 (Sp.J_89_1 p0 p1) (fun y5 => k Ex.ret (X_89_1_0 y5)) := by
  rw [body_89_1, Sp.J_89_1]
  repeat' first | apply Bgd_89_1 | apply Bcond_89_1 | (apply Bin_89_1_89_2 <;> intros) | rfl
theorem ok_89_1 {R : Type} (T : St) (k : Ex → St → Option R) (r : R) (h0 : o_89_1 G_89_1 T k = some r) : evCode sm_89 FU (evFn sm_89 fns FU 0) ir89_b1 T k = some r := by
  obtain ⟨p0, p1, rfl, h⟩ := o_89_1_inv h0
  refine bodyL_sound (t := (ir89_bt1 O_89_89_2)) noO_ok (ir89_bt1ok (fun T k r => OK_89_89_2 T k r)) (((show ∀ (b : St → (Ex → St → Option R) → Option R) (T : St) (k : Ex → St → Option R), b T k = evJ b T k from fun _ _ _ => rfl) _ _ _).trans ((loop_89_1 k p0 p1).trans h))
theorem OK_89_89_1 {R : Type} (T : St) (k : Ex → St → Option R) (r : R) (h : O_89_89_1 T k = some r) : evCode sm_89 FU (evFn sm_89 fns FU 0) ir89_b1 T k = some r := ok_89_1 T k r h
theorem body_89_0 {R : Type} (K1 : Ex → St → Option R) (p0 : List Int) (p1 : Int) : evJ (evCodeL sm_89 FU (ovr noO (evFn sm_89 fns FU 0)) (ir89_bt0 O_89_89_1) ir89_b0) (T_89_0 p0 p1) K1 =
  gd (Sp.p_102 (IntKind.wrap IntKind.u64 (↑(List.length p0) : Int)) (IntKind.wrap IntKind.u64 p1)) (bif decide ((Sp.v_102 (IntKind.wrap IntKind.u64 (↑(List.length p0) : Int)) (IntKind.wrap IntKind.u64 p1)).1 > (0 : Int)) then none else bif decide ((Sp.v_102 (IntKind.wrap IntKind.u64 (↑(List.length p0) : Int)) (IntKind.wrap IntKind.u64 p1)).2.1 > (9223372036854775807 : Int)) then none else Sp.B_89_1 (Sp.J_89_1 p0 ((Sp.v_102 (IntKind.wrap IntKind.u64 (↑(List.length p0) : Int)) (IntKind.wrap IntKind.u64 p1)).2.1)) fun y1 => K1 Ex.ret (X_89_0_0 y1)) := by kernel_rfl
theorem Bgd_89_0 {R : Type} {c : Bool} {x : Option R} {y : Option Sp.E_89_0} {k0 : (List Int) → Option R} (h : x = Sp.B_89_0 y k0) : gd c x = Sp.B_89_0 (gd c y) k0 := by cases c; rfl; exact h
theorem Bcond_89_0 {R : Type} {c : Bool} {x x' : Option R} {y y' : Option Sp.E_89_0} {k0 : (List Int) → Option R} (h : x = Sp.B_89_0 y k0) (h' : x' = Sp.B_89_0 y' k0) : (bif c then x else x') = Sp.B_89_0 (bif c then y else y') k0 := by cases c; exact h'; exact h
theorem Bin_89_0_89_1 {R : Type} {r : Option Sp.E_89_1} {k0 : (List Int) → Option R} {f0 : (List Int) → Option R} {g0 : (List Int) → Option Sp.E_89_0} (h0 : ∀ z0, f0 z0 = Sp.B_89_0 (g0 z0) k0) : Sp.B_89_1 r f0 = Sp.B_89_0 (Sp.B_89_1 r g0) k0 := by
  cases r with
  | none => rfl
  | some e => cases e with
    | e0 z0 => exact h0 _
theorem loop_89_0 {R : Type} (k : Ex → St → Option R) (p0 : List Int) (p1 : Int) : evJ (evCodeL sm_89 FU (ovr noO (evFn sm_89 fns FU 0)) (ir89_bt0 O_89_89_1) ir89_b0) (T_89_0 p0 p1) k = Sp.B_89_0 (Sp.J_89_0 p0 p1) (fun y1 => k Ex.ret (X_89_0_0 y1)) := by
  rw [body_89_0, Sp.J_89_0]
  repeat' first | apply Bgd_89_0 | apply Bcond_89_0 | (apply Bin_89_0_89_1 <;> intros) | rfl
theorem ok_89_0 {R : Type} (T : St) (k : Ex → St → Option R) (r : R) (h0 : o_89_0 G_89_0 T k = some r) : evCode sm_89 FU (evFn sm_89 fns FU 0) ir89_b0 T k = some r := by
  obtain ⟨p0, p1, rfl, h⟩ := o_89_0_inv h0
  refine bodyL_sound (t := (ir89_bt0 O_89_89_1)) noO_ok (ir89_bt0ok (fun T k r => OK_89_89_1 T k r)) (((show ∀ (b : St → (Ex → St → Option R) → Option R) (T : St) (k : Ex → St → Option R), b T k = evJ b T k from fun _ _ _ => rfl) _ _ _).trans ((loop_89_0 k p0 p1).trans h))
theorem OK_89_89_0 {R : Type} (T : St) (k : Ex → St → Option R) (r : R) (h : O_89_89_0 T k = some r) : evCode sm_89 FU (evFn sm_89 fns FU 0) ir89_b0 T k = some r := ok_89_0 T k r h
noncomputable def F_89 (a0 : (List Int)) (a1 : Int) : Option ((List Int) × Unit) :=
  bif decide (a1 < (0 : Int)) then none else Sp.B_89_0 (Sp.J_89_0 a0 a1) fun y1 => some (y1, PUnit.unit)
theorem fn_89 (a0 : (List Int)) (a1 : Int) : evFnL sm_89 FU (ovr noO (evFn sm_89 fns FU 0)) (ir89_t O_89_89_0) ir89 (ofH [(.slice (.int .u32)), (.int .i64)] (a0, a1, ())) [] (pureK [(.slice (.int .u32))]) = F_89 a0 a1 := by kernel_rfl
noncomputable def Sp.p_89 (a0 : (List Int)) (a1 : Int) : Bool := (F_89 a0 a1).isSome
noncomputable def Sp.v_89 (a0 : (List Int)) (a1 : Int) : (List Int) × Unit := (F_89 a0 a1).getD (dfH [(.slice (.int .u32))])
noncomputable def s_89 : Summ := shS [(.slice (.int .u32)), (.int .i64)] [(.slice (.int .u32))] (fun x => Sp.p_89 x.1 x.2.1) (fun x => Sp.v_89 x.1 x.2.1)
theorem run_89 (x : HDen [(.slice (.int .u32)), (.int .i64)]) (y : HDen [(.slice (.int .u32))]) (h : F_89 x.1 x.2.1 = some y) : evFn sm_89 fns FU 1 89 (ofH [(.slice (.int .u32)), (.int .i64)] x) [] (pureK [(.slice (.int .u32))]) = some y :=
  evFnL_sound (fn := ir89) (t := (ir89_t O_89_89_0)) (o := noO) rfl noO_ok (ir89_tok (fun T k r => OK_89_89_0 T k r)) ((fn_89 _ _).trans h)
end
end Go.Ev
namespace Go.Ev
open Go
set_option maxRecDepth 100000
set_option maxHeartbeats 4000000
set_option linter.unusedVariables false
noncomputable section

noncomputable def sm_53 : Nat → Option Summ := fun f => bif Nat.beq f 89 then some s_89 else none


noncomputable def F_53 (a0 : Int) (a1 : Int) : Option (((List Int) × ((List Int) × (Int × Unit))) × Int × Unit) :=
  bif decide (a0 < (1 : Int)) then some (([], [], (0 : Int), PUnit.unit), (2 : Int), PUnit.unit) else bif decide (a0 > (64 : Int)) then some (([], [], (0 : Int), PUnit.unit), (2 : Int), PUnit.unit) else bif decide (a1 < (1 : Int)) then some (([], [], (0 : Int), PUnit.unit), (2 : Int), PUnit.unit) else bif decide (a1 > (1000000 : Int)) then some (([], [], (0 : Int), PUnit.unit), (2 : Int), PUnit.unit) else gd (Sp.p_89 [(4294967295 : Int)] (IntKind.wrap IntKind.i64 (a0 * (64 : Int)))) (gd (decide ((0 : Int) ≤ a0) && (a0 == a0 && room (Int.toNat a0) (8 : Nat))) (some (((Sp.v_89 [(4294967295 : Int)] (IntKind.wrap IntKind.i64 (a0 * (64 : Int)))).1, List.replicate (Int.toNat a0) (0 : Int), a1, PUnit.unit), (0 : Int), PUnit.unit)))
theorem fn_53 (a0 : Int) (a1 : Int) : evFnL sm_53 FU (ovr noO (evFn sm_53 fns FU 0)) .nil ir53 (ofH [(.int .i64), (.int .i64)] (a0, a1, ())) [] (pureK [(.pair (.slice (.int .u32)) (.pair (.slice (.int .i64)) (.pair (.int .i64) .unit))), (.int .i64)]) = F_53 a0 a1 := by kernel_rfl
noncomputable def Sp.p_53 (a0 : Int) (a1 : Int) : Bool := (F_53 a0 a1).isSome
noncomputable def Sp.v_53 (a0 : Int) (a1 : Int) : ((List Int) × ((List Int) × (Int × Unit))) × Int × Unit := (F_53 a0 a1).getD (dfH [(.pair (.slice (.int .u32)) (.pair (.slice (.int .i64)) (.pair (.int .i64) .unit))), (.int .i64)])
noncomputable def s_53 : Summ := shS [(.int .i64), (.int .i64)] [(.pair (.slice (.int .u32)) (.pair (.slice (.int .i64)) (.pair (.int .i64) .unit))), (.int .i64)] (fun x => Sp.p_53 x.1 x.2.1) (fun x => Sp.v_53 x.1 x.2.1)
theorem run_53 (x : HDen [(.int .i64), (.int .i64)]) (y : HDen [(.pair (.slice (.int .u32)) (.pair (.slice (.int .i64)) (.pair (.int .i64) .unit))), (.int .i64)]) (h : F_53 x.1 x.2.1 = some y) : evFn sm_53 fns FU 1 53 (ofH [(.int .i64), (.int .i64)] x) [] (pureK [(.pair (.slice (.int .u32)) (.pair (.slice (.int .i64)) (.pair (.int .i64) .unit))), (.int .i64)]) = some y :=
  evFnL_sound (fn := ir53) (t := .nil) (o := noO) rfl noO_ok trivial ((fn_53 _ _).trans h)
end
end Go.Ev
namespace Go.Ev
open Go
set_option maxRecDepth 100000
set_option maxHeartbeats 4000000
set_option linter.unusedVariables false
noncomputable section

noncomputable def sm_22 : Nat → Option Summ := fun f => bif Nat.beq f 41 then some s_41 else bif Nat.beq f 53 then some s_53 else none


noncomputable def F_22 (a0 : Int) (a1 : Int) (a2 : (List Int)) : Option ((((List Int) × ((List Int) × (Int × Unit))) × ((List Int) × Unit)) × Int × Unit) :=
  gd (Sp.p_41 a0) (bif !(Sp.v_41 a0).1 then some ((([], [], (0 : Int), PUnit.unit), List.replicate (32 : Nat) (0 : Int), PUnit.unit), (2 : Int), PUnit.unit) else gd (Sp.p_53 a0 a1) (bif (Sp.v_53 a0 a1).2.1 != (0 : Int) then some ((([], [], (0 : Int), PUnit.unit), List.replicate (32 : Nat) (0 : Int), PUnit.unit), (2 : Int), PUnit.unit) else some (((Sp.v_53 a0 a1).1, a2, PUnit.unit), (0 : Int), PUnit.unit)))
theorem fn_22 (a0 : Int) (a1 : Int) (a2 : (List Int)) : evFnL sm_22 FU (ovr noO (evFn sm_22 fns FU 0)) .nil ir22 (ofH [(.int .i64), (.int .i64), (.arr 32 (.int .u8))] (a0, a1, a2, ())) [] (pureK [(.pair (.pair (.slice (.int .u32)) (.pair (.slice (.int .i64)) (.pair (.int .i64) .unit))) (.pair (.arr 32 (.int .u8)) .unit)), (.int .i64)]) = F_22 a0 a1 a2 := by kernel_rfl
noncomputable def Sp.p_22 (a0 : Int) (a1 : Int) (a2 : (List Int)) : Bool := (F_22 a0 a1 a2).isSome
noncomputable def Sp.v_22 (a0 : Int) (a1 : Int) (a2 : (List Int)) : (((List Int) × ((List Int) × (Int × Unit))) × ((List Int) × Unit)) × Int × Unit := (F_22 a0 a1 a2).getD (dfH [(.pair (.pair (.slice (.int .u32)) (.pair (.slice (.int .i64)) (.pair (.int .i64) .unit))) (.pair (.arr 32 (.int .u8)) .unit)), (.int .i64)])
noncomputable def s_22 : Summ := shS [(.int .i64), (.int .i64), (.arr 32 (.int .u8))] [(.pair (.pair (.slice (.int .u32)) (.pair (.slice (.int .i64)) (.pair (.int .i64) .unit))) (.pair (.arr 32 (.int .u8)) .unit)), (.int .i64)] (fun x => Sp.p_22 x.1 x.2.1 x.2.2.1) (fun x => Sp.v_22 x.1 x.2.1 x.2.2.1)
theorem run_22 (x : HDen [(.int .i64), (.int .i64), (.arr 32 (.int .u8))]) (y : HDen [(.pair (.pair (.slice (.int .u32)) (.pair (.slice (.int .i64)) (.pair (.int .i64) .unit))) (.pair (.arr 32 (.int .u8)) .unit)), (.int .i64)]) (h : F_22 x.1 x.2.1 x.2.2.1 = some y) : evFn sm_22 fns FU 1 22 (ofH [(.int .i64), (.int .i64), (.arr 32 (.int .u8))] x) [] (pureK [(.pair (.pair (.slice (.int .u32)) (.pair (.slice (.int .i64)) (.pair (.int .i64) .unit))) (.pair (.arr 32 (.int .u8)) .unit)), (.int .i64)]) = some y :=
  evFnL_sound (fn := ir22) (t := .nil) (o := noO) rfl noO_ok trivial ((fn_22 _ _ _).trans h)
end
end Go.Ev
namespace Go.Ev
open Go
set_option maxRecDepth 100000
set_option maxHeartbeats 4000000
set_option linter.unusedVariables false
noncomputable section

noncomputable def sm_10 : Nat → Option Summ := fun f => bif Nat.beq f 14 then some s_14 else bif Nat.beq f 17 then some s_17 else bif Nat.beq f 22 then some s_22 else none


noncomputable def F_10  : Option (Bool × Unit) :=
  gd (Sp.p_22 (18 : Int) (10 : Int) ([(1 : Int)] ++ List.replicate (31 : Nat) (0 : Int))) (gd (Sp.p_14 ((Sp.v_22 (18 : Int) (10 : Int) ([(1 : Int)] ++ List.replicate (31 : Nat) (0 : Int))).1) (0 : Int)) (gd (Sp.p_17 ((Sp.v_22 (18 : Int) (10 : Int) ([(1 : Int)] ++ List.replicate (31 : Nat) (0 : Int))).1)) (bif (Sp.v_22 (18 : Int) (10 : Int) ([(1 : Int)] ++ List.replicate (31 : Nat) (0 : Int))).2.1 == (0 : Int) then bif (↑(List.length ((Sp.v_22 (18 : Int) (10 : Int) ([(1 : Int)] ++ List.replicate (31 : Nat) (0 : Int))).1.1.1)) : Int) == (1152 : Int) then bif !(Sp.v_14 ((Sp.v_22 (18 : Int) (10 : Int) ([(1 : Int)] ++ List.replicate (31 : Nat) (0 : Int))).1) (0 : Int)).2.1 then some ((Sp.v_17 ((Sp.v_22 (18 : Int) (10 : Int) ([(1 : Int)] ++ List.replicate (31 : Nat) (0 : Int))).1)).2.1 == (7 : Int), PUnit.unit) else some (false, PUnit.unit) else some (false, PUnit.unit) else some (false, PUnit.unit))))
theorem fn_10  : evFnL sm_10 FU (ovr noO (evFn sm_10 fns FU 0)) .nil ir10 (ofH [] (())) [] (pureK [.bool]) = F_10 := by kernel_rfl
noncomputable def Sp.p_10  : Bool := (F_10).isSome
noncomputable def Sp.v_10  : Bool × Unit := (F_10).getD (dfH [.bool])
noncomputable def s_10 : Summ := shN [] [.bool] (fun x => Sp.p_10 ) (fun x => Sp.v_10 )
theorem pv_10  {y : Bool × Unit} (h : F_10 = some y) : Sp.p_10 = true ∧ Sp.v_10 = y := ⟨by rw [Sp.p_10, h]; rfl, by rw [Sp.v_10, h]; rfl⟩
theorem run_10 (x : HDen []) (y : HDen [.bool]) (h : F_10  = some y) : evFn sm_10 fns FU 1 10 (ofH [] x) [] (pureK [.bool]) = some y :=
  evFnL_sound (fn := ir10) (t := .nil) (o := noO) rfl noO_ok trivial ((fn_10).trans h)
end
end Go.Ev
namespace Go.Ev
open Go
set_option maxRecDepth 100000
set_option maxHeartbeats 4000000
set_option linter.unusedVariables false
noncomputable section

noncomputable def sm_11 : Nat → Option Summ := fun f => none


noncomputable def F_11 (a0 : (((List Int) × ((List Int) × (Int × Unit))) × ((List Int) × Unit))) : Option (Bool × Unit) :=
  bif decide ((↑(List.length (a0.1.2.1)) : Int) ≤ (70 : Int)) then some (decide ((↑(List.length (a0.1.1)) : Int) ≤ (4480 : Int)), PUnit.unit) else some (false, PUnit.unit)
theorem fn_11 (a0 : (((List Int) × ((List Int) × (Int × Unit))) × ((List Int) × Unit))) : evFnL sm_11 FU (ovr noO (evFn sm_11 fns FU 0)) .nil ir11 (ofH [(.pair (.pair (.slice (.int .u32)) (.pair (.slice (.int .i64)) (.pair (.int .i64) .unit))) (.pair (.arr 32 (.int .u8)) .unit))] (a0, ())) [] (pureK [.bool]) = F_11 a0 := by kernel_rfl
noncomputable def Sp.p_11 (a0 : (((List Int) × ((List Int) × (Int × Unit))) × ((List Int) × Unit))) : Bool := (F_11 a0).isSome
noncomputable def Sp.v_11 (a0 : (((List Int) × ((List Int) × (Int × Unit))) × ((List Int) × Unit))) : Bool × Unit := (F_11 a0).getD (dfH [.bool])
noncomputable def s_11 : Summ := shN [(.pair (.pair (.slice (.int .u32)) (.pair (.slice (.int .i64)) (.pair (.int .i64) .unit))) (.pair (.arr 32 (.int .u8)) .unit))] [.bool] (fun x => Sp.p_11 x.1) (fun x => Sp.v_11 x.1)
theorem pv_11 (a0 : (((List Int) × ((List Int) × (Int × Unit))) × ((List Int) × Unit))) {y : Bool × Unit} (h : F_11 a0 = some y) : Sp.p_11 a0 = true ∧ Sp.v_11 a0 = y := ⟨by rw [Sp.p_11, h]; rfl, by rw [Sp.v_11, h]; rfl⟩
theorem run_11 (x : HDen [(.pair (.pair (.slice (.int .u32)) (.pair (.slice (.int .i64)) (.pair (.int .i64) .unit))) (.pair (.arr 32 (.int .u8)) .unit))]) (y : HDen [.bool]) (h : F_11 x.1 = some y) : evFn sm_11 fns FU 1 11 (ofH [(.pair (.pair (.slice (.int .u32)) (.pair (.slice (.int .i64)) (.pair (.int .i64) .unit))) (.pair (.arr 32 (.int .u8)) .unit))] x) [] (pureK [.bool]) = some y :=
  evFnL_sound (fn := ir11) (t := .nil) (o := noO) rfl noO_ok trivial ((fn_11 _).trans h)
end
end Go.Ev
namespace Go.Ev
open Go
set_option maxRecDepth 100000
set_option maxHeartbeats 4000000
set_option linter.unusedVariables false
noncomputable section

noncomputable def sm_54 : Nat → Option Summ := fun f => none


noncomputable def F_54 (a0 : Int) : Option (Bool × Unit) :=
  bif decide (a0 ≥ (18 : Int)) then bif decide (a0 ≤ (64 : Int)) then some (Int.tmod a0 (2 : Int) == (0 : Int), PUnit.unit) else some (false, PUnit.unit) else some (false, PUnit.unit)
theorem fn_54 (a0 : Int) : evFnL sm_54 FU (ovr noO (evFn sm_54 fns FU 0)) .nil ir54 (ofH [(.int .i64)] (a0, ())) [] (pureK [.bool]) = F_54 a0 := by kernel_rfl
noncomputable def Sp.p_54 (a0 : Int) : Bool := (F_54 a0).isSome
noncomputable def Sp.v_54 (a0 : Int) : Bool × Unit := (F_54 a0).getD (dfH [.bool])
noncomputable def s_54 : Summ := shN [(.int .i64)] [.bool] (fun x => Sp.p_54 x.1) (fun x => Sp.v_54 x.1)
theorem pv_54 (a0 : Int) {y : Bool × Unit} (h : F_54 a0 = some y) : Sp.p_54 a0 = true ∧ Sp.v_54 a0 = y := ⟨by rw [Sp.p_54, h]; rfl, by rw [Sp.v_54, h]; rfl⟩
theorem run_54 (x : HDen [(.int .i64)]) (y : HDen [.bool]) (h : F_54 x.1 = some y) : evFn sm_54 fns FU 1 54 (ofH [(.int .i64)] x) [] (pureK [.bool]) = some y :=
  evFnL_sound (fn := ir54) (t := .nil) (o := noO) rfl noO_ok trivial ((fn_54 _).trans h)
end
end Go.Ev
namespace Go.Ev
open Go
set_option maxRecDepth 100000
set_option maxHeartbeats 4000000
set_option linter.unusedVariables false
noncomputable section

noncomputable def sm_90 : Nat → Option Summ := fun f => none


noncomputable def F_90 (a0 : Int) : Option (Bool × Unit) :=
  bif decide (a0 ≥ (1 : Int)) then some (decide (a0 ≤ (1000000 : Int)), PUnit.unit) else some (false, PUnit.unit)
theorem fn_90 (a0 : Int) : evFnL sm_90 FU (ovr noO (evFn sm_90 fns FU 0)) .nil ir90 (ofH [(.int .i64)] (a0, ())) [] (pureK [.bool]) = F_90 a0 := by kernel_rfl
noncomputable def Sp.p_90 (a0 : Int) : Bool := (F_90 a0).isSome
noncomputable def Sp.v_90 (a0 : Int) : Bool × Unit := (F_90 a0).getD (dfH [.bool])
noncomputable def s_90 : Summ := shN [(.int .i64)] [.bool] (fun x => Sp.p_90 x.1) (fun x => Sp.v_90 x.1)
theorem pv_90 (a0 : Int) {y : Bool × Unit} (h : F_90 a0 = some y) : Sp.p_90 a0 = true ∧ Sp.v_90 a0 = y := ⟨by rw [Sp.p_90, h]; rfl, by rw [Sp.v_90, h]; rfl⟩
theorem run_90 (x : HDen [(.int .i64)]) (y : HDen [.bool]) (h : F_90 x.1 = some y) : evFn sm_90 fns FU 1 90 (ofH [(.int .i64)] x) [] (pureK [.bool]) = some y :=
  evFnL_sound (fn := ir90) (t := .nil) (o := noO) rfl noO_ok trivial ((fn_90 _).trans h)
end
end Go.Ev
namespace Go.Ev
open Go
set_option maxRecDepth 100000
set_option maxHeartbeats 4000000
set_option linter.unusedVariables false
noncomputable section

noncomputable def sm_56 : Nat → Option Summ := fun f => bif Nat.beq f 90 then some s_90 else none
noncomputable def T_56_0 (p0 : Int) (p1 : Int) (p2 : List Int × List Int × Int × Unit) : St := St.mk ([jk, CV.ptr (0 : Nat) [], jk, CV.int IntKind.i64 p0, CV.int IntKind.i64 p1] ++ (jl 44)) [Blk.mem (CV.pure (Ty.pair (Ty.slice (Ty.int IntKind.u32)) (Ty.pair (Ty.slice (Ty.int IntKind.i64)) (Ty.pair (Ty.int IntKind.i64) Ty.unit))) p2)] (0 : Nat)
noncomputable def X_56_0_0 : St := St.mk ([jk, jk, CV.bool false] ++ (jl 46)) [] (0 : Nat)
noncomputable def X_56_0_1 : St := St.mk (jl 49) [] (0 : Nat)
inductive Sp.E_56_0 where
  | e0
  | e1
noncomputable def Sp.B_56_0 {R : Type} (r : Option Sp.E_56_0) (k0 : Option R) (k1 : Option R) : Option R := match r with
  | none => none
  | some (.e0) => k0
  | some (.e1) => k1
noncomputable def Sp.L_56_0 : Nat → (Int) → (Int) → (List Int × List Int × Int × Unit) → Option Sp.E_56_0
  | 0, _, _, _ => none
  | m + 1, p0, p1, p2 => bif decide (p1 < p0) then gd (inB p1 (List.length (p2.2.1))) (bif decide (List.getD (p2.2.1) (Int.toNat p1) (0 : Int) < (0 : Int)) then some (Sp.E_56_0.e0) else gd (inB p1 (List.length (p2.2.1))) (bif decide (List.getD (p2.2.1) (Int.toNat p1) (0 : Int) > p2.2.2.1) then some (Sp.E_56_0.e0) else Sp.L_56_0 m p0 (IntKind.wrap IntKind.i64 (p1 + (1 : Int))) p2)) else some (Sp.E_56_0.e1)
noncomputable def G_56_0 {R : Type} (p0 : Int) (p1 : Int) (p2 : List Int × List Int × Int × Unit) (k : Ex → St → Option R) : Option R := Sp.B_56_0 (Sp.L_56_0 FU p0 p1 p2) (k Ex.ret (X_56_0_0)) (k (Ex.exit (0 : Nat)) (X_56_0_1))
noncomputable def o_56_0 {R : Type} (G : (Int) → (Int) → (List Int × List Int × Int × Unit) → (Ex → St → Option R) → Option R) : St → (Ex → St → Option R) → Option R := fun T k => match T.sl.getD 1 .junk, T.sl.getD 3 .junk, T.sl.getD 4 .junk, T.hp with
  | CV.ptr (0 : Nat) [], CV.int IntKind.i64 p0, CV.int IntKind.i64 p1, ((Blk.mem (CV.pure (Ty.pair (Ty.slice (Ty.int IntKind.u32)) (Ty.pair (Ty.slice (Ty.int IntKind.i64)) (Ty.pair (Ty.int IntKind.i64) Ty.unit))) p2)) :: []) => gd (shapeOK T 49 [1, 3, 4] (0 : Nat)) (G p0 p1 p2 k)
  | _, _, _, _ => none
theorem o_56_0_inv {R : Type} {G : (Int) → (Int) → (List Int × List Int × Int × Unit) → (Ex → St → Option R) → Option R} {T : St} {k : Ex → St → Option R} {r : R} (h : o_56_0 G T k = some r) : ∃ p0 p1 p2, T = T_56_0 p0 p1 p2 ∧ G p0 p1 p2 k = some r := by
  unfold o_56_0 at h
  split at h
  · obtain ⟨hs, h'⟩ := gd_some h
    refine ⟨_, _, _, (st_of (asg := [(1, _), (3, _), (4, _)]) hs ⟨by assumption, by assumption, by assumption, trivial⟩ (by assumption)).trans ?_, h'⟩
    kernel_rfl
  · cases h
noncomputable def O_56_56_0 {R : Type} : St → (Ex → St → Option R) → Option R := fun T k => o_56_0 G_56_0 T k
theorem body_56_0 {R : Type} (K0 : St → Option R) (K1 : Ex → St → Option R) (p0 : Int) (p1 : Int) (p2 : List Int × List Int × Int × Unit) : evLB (evCodeL sm_56 FU (ovr noO (evFn sm_56 fns FU 0)) .nil ir56_b0) (St.norm ir56_v0) (T_56_0 p0 p1 p2) K0 K1 =
  bif decide (p1 < p0) then gd (inB p1 (List.length (p2.2.1))) (bif decide (List.getD (p2.2.1) (Int.toNat p1) (0 : Int) < (0 : Int)) then K1 Ex.ret X_56_0_0 else gd (inB p1 (List.length (p2.2.1))) (bif decide (List.getD (p2.2.1) (Int.toNat p1) (0 : Int) > p2.2.2.1) then K1 Ex.ret X_56_0_0 else K0 (T_56_0 p0 (IntKind.wrap IntKind.i64 (p1 + (1 : Int))) p2))) else K1 (Ex.exit (0 : Nat)) X_56_0_1 := by kernel_rfl
theorem Bgd_56_0 {R : Type} {c : Bool} {x : Option R} {y : Option Sp.E_56_0} {k0 : Option R} {k1 : Option R} (h : x = Sp.B_56_0 y k0 k1) : gd c x = Sp.B_56_0 (gd c y) k0 k1 := by cases c; rfl; exact h
theorem Bcond_56_0 {R : Type} {c : Bool} {x x' : Option R} {y y' : Option Sp.E_56_0} {k0 : Option R} {k1 : Option R} (h : x = Sp.B_56_0 y k0 k1) (h' : x' = Sp.B_56_0 y' k0 k1) : (bif c then x else x') = Sp.B_56_0 (bif c then y else y') k0 k1 := by cases c; exact h'; exact h
theorem loop_56_0 {R : Type} (k : Ex → St → Option R) : ∀ (m : Nat) (p0 : Int) (p1 : Int) (p2 : List Int × List Int × Int × Unit), evLoopN (evCodeL sm_56 FU (ovr noO (evFn sm_56 fns FU 0)) .nil ir56_b0) (St.norm ir56_v0) m (T_56_0 p0 p1 p2) k = Sp.B_56_0 (Sp.L_56_0 m p0 p1 p2) (k Ex.ret (X_56_0_0)) (k (Ex.exit (0 : Nat)) (X_56_0_1))
  | 0, _, _, _ => rfl
  | m + 1, p0, p1, p2 => by
    rw [evLoopN_succ, body_56_0, Sp.L_56_0]
    repeat' first | apply Bgd_56_0 | apply Bcond_56_0 | exact loop_56_0 k m _ _ _ | rfl
theorem ok_56_0 {R : Type} (T : St) (k : Ex → St → Option R) (r : R) (h0 : o_56_0 G_56_0 T k = some r) : evLoopN (evCode sm_56 FU (evFn sm_56 fns FU 0) ir56_b0) (St.norm ir56_v0) FU T k = some r := by
  obtain ⟨p0, p1, p2, rfl, h⟩ := o_56_0_inv h0
  refine evLoopN_L (t := .nil) noO_ok trivial _ _ _ _ ?_
  rw [loop_56_0]
  exact h
theorem OK_56_56_0 {R : Type} (T : St) (k : Ex → St → Option R) (r : R) (h : O_56_56_0 T k = some r) : evLoopN (evCode sm_56 FU (evFn sm_56 fns FU 0) ir56_b0) (St.norm ir56_v0) FU T k = some r := ok_56_0 T k r h
noncomputable def F_56 (a0 : ((List Int) × ((List Int) × (Int × Unit)))) : Option (Bool × Unit) :=
  bif decide ((↑(List.length (a0.2.1)) : Int) < (1 : Int)) then some (false, PUnit.unit) else bif decide ((↑(List.length (a0.2.1)) : Int) > (64 : Int)) then some (false, PUnit.unit) else bif (↑(List.length (a0.1)) : Int) != IntKind.wrap IntKind.i64 ((↑(List.length (a0.2.1)) : Int) * (64 : Int)) then some (false, PUnit.unit) else gd (Sp.p_90 (a0.2.2.1)) (bif !(Sp.v_90 (a0.2.2.1)).1 then some (false, PUnit.unit) else Sp.B_56_0 (Sp.L_56_0 (4611686018427387904 : Nat) (↑(List.length (a0.2.1)) : Int) (0 : Int) a0) (some (false, PUnit.unit)) (some (true, PUnit.unit)))
theorem fn_56 (a0 : ((List Int) × ((List Int) × (Int × Unit)))) : evFnL sm_56 FU (ovr noO (evFn sm_56 fns FU 0)) (ir56_t O_56_56_0) ir56 (ofH [(.pair (.slice (.int .u32)) (.pair (.slice (.int .i64)) (.pair (.int .i64) .unit)))] (a0, ())) [] (pureK [.bool]) = F_56 a0 := by kernel_rfl
noncomputable def Sp.p_56 (a0 : ((List Int) × ((List Int) × (Int × Unit)))) : Bool := (F_56 a0).isSome
noncomputable def Sp.v_56 (a0 : ((List Int) × ((List Int) × (Int × Unit)))) : Bool × Unit := (F_56 a0).getD (dfH [.bool])
noncomputable def s_56 : Summ := shN [(.pair (.slice (.int .u32)) (.pair (.slice (.int .i64)) (.pair (.int .i64) .unit)))] [.bool] (fun x => Sp.p_56 x.1) (fun x => Sp.v_56 x.1)
theorem pv_56 (a0 : ((List Int) × ((List Int) × (Int × Unit)))) {y : Bool × Unit} (h : F_56 a0 = some y) : Sp.p_56 a0 = true ∧ Sp.v_56 a0 = y := ⟨by rw [Sp.p_56, h]; rfl, by rw [Sp.v_56, h]; rfl⟩
theorem run_56 (x : HDen [(.pair (.slice (.int .u32)) (.pair (.slice (.int .i64)) (.pair (.int .i64) .unit)))]) (y : HDen [.bool]) (h : F_56 x.1 = some y) : evFn sm_56 fns FU 1 56 (ofH [(.pair (.slice (.int .u32)) (.pair (.slice (.int .i64)) (.pair (.int .i64) .unit)))] x) [] (pureK [.bool]) = some y :=
  evFnL_sound (fn := ir56) (t := (ir56_t O_56_56_0)) (o := noO) rfl noO_ok (ir56_tok (fun T k r => OK_56_56_0 T k r)) ((fn_56 _).trans h)
end
end Go.Ev
namespace Go.Ev
open Go
set_option maxRecDepth 100000
set_option maxHeartbeats 4000000
set_option linter.unusedVariables false
noncomputable section

noncomputable def sm_25 : Nat → Option Summ := fun f => bif Nat.beq f 54 then some s_54 else bif Nat.beq f 56 then some s_56 else none


noncomputable def F_25 (a0 : (((List Int) × ((List Int) × (Int × Unit))) × ((List Int) × Unit))) : Option (Bool × Unit) :=
  gd (Sp.p_56 (a0.1)) (bif (Sp.v_56 (a0.1)).1 then gd (Sp.p_54 (↑(List.length (a0.1.2.1)) : Int)) (some ((Sp.v_54 (↑(List.length (a0.1.2.1)) : Int)).1, PUnit.unit)) else some (false, PUnit.unit))
theorem fn_25 (a0 : (((List Int) × ((List Int) × (Int × Unit))) × ((List Int) × Unit))) : evFnL sm_25 FU (ovr noO (evFn sm_25 fns FU 0)) .nil ir25 (ofH [(.pair (.pair (.slice (.int .u32)) (.pair (.slice (.int .i64)) (.pair (.int .i64) .unit))) (.pair (.arr 32 (.int .u8)) .unit))] (a0, ())) [] (pureK [.bool]) = F_25 a0 := by kernel_rfl
noncomputable def Sp.p_25 (a0 : (((List Int) × ((List Int) × (Int × Unit))) × ((List Int) × Unit))) : Bool := (F_25 a0).isSome
noncomputable def Sp.v_25 (a0 : (((List Int) × ((List Int) × (Int × Unit))) × ((List Int) × Unit))) : Bool × Unit := (F_25 a0).getD (dfH [.bool])
noncomputable def s_25 : Summ := shN [(.pair (.pair (.slice (.int .u32)) (.pair (.slice (.int .i64)) (.pair (.int .i64) .unit))) (.pair (.arr 32 (.int .u8)) .unit))] [.bool] (fun x => Sp.p_25 x.1) (fun x => Sp.v_25 x.1)
theorem pv_25 (a0 : (((List Int) × ((List Int) × (Int × Unit))) × ((List Int) × Unit))) {y : Bool × Unit} (h : F_25 a0 = some y) : Sp.p_25 a0 = true ∧ Sp.v_25 a0 = y := ⟨by rw [Sp.p_25, h]; rfl, by rw [Sp.v_25, h]; rfl⟩
theorem run_25 (x : HDen [(.pair (.pair (.slice (.int .u32)) (.pair (.slice (.int .i64)) (.pair (.int .i64) .unit))) (.pair (.arr 32 (.int .u8)) .unit))]) (y : HDen [.bool]) (h : F_25 x.1 = some y) : evFn sm_25 fns FU 1 25 (ofH [(.pair (.pair (.slice (.int .u32)) (.pair (.slice (.int .i64)) (.pair (.int .i64) .unit))) (.pair (.arr 32 (.int .u8)) .unit))] x) [] (pureK [.bool]) = some y :=
  evFnL_sound (fn := ir25) (t := .nil) (o := noO) rfl noO_ok trivial ((fn_25 _).trans h)
end
end Go.Ev
namespace Go.Ev
open Go
set_option maxRecDepth 100000
set_option maxHeartbeats 4000000
set_option linter.unusedVariables false
noncomputable section

noncomputable def sm_48 : Nat → Option Summ := fun f => none


noncomputable def F_48 (a0 : (((List Int) × ((List Int) × (Int × Unit))) × ((List Int) × Unit))) (a1 : Int) : Option ((List Int) × Unit) :=
  gd (sl3 (IntKind.wrap IntKind.i64 (a1 * IntKind.wrap IntKind.i64 (Int.tdiv (↑(List.length (a0.1.1)) : Int) (2 : Int)))) (IntKind.wrap IntKind.i64 (IntKind.wrap IntKind.i64 (a1 + (1 : Int)) * IntKind.wrap IntKind.i64 (Int.tdiv (↑(List.length (a0.1.1)) : Int) (2 : Int)))) (↑(List.length (a0.1.1)) : Int)) (some (List.take (Int.toNat (IntKind.wrap IntKind.i64 (IntKind.wrap IntKind.i64 (a1 + (1 : Int)) * IntKind.wrap IntKind.i64 (Int.tdiv (↑(List.length (a0.1.1)) : Int) (2 : Int)))) - Int.toNat (IntKind.wrap IntKind.i64 (a1 * IntKind.wrap IntKind.i64 (Int.tdiv (↑(List.length (a0.1.1)) : Int) (2 : Int))))) (List.drop (Int.toNat (IntKind.wrap IntKind.i64 (a1 * IntKind.wrap IntKind.i64 (Int.tdiv (↑(List.length (a0.1.1)) : Int) (2 : Int))))) (a0.1.1)), PUnit.unit))
theorem fn_48 (a0 : (((List Int) × ((List Int) × (Int × Unit))) × ((List Int) × Unit))) (a1 : Int) : evFnL sm_48 FU (ovr noO (evFn sm_48 fns FU 0)) .nil ir48 (ofH [(.pair (.pair (.slice (.int .u32)) (.pair (.slice (.int .i64)) (.pair (.int .i64) .unit))) (.pair (.arr 32 (.int .u8)) .unit)), (.int .i64)] (a0, a1, ())) [] (pureK [(.slice (.int .u32))]) = F_48 a0 a1 := by kernel_rfl
noncomputable def Sp.p_48 (a0 : (((List Int) × ((List Int) × (Int × Unit))) × ((List Int) × Unit))) (a1 : Int) : Bool := (F_48 a0 a1).isSome
noncomputable def Sp.v_48 (a0 : (((List Int) × ((List Int) × (Int × Unit))) × ((List Int) × Unit))) (a1 : Int) : (List Int) × Unit := (F_48 a0 a1).getD (dfH [(.slice (.int .u32))])
noncomputable def s_48 : Summ := shS [(.pair (.pair (.slice (.int .u32)) (.pair (.slice (.int .i64)) (.pair (.int .i64) .unit))) (.pair (.arr 32 (.int .u8)) .unit)), (.int .i64)] [(.slice (.int .u32))] (fun x => Sp.p_48 x.1 x.2.1) (fun x => Sp.v_48 x.1 x.2.1)
theorem pv_48 (a0 : (((List Int) × ((List Int) × (Int × Unit))) × ((List Int) × Unit))) (a1 : Int) {y : (List Int) × Unit} (h : F_48 a0 a1 = some y) : Sp.p_48 a0 a1 = true ∧ Sp.v_48 a0 a1 = y := ⟨by rw [Sp.p_48, h]; rfl, by rw [Sp.v_48, h]; rfl⟩
theorem run_48 (x : HDen [(.pair (.pair (.slice (.int .u32)) (.pair (.slice (.int .i64)) (.pair (.int .i64) .unit))) (.pair (.arr 32 (.int .u8)) .unit)), (.int .i64)]) (y : HDen [(.slice (.int .u32))]) (h : F_48 x.1 x.2.1 = some y) : evFn sm_48 fns FU 1 48 (ofH [(.pair (.pair (.slice (.int .u32)) (.pair (.slice (.int .i64)) (.pair (.int .i64) .unit))) (.pair (.arr 32 (.int .u8)) .unit)), (.int .i64)] x) [] (pureK [(.slice (.int .u32))]) = some y :=
  evFnL_sound (fn := ir48) (t := .nil) (o := noO) rfl noO_ok trivial ((fn_48 _ _).trans h)
end
end Go.Ev
namespace Go.Ev
open Go
set_option maxRecDepth 100000
set_option maxHeartbeats 4000000
set_option linter.unusedVariables false
noncomputable section

noncomputable def sm_57 : Nat → Option Summ := fun f => none


noncomputable def F_57 (a0 : Int) : Option (Bool × Unit) :=
  bif a0 == (0 : Int) then some (true, PUnit.unit) else some (a0 == (1 : Int), PUnit.unit)
theorem fn_57 (a0 : Int) : evFnL sm_57 FU (ovr noO (evFn sm_57 fns FU 0)) .nil ir57 (ofH [(.int .i64)] (a0, ())) [] (pureK [.bool]) = F_57 a0 := by kernel_rfl
noncomputable def Sp.p_57 (a0 : Int) : Bool := (F_57 a0).isSome
noncomputable def Sp.v_57 (a0 : Int) : Bool × Unit := (F_57 a0).getD (dfH [.bool])
noncomputable def s_57 : Summ := shN [(.int .i64)] [.bool] (fun x => Sp.p_57 x.1) (fun x => Sp.v_57 x.1)
theorem pv_57 (a0 : Int) {y : Bool × Unit} (h : F_57 a0 = some y) : Sp.p_57 a0 = true ∧ Sp.v_57 a0 = y := ⟨by rw [Sp.p_57, h]; rfl, by rw [Sp.v_57, h]; rfl⟩
theorem run_57 (x : HDen [(.int .i64)]) (y : HDen [.bool]) (h : F_57 x.1 = some y) : evFn sm_57 fns FU 1 57 (ofH [(.int .i64)] x) [] (pureK [.bool]) = some y :=
  evFnL_sound (fn := ir57) (t := .nil) (o := noO) rfl noO_ok trivial ((fn_57 _).trans h)
end
end Go.Ev
