/- Helpers: functions of the program as Lean functions, and what they compute. No condition. -/
import Derived.Test.YthepgngekfoheaaE3P2
import Derived.Test.YthepgngekfoheaaG3P0
import Derived.Test.YthepgngekfoheaaG3P2
import Derived.Test.YthepgngekfoheaaProg
set_option maxRecDepth 10000
set_option linter.unusedVariables false
set_option linter.unusedSimpArgs false
namespace Go.Ev
open Go
set_option maxRecDepth 100000
set_option maxHeartbeats 4000000
set_option linter.unusedVariables false
noncomputable section
abbrev Zy3_0 : Ty := (Ty.pair (Ty.slice (Ty.pair (Ty.int IntKind.i64) (Ty.pair (Ty.int IntKind.i64) (Ty.pair (Ty.int IntKind.i64) (Ty.pair (Ty.int IntKind.i64) (Ty.pair (Ty.int IntKind.i64) (Ty.pair (Ty.int IntKind.i64) (Ty.pair Ty.bool (Ty.pair (Ty.int IntKind.i64) Ty.unit))))))))) (Ty.pair (Ty.slice (Ty.pair (Ty.int IntKind.i64) (Ty.pair (Ty.int IntKind.i64) (Ty.pair (Ty.int IntKind.i64) (Ty.pair (Ty.int IntKind.i64) (Ty.pair (Ty.int IntKind.i64) (Ty.pair (Ty.slice (Ty.int IntKind.i64)) (Ty.pair (Ty.int IntKind.i64) Ty.unit)))))))) (Ty.pair (Ty.int IntKind.i64) (Ty.pair Ty.bool Ty.unit))))
abbrev Zt3_1 : Type := List (Int × Int × Int × Int × Int × Int × Bool × Int × Unit) × List (Int × Int × Int × Int × Int × List Int × Int × Unit) × Int × Bool × Unit
abbrev Zy3_2 : Ty := (Ty.pair (Ty.int IntKind.u32) (Ty.pair (Ty.slice (Ty.int IntKind.u8)) Ty.unit))
abbrev Zy3_3 : Ty := (Ty.pair (Ty.int IntKind.i64) (Ty.pair (Ty.int IntKind.i64) (Ty.pair (Ty.int IntKind.i64) (Ty.pair (Ty.int IntKind.i64) (Ty.pair (Ty.int IntKind.i64) (Ty.pair (Ty.int IntKind.i64) Ty.unit))))))
abbrev Zt3_4 : Type := Int × Int × Int × Int × Int × Int × Unit
abbrev Zt3_5 : Type := ((List (Int × (Int × (Int × (Int × (Int × (Int × (Bool × (Int × Unit))))))))) × ((List (Int × (Int × (Int × (Int × (Int × ((List Int) × (Int × Unit)))))))) × (Int × (Bool × Unit))))
abbrev Zt3_6 : Type := List (Int × List Int × Unit)
abbrev Zy3_7 : Ty := (.pair (.slice (.pair (.int .i64) (.pair (.int .i64) (.pair (.int .i64) (.pair (.int .i64) (.pair (.int .i64) (.pair (.int .i64) (.pair .bool (.pair (.int .i64) .unit))))))))) (.pair (.slice (.pair (.int .i64) (.pair (.int .i64) (.pair (.int .i64) (.pair (.int .i64) (.pair (.int .i64) (.pair (.slice (.int .i64)) (.pair (.int .i64) .unit)))))))) (.pair (.int .i64) (.pair .bool .unit))))
abbrev Zy3_8 : Ty := (Ty.slice (Ty.pair (Ty.int IntKind.u32) (Ty.pair (Ty.slice (Ty.int IntKind.u8)) Ty.unit)))
abbrev Zy3_9 : Ty := (.slice (.pair (.int .u32) (.pair (.slice (.int .u8)) .unit)))

noncomputable def sm_3 : Nat → Option Summ := fun f => bif Nat.beq f 8 then some s_8 else bif Nat.beq f 9 then some s_9 else bif Nat.beq f 10 then some s_10 else bif Nat.beq f 11 then some s_11 else bif Nat.beq f 12 then some s_12 else bif Nat.beq f 13 then some s_13 else bif Nat.beq f 14 then some s_14 else bif Nat.beq f 15 then some s_15 else bif Nat.beq f 16 then some s_16 else bif Nat.beq f 17 then some s_17 else none
noncomputable def T_3_2 (p0 : Int) (p1 : Int) (p2 : Bool) (p3 : Zt3_6) (p4 : Int) (p5 : Int) (p6 : Zt3_1) (p7 : Zt3_4) (p8 : Zt3_4) (p9 : Zt3_1) : St := St.mk ([jk, jk, CV.ptr (0 : Nat) [], jk, jk, CV.ptr (1 : Nat) [], CV.int IntKind.i64 p0, jk, jk, CV.int IntKind.i64 p1, CV.ptr (2 : Nat) [], CV.ptr (3 : Nat) [], jk, CV.bool p2] ++ (jl 18 ++ ([CV.pure Zy3_8 p3, CV.int IntKind.i64 p4, CV.int IntKind.i64 p5] ++ (jl 109)))) [Blk.mem (CV.pure Zy3_0 p6), Blk.mem (CV.pure Zy3_3 p7), Blk.mem (CV.pure Zy3_3 p8), Blk.mem (CV.pure Zy3_0 p9)] (0 : Nat)
noncomputable def X_3_2_0 : St := St.mk ([jk, jk, jk, jk, CV.bool false] ++ (jl 139)) [] (0 : Nat)
noncomputable def X_3_2_1 (p0 : Int) (p1 : Int) (p2 : Bool) (p3 : Zt3_6) (p4 : Int) (p5 : Int) (p6 : Zt3_1) (p8 : Zt3_4) (p9 : Zt3_1) : St := St.mk ([jk, jk, CV.ptr (0 : Nat) [], jk, jk, CV.ptr (1 : Nat) [], CV.int IntKind.i64 p0, jk, jk, CV.int IntKind.i64 p1, CV.ptr (2 : Nat) [], CV.ptr (3 : Nat) [], jk, CV.bool p2, CV.ptr (4 : Nat) [], CV.int IntKind.i64 ((Sp.v_16 p6).2.1)] ++ (jl 16 ++ ([CV.pure Zy3_8 p3, CV.int IntKind.i64 p4, CV.int IntKind.i64 p5] ++ (jl 84 ++ [CV.bool true, CV.tup (CV.pair (CV.pure Zy3_0 (((Sp.v_16 p6).1) : Zt3_5)) (CV.pair (CV.int IntKind.i64 ((Sp.v_16 p6).2.1)) (CV.pure Ty.unit PUnit.unit))), CV.pure Zy3_0 p6, CV.tup (CV.pair (CV.pure Zy3_0 (((Sp.v_16 p6).1) : Zt3_5)) (CV.pair (CV.int IntKind.i64 ((Sp.v_16 p6).2.1)) (CV.pure Ty.unit PUnit.unit))), CV.pure Zy3_0 (((Sp.v_16 p6).1) : Zt3_5), CV.int IntKind.i64 ((Sp.v_16 p6).2.1), CV.int IntKind.i64 ((Sp.v_16 p6).2.1), CV.bool ((Sp.v_16 p6).2.1 != (0 : Int)), CV.bool false, CV.int IntKind.i64 p1, CV.bool (p1 == (1 : Int)), CV.bool (p1 == (1 : Int)), CV.bool false, CV.pure Zy3_0 p9, CV.pure Zy3_0 (((Sp.v_16 p6).1) : Zt3_5), CV.bool ((Sp.v_17 p9 ((Sp.v_16 p6).1)).1), CV.bool !(Sp.v_17 p9 ((Sp.v_16 p6).1)).1, CV.bool false, jk, jk, jk, jk, CV.pure Zy3_3 p8, CV.pure Zy3_0 p9, jk])))) [Blk.mem (CV.pure Zy3_0 p9), Blk.mem (CV.pure Zy3_3 p8), Blk.mem (CV.pure Zy3_3 p8), Blk.mem (CV.pure Zy3_0 p9), Blk.mem (CV.pure Zy3_0 (((Sp.v_16 p6).1) : Zt3_5))] (0 : Nat)
noncomputable def X_3_2_2 (p0 : Int) (p1 : Int) (p2 : Bool) (p3 : Zt3_6) (p4 : Int) (p5 : Int) (p6 : Zt3_1) (p8 : Zt3_4) (p9 : Zt3_1) : St := St.mk ([jk, jk, CV.ptr (0 : Nat) [], jk, jk, CV.ptr (1 : Nat) [], CV.int IntKind.i64 p0, jk, jk, CV.int IntKind.i64 p1, CV.ptr (2 : Nat) [], CV.ptr (3 : Nat) [], jk, CV.bool p2] ++ (jl 18 ++ ([CV.pure Zy3_8 p3, CV.int IntKind.i64 p4, CV.int IntKind.i64 p5] ++ (jl 84 ++ ([CV.bool false] ++ (jl 17 ++ [CV.pure Zy3_0 p6, CV.pure Zy3_0 p9, CV.bool ((Sp.v_17 p6 p9).1), CV.bool false, CV.pure Zy3_3 p8, CV.pure Zy3_0 p9, jk])))))) [Blk.mem (CV.pure Zy3_0 p9), Blk.mem (CV.pure Zy3_3 p8), Blk.mem (CV.pure Zy3_3 p8), Blk.mem (CV.pure Zy3_0 p9)] (0 : Nat)
inductive Sp.E_3_2 where
  | e0
  | e1 (p0 : Int) (p1 : Int) (p2 : Bool) (p3 : Zt3_6) (p4 : Int) (p5 : Int) (p6 : Zt3_1) (p8 : Zt3_4) (p9 : Zt3_1)
  | e2 (p0 : Int) (p1 : Int) (p2 : Bool) (p3 : Zt3_6) (p4 : Int) (p5 : Int) (p6 : Zt3_1) (p8 : Zt3_4) (p9 : Zt3_1)
noncomputable def Sp.B_3_2 {R : Type} (r : Option Sp.E_3_2) (k0 : Option R) (k1 : (Int) → (Int) → (Bool) → (Zt3_6) → (Int) → (Int) → (Zt3_1) → (Zt3_4) → (Zt3_1) → Option R) (k2 : (Int) → (Int) → (Bool) → (Zt3_6) → (Int) → (Int) → (Zt3_1) → (Zt3_4) → (Zt3_1) → Option R) : Option R := match r with
  | none => none
  | some (.e0) => k0
  | some (.e1 p0 p1 p2 p3 p4 p5 p6 p8 p9) => k1 p0 p1 p2 p3 p4 p5 p6 p8 p9
  | some (.e2 p0 p1 p2 p3 p4 p5 p6 p8 p9) => k2 p0 p1 p2 p3 p4 p5 p6 p8 p9
noncomputable def Sp.J_3_2 (p0 : Int) (p1 : Int) (p2 : Bool) (p3 : List (Int × List Int × Unit)) (p4 : Int) (p5 : Int) (p6 : List (Int × Int × Int × Int × Int × Int × Bool × Int × Unit) × List (Int × Int × Int × Int × Int × List Int × Int × Unit) × Int × Bool × Unit) (p7 : Int × Int × Int × Int × Int × Int × Unit) (p8 : Int × Int × Int × Int × Int × Int × Unit) (p9 : List (Int × Int × Int × Int × Int × Int × Bool × Int × Unit) × List (Int × Int × Int × Int × Int × List Int × Int × Unit) × Int × Bool × Unit) : Option Sp.E_3_2 :=
  bif p2 then gd (Sp.p_16 p6) (bif (Sp.v_16 p6).2.1 != (0 : Int) then some (Sp.E_3_2.e0) else bif p1 == (1 : Int) then some (Sp.E_3_2.e0) else gd (Sp.p_17 p9 ((Sp.v_16 p6).1)) (bif !(Sp.v_17 p9 ((Sp.v_16 p6).1)).1 then some (Sp.E_3_2.e0) else some (Sp.E_3_2.e1 p0 p1 p2 p3 p4 p5 p6 p8 p9))) else gd (Sp.p_17 p6 p9) (bif !(Sp.v_17 p6 p9).1 then some (Sp.E_3_2.e0) else some (Sp.E_3_2.e2 p0 p1 p2 p3 p4 p5 p6 p8 p9))
noncomputable def G_3_2 {R : Type} (p0 : Int) (p1 : Int) (p2 : Bool) (p3 : Zt3_6) (p4 : Int) (p5 : Int) (p6 : Zt3_1) (p7 : Zt3_4) (p8 : Zt3_4) (p9 : Zt3_1) (k : Ex → St → Option R) : Option R := Sp.B_3_2 (Sp.J_3_2 p0 p1 p2 p3 p4 p5 p6 p7 p8 p9) (k Ex.ret (X_3_2_0)) (fun p0 p1 p2 p3 p4 p5 p6 p8 p9 => k Ex.normal (X_3_2_1 p0 p1 p2 p3 p4 p5 p6 p8 p9)) (fun p0 p1 p2 p3 p4 p5 p6 p8 p9 => k Ex.normal (X_3_2_2 p0 p1 p2 p3 p4 p5 p6 p8 p9))
noncomputable def o_3_2 {R : Type} (G : (Int) → (Int) → (Bool) → (Zt3_6) → (Int) → (Int) → (Zt3_1) → (Zt3_4) → (Zt3_4) → (Zt3_1) → (Ex → St → Option R) → Option R) : St → (Ex → St → Option R) → Option R := fun T k => match T.sl.getD 2 .junk, T.sl.getD 5 .junk, T.sl.getD 6 .junk, T.sl.getD 9 .junk, T.sl.getD 10 .junk, T.sl.getD 11 .junk, T.sl.getD 13 .junk, T.sl.getD 32 .junk, T.sl.getD 33 .junk, T.sl.getD 34 .junk, T.hp with
  | CV.ptr (0 : Nat) [], CV.ptr (1 : Nat) [], CV.int IntKind.i64 p0, CV.int IntKind.i64 p1, CV.ptr (2 : Nat) [], CV.ptr (3 : Nat) [], CV.bool p2, CV.pure (Ty.slice (Ty.pair (Ty.int IntKind.u32) (Ty.pair (Ty.slice (Ty.int IntKind.u8)) Ty.unit))) p3, CV.int IntKind.i64 p4, CV.int IntKind.i64 p5, ((Blk.mem (CV.pure (Ty.pair (Ty.slice (Ty.pair (Ty.int IntKind.i64) (Ty.pair (Ty.int IntKind.i64) (Ty.pair (Ty.int IntKind.i64) (Ty.pair (Ty.int IntKind.i64) (Ty.pair (Ty.int IntKind.i64) (Ty.pair (Ty.int IntKind.i64) (Ty.pair Ty.bool (Ty.pair (Ty.int IntKind.i64) Ty.unit))))))))) (Ty.pair (Ty.slice (Ty.pair (Ty.int IntKind.i64) (Ty.pair (Ty.int IntKind.i64) (Ty.pair (Ty.int IntKind.i64) (Ty.pair (Ty.int IntKind.i64) (Ty.pair (Ty.int IntKind.i64) (Ty.pair (Ty.slice (Ty.int IntKind.i64)) (Ty.pair (Ty.int IntKind.i64) Ty.unit)))))))) (Ty.pair (Ty.int IntKind.i64) (Ty.pair Ty.bool Ty.unit)))) p6)) :: (Blk.mem (CV.pure (Ty.pair (Ty.int IntKind.i64) (Ty.pair (Ty.int IntKind.i64) (Ty.pair (Ty.int IntKind.i64) (Ty.pair (Ty.int IntKind.i64) (Ty.pair (Ty.int IntKind.i64) (Ty.pair (Ty.int IntKind.i64) Ty.unit)))))) p7)) :: (Blk.mem (CV.pure (Ty.pair (Ty.int IntKind.i64) (Ty.pair (Ty.int IntKind.i64) (Ty.pair (Ty.int IntKind.i64) (Ty.pair (Ty.int IntKind.i64) (Ty.pair (Ty.int IntKind.i64) (Ty.pair (Ty.int IntKind.i64) Ty.unit)))))) p8)) :: (Blk.mem (CV.pure (Ty.pair (Ty.slice (Ty.pair (Ty.int IntKind.i64) (Ty.pair (Ty.int IntKind.i64) (Ty.pair (Ty.int IntKind.i64) (Ty.pair (Ty.int IntKind.i64) (Ty.pair (Ty.int IntKind.i64) (Ty.pair (Ty.int IntKind.i64) (Ty.pair Ty.bool (Ty.pair (Ty.int IntKind.i64) Ty.unit))))))))) (Ty.pair (Ty.slice (Ty.pair (Ty.int IntKind.i64) (Ty.pair (Ty.int IntKind.i64) (Ty.pair (Ty.int IntKind.i64) (Ty.pair (Ty.int IntKind.i64) (Ty.pair (Ty.int IntKind.i64) (Ty.pair (Ty.slice (Ty.int IntKind.i64)) (Ty.pair (Ty.int IntKind.i64) Ty.unit)))))))) (Ty.pair (Ty.int IntKind.i64) (Ty.pair Ty.bool Ty.unit)))) p9)) :: []) => gd (shapeOK T 144 [2, 5, 6, 9, 10, 11, 13, 32, 33, 34] (0 : Nat)) (G p0 p1 p2 p3 p4 p5 p6 p7 p8 p9 k)
  | _, _, _, _, _, _, _, _, _, _, _ => none
theorem o_3_2_inv {R : Type} {G : (Int) → (Int) → (Bool) → (Zt3_6) → (Int) → (Int) → (Zt3_1) → (Zt3_4) → (Zt3_4) → (Zt3_1) → (Ex → St → Option R) → Option R} {T : St} {k : Ex → St → Option R} {r : R} (h : o_3_2 G T k = some r) : ∃ p0 p1 p2 p3 p4 p5 p6 p7 p8 p9, T = T_3_2 p0 p1 p2 p3 p4 p5 p6 p7 p8 p9 ∧ G p0 p1 p2 p3 p4 p5 p6 p7 p8 p9 k = some r := by
  unfold o_3_2 at h
  split at h
  · obtain ⟨hs, h'⟩ := gd_some h
    refine ⟨_, _, _, _, _, _, _, _, _, _, (st_of (asg := [(2, _), (5, _), (6, _), (9, _), (10, _), (11, _), (13, _), (32, _), (33, _), (34, _)]) hs ⟨by assumption, by assumption, by assumption, by assumption, by assumption, by assumption, by assumption, by assumption, by assumption, by assumption, trivial⟩ (by assumption)).trans ?_, h'⟩
    kernel_rfl
  · cases h
noncomputable def T_3_1 (p0 : Int) (p1 : Int) (p2 : List Int) (p3 : Zt3_6) (p4 : Int) (p5 : Int) (p6 : Zt3_1) (p7 : Zt3_4) (p8 : Zt3_4) (p9 : Zt3_1) : St := St.mk ([jk, jk, CV.ptr (0 : Nat) [], jk, jk, CV.ptr (1 : Nat) [], CV.int IntKind.i64 p0, jk, jk, CV.int IntKind.i64 p1, CV.ptr (2 : Nat) [], CV.ptr (3 : Nat) [], CV.pure (Ty.slice (Ty.int IntKind.u8)) p2] ++ (jl 19 ++ ([CV.pure Zy3_8 p3, CV.int IntKind.i64 p4, CV.int IntKind.i64 p5] ++ (jl 109)))) [Blk.mem (CV.pure Zy3_0 p6), Blk.mem (CV.pure Zy3_3 p7), Blk.mem (CV.pure Zy3_3 p8), Blk.mem (CV.pure Zy3_0 p9)] (0 : Nat)
noncomputable def X_3_1_0 : St := St.mk ([jk, jk, jk, jk, CV.bool false] ++ (jl 139)) [] (0 : Nat)
noncomputable def X_3_1_1 (y36 : Int) (y37 : Int) (y38 : Bool) (y39 : Zt3_6) (y40 : Int) (y41 : Int) (y42 : Zt3_1) (y43 : Zt3_4) (y44 : Zt3_1) : St := St.mk ([jk, jk, CV.ptr (0 : Nat) [], jk, jk, CV.ptr (1 : Nat) [], CV.int IntKind.i64 y36, jk, jk, CV.int IntKind.i64 y37, CV.ptr (2 : Nat) [], CV.ptr (3 : Nat) [], jk, CV.bool y38, CV.ptr (4 : Nat) [], CV.int IntKind.i64 ((Sp.v_16 y42).2.1)] ++ (jl 16 ++ ([CV.pure Zy3_8 y39, CV.int IntKind.i64 y40, CV.int IntKind.i64 y41] ++ (jl 84 ++ [CV.bool true, CV.tup (CV.pair (CV.pure Zy3_0 (((Sp.v_16 y42).1) : Zt3_5)) (CV.pair (CV.int IntKind.i64 ((Sp.v_16 y42).2.1)) (CV.pure Ty.unit PUnit.unit))), CV.pure Zy3_0 y42, CV.tup (CV.pair (CV.pure Zy3_0 (((Sp.v_16 y42).1) : Zt3_5)) (CV.pair (CV.int IntKind.i64 ((Sp.v_16 y42).2.1)) (CV.pure Ty.unit PUnit.unit))), CV.pure Zy3_0 (((Sp.v_16 y42).1) : Zt3_5), CV.int IntKind.i64 ((Sp.v_16 y42).2.1), CV.int IntKind.i64 ((Sp.v_16 y42).2.1), CV.bool ((Sp.v_16 y42).2.1 != (0 : Int)), CV.bool false, CV.int IntKind.i64 y37, CV.bool (y37 == (1 : Int)), CV.bool (y37 == (1 : Int)), CV.bool false, CV.pure Zy3_0 y44, CV.pure Zy3_0 (((Sp.v_16 y42).1) : Zt3_5), CV.bool ((Sp.v_17 y44 ((Sp.v_16 y42).1)).1), CV.bool !(Sp.v_17 y44 ((Sp.v_16 y42).1)).1, CV.bool false, jk, jk, jk, jk, CV.pure Zy3_3 y43, CV.pure Zy3_0 y44, jk])))) [Blk.mem (CV.pure Zy3_0 y44), Blk.mem (CV.pure Zy3_3 y43), Blk.mem (CV.pure Zy3_3 y43), Blk.mem (CV.pure Zy3_0 y44), Blk.mem (CV.pure Zy3_0 (((Sp.v_16 y42).1) : Zt3_5))] (0 : Nat)
noncomputable def X_3_1_2 (y45 : Int) (y46 : Int) (y47 : Bool) (y48 : Zt3_6) (y49 : Int) (y50 : Int) (y51 : Zt3_1) (y52 : Zt3_4) (y53 : Zt3_1) : St := St.mk ([jk, jk, CV.ptr (0 : Nat) [], jk, jk, CV.ptr (1 : Nat) [], CV.int IntKind.i64 y45, jk, jk, CV.int IntKind.i64 y46, CV.ptr (2 : Nat) [], CV.ptr (3 : Nat) [], jk, CV.bool y47] ++ (jl 18 ++ ([CV.pure Zy3_8 y48, CV.int IntKind.i64 y49, CV.int IntKind.i64 y50] ++ (jl 84 ++ ([CV.bool false] ++ (jl 17 ++ [CV.pure Zy3_0 y51, CV.pure Zy3_0 y53, CV.bool ((Sp.v_17 y51 y53).1), CV.bool false, CV.pure Zy3_3 y52, CV.pure Zy3_0 y53, jk])))))) [Blk.mem (CV.pure Zy3_0 y53), Blk.mem (CV.pure Zy3_3 y52), Blk.mem (CV.pure Zy3_3 y52), Blk.mem (CV.pure Zy3_0 y53)] (0 : Nat)
inductive Sp.E_3_1 where
  | e0
  | e1 (y36 : Int) (y37 : Int) (y38 : Bool) (y39 : Zt3_6) (y40 : Int) (y41 : Int) (y42 : Zt3_1) (y43 : Zt3_4) (y44 : Zt3_1)
  | e2 (y45 : Int) (y46 : Int) (y47 : Bool) (y48 : Zt3_6) (y49 : Int) (y50 : Int) (y51 : Zt3_1) (y52 : Zt3_4) (y53 : Zt3_1)
noncomputable def Sp.B_3_1 {R : Type} (r : Option Sp.E_3_1) (k0 : Option R) (k1 : (Int) → (Int) → (Bool) → (Zt3_6) → (Int) → (Int) → (Zt3_1) → (Zt3_4) → (Zt3_1) → Option R) (k2 : (Int) → (Int) → (Bool) → (Zt3_6) → (Int) → (Int) → (Zt3_1) → (Zt3_4) → (Zt3_1) → Option R) : Option R := match r with
  | none => none
  | some (.e0) => k0
  | some (.e1 y36 y37 y38 y39 y40 y41 y42 y43 y44) => k1 y36 y37 y38 y39 y40 y41 y42 y43 y44
  | some (.e2 y45 y46 y47 y48 y49 y50 y51 y52 y53) => k2 y45 y46 y47 y48 y49 y50 y51 y52 y53
noncomputable def Sp.J_3_1 (p0 : Int) (p1 : Int) (p2 : List Int) (p3 : List (Int × List Int × Unit)) (p4 : Int) (p5 : Int) (p6 : List (Int × Int × Int × Int × Int × Int × Bool × Int × Unit) × List (Int × Int × Int × Int × Int × List Int × Int × Unit) × Int × Bool × Unit) (p7 : Int × Int × Int × Int × Int × Int × Unit) (p8 : Int × Int × Int × Int × Int × Int × Unit) (p9 : List (Int × Int × Int × Int × Int × Int × Bool × Int × Unit) × List (Int × Int × Int × Int × Int × List Int × Int × Unit) × Int × Bool × Unit) : Option Sp.E_3_1 :=
  bif (↑(List.length p2) : Int) == (1 : Int) then gd (inB (0 : Int) (List.length p2)) (Sp.B_3_2 (Sp.J_3_2 p0 p1 (List.getD p2 (0 : Nat) (0 : Int) == (84 : Int)) p3 p4 p5 p6 p7 p8 p9) (some (Sp.E_3_1.e0)) (fun y36 y37 y38 y39 y40 y41 y42 y43 y44 => some (Sp.E_3_1.e1 y36 y37 y38 y39 y40 y41 y42 y43 y44)) fun y45 y46 y47 y48 y49 y50 y51 y52 y53 => some (Sp.E_3_1.e2 y45 y46 y47 y48 y49 y50 y51 y52 y53)) else Sp.B_3_2 (Sp.J_3_2 p0 p1 false p3 p4 p5 p6 p7 p8 p9) (some (Sp.E_3_1.e0)) (fun y54 y55 y56 y57 y58 y59 y60 y61 y62 => some (Sp.E_3_1.e1 y54 y55 y56 y57 y58 y59 y60 y61 y62)) fun y63 y64 y65 y66 y67 y68 y69 y70 y71 => some (Sp.E_3_1.e2 y63 y64 y65 y66 y67 y68 y69 y70 y71)
noncomputable def G_3_1 {R : Type} (p0 : Int) (p1 : Int) (p2 : List Int) (p3 : Zt3_6) (p4 : Int) (p5 : Int) (p6 : Zt3_1) (p7 : Zt3_4) (p8 : Zt3_4) (p9 : Zt3_1) (k : Ex → St → Option R) : Option R := Sp.B_3_1 (Sp.J_3_1 p0 p1 p2 p3 p4 p5 p6 p7 p8 p9) (k Ex.ret (X_3_1_0)) (fun y36 y37 y38 y39 y40 y41 y42 y43 y44 => k Ex.normal (X_3_1_1 y36 y37 y38 y39 y40 y41 y42 y43 y44)) (fun y45 y46 y47 y48 y49 y50 y51 y52 y53 => k Ex.normal (X_3_1_2 y45 y46 y47 y48 y49 y50 y51 y52 y53))
noncomputable def o_3_1 {R : Type} (G : (Int) → (Int) → (List Int) → (Zt3_6) → (Int) → (Int) → (Zt3_1) → (Zt3_4) → (Zt3_4) → (Zt3_1) → (Ex → St → Option R) → Option R) : St → (Ex → St → Option R) → Option R := fun T k => match T.sl.getD 2 .junk, T.sl.getD 5 .junk, T.sl.getD 6 .junk, T.sl.getD 9 .junk, T.sl.getD 10 .junk, T.sl.getD 11 .junk, T.sl.getD 12 .junk, T.sl.getD 32 .junk, T.sl.getD 33 .junk, T.sl.getD 34 .junk, T.hp with
  | CV.ptr (0 : Nat) [], CV.ptr (1 : Nat) [], CV.int IntKind.i64 p0, CV.int IntKind.i64 p1, CV.ptr (2 : Nat) [], CV.ptr (3 : Nat) [], CV.pure (Ty.slice (Ty.int IntKind.u8)) p2, CV.pure (Ty.slice (Ty.pair (Ty.int IntKind.u32) (Ty.pair (Ty.slice (Ty.int IntKind.u8)) Ty.unit))) p3, CV.int IntKind.i64 p4, CV.int IntKind.i64 p5, ((Blk.mem (CV.pure (Ty.pair (Ty.slice (Ty.pair (Ty.int IntKind.i64) (Ty.pair (Ty.int IntKind.i64) (Ty.pair (Ty.int IntKind.i64) (Ty.pair (Ty.int IntKind.i64) (Ty.pair (Ty.int IntKind.i64) (Ty.pair (Ty.int IntKind.i64) (Ty.pair Ty.bool (Ty.pair (Ty.int IntKind.i64) Ty.unit))))))))) (Ty.pair (Ty.slice (Ty.pair (Ty.int IntKind.i64) (Ty.pair (Ty.int IntKind.i64) (Ty.pair (Ty.int IntKind.i64) (Ty.pair (Ty.int IntKind.i64) (Ty.pair (Ty.int IntKind.i64) (Ty.pair (Ty.slice (Ty.int IntKind.i64)) (Ty.pair (Ty.int IntKind.i64) Ty.unit)))))))) (Ty.pair (Ty.int IntKind.i64) (Ty.pair Ty.bool Ty.unit)))) p6)) :: (Blk.mem (CV.pure (Ty.pair (Ty.int IntKind.i64) (Ty.pair (Ty.int IntKind.i64) (Ty.pair (Ty.int IntKind.i64) (Ty.pair (Ty.int IntKind.i64) (Ty.pair (Ty.int IntKind.i64) (Ty.pair (Ty.int IntKind.i64) Ty.unit)))))) p7)) :: (Blk.mem (CV.pure (Ty.pair (Ty.int IntKind.i64) (Ty.pair (Ty.int IntKind.i64) (Ty.pair (Ty.int IntKind.i64) (Ty.pair (Ty.int IntKind.i64) (Ty.pair (Ty.int IntKind.i64) (Ty.pair (Ty.int IntKind.i64) Ty.unit)))))) p8)) :: (Blk.mem (CV.pure (Ty.pair (Ty.slice (Ty.pair (Ty.int IntKind.i64) (Ty.pair (Ty.int IntKind.i64) (Ty.pair (Ty.int IntKind.i64) (Ty.pair (Ty.int IntKind.i64) (Ty.pair (Ty.int IntKind.i64) (Ty.pair (Ty.int IntKind.i64) (Ty.pair Ty.bool (Ty.pair (Ty.int IntKind.i64) Ty.unit))))))))) (Ty.pair (Ty.slice (Ty.pair (Ty.int IntKind.i64) (Ty.pair (Ty.int IntKind.i64) (Ty.pair (Ty.int IntKind.i64) (Ty.pair (Ty.int IntKind.i64) (Ty.pair (Ty.int IntKind.i64) (Ty.pair (Ty.slice (Ty.int IntKind.i64)) (Ty.pair (Ty.int IntKind.i64) Ty.unit)))))))) (Ty.pair (Ty.int IntKind.i64) (Ty.pair Ty.bool Ty.unit)))) p9)) :: []) => gd (shapeOK T 144 [2, 5, 6, 9, 10, 11, 12, 32, 33, 34] (0 : Nat)) (G p0 p1 p2 p3 p4 p5 p6 p7 p8 p9 k)
  | _, _, _, _, _, _, _, _, _, _, _ => none
theorem o_3_1_inv {R : Type} {G : (Int) → (Int) → (List Int) → (Zt3_6) → (Int) → (Int) → (Zt3_1) → (Zt3_4) → (Zt3_4) → (Zt3_1) → (Ex → St → Option R) → Option R} {T : St} {k : Ex → St → Option R} {r : R} (h : o_3_1 G T k = some r) : ∃ p0 p1 p2 p3 p4 p5 p6 p7 p8 p9, T = T_3_1 p0 p1 p2 p3 p4 p5 p6 p7 p8 p9 ∧ G p0 p1 p2 p3 p4 p5 p6 p7 p8 p9 k = some r := by
  unfold o_3_1 at h
  split at h
  · obtain ⟨hs, h'⟩ := gd_some h
    refine ⟨_, _, _, _, _, _, _, _, _, _, (st_of (asg := [(2, _), (5, _), (6, _), (9, _), (10, _), (11, _), (12, _), (32, _), (33, _), (34, _)]) hs ⟨by assumption, by assumption, by assumption, by assumption, by assumption, by assumption, by assumption, by assumption, by assumption, by assumption, trivial⟩ (by assumption)).trans ?_, h'⟩
    kernel_rfl
  · cases h
noncomputable def T_3_0 (p0 : Int) (p1 : Zt3_6) (p2 : Int) (p3 : Int) (p4 : Zt3_1) (p5 : Zt3_4) : St := St.mk ([jk, jk, CV.ptr (0 : Nat) [], jk, jk, CV.ptr (1 : Nat) [], CV.int IntKind.i64 p0] ++ (jl 25 ++ ([CV.pure Zy3_8 p1, CV.int IntKind.i64 p2, CV.int IntKind.i64 p3] ++ (jl 109)))) [Blk.mem (CV.pure Zy3_0 p4), Blk.mem (CV.pure Zy3_3 p5)] (0 : Nat)
noncomputable def X_3_0_0 : St := St.mk ([jk, jk, jk, jk, CV.bool false] ++ (jl 139)) [] (0 : Nat)
noncomputable def X_3_0_1 : St := St.mk (jl 144) [] (0 : Nat)
inductive Sp.E_3_0 where
  | e0
  | e1
noncomputable def Sp.B_3_0 {R : Type} (r : Option Sp.E_3_0) (k0 : Option R) (k1 : Option R) : Option R := match r with
  | none => none
  | some (.e0) => k0
  | some (.e1) => k1
noncomputable def Sp.L_3_0 : Nat → (Int) → (List (Int × List Int × Unit)) → (Int) → (Int) → (List (Int × Int × Int × Int × Int × Int × Bool × Int × Unit) × List (Int × Int × Int × Int × Int × List Int × Int × Unit) × Int × Bool × Unit) → (Int × Int × Int × Int × Int × Int × Unit) → Option Sp.E_3_0
  | 0, _, _, _, _, _, _ => none
  | m + 1, p0, p1, p2, p3, p4, p5 => bif decide (p3 < p2) then gd (inB p3 (List.length p1)) (gd (Sp.p_13 p5 (IntKind.wrap IntKind.i64 (p0 + IntKind.wrap IntKind.i64 ((List.getD p1 (Int.toNat p3) Zd2).1)))) (gd (Sp.p_14 p5 p4 ((List.getD p1 (Int.toNat p3) Zd2).2.1) (IntKind.wrap IntKind.i64 (p0 + IntKind.wrap IntKind.i64 ((List.getD p1 (Int.toNat p3) Zd2).1)))) (gd (Sp.p_15 ((Sp.v_14 p5 p4 ((List.getD p1 (Int.toNat p3) Zd2).2.1) (IntKind.wrap IntKind.i64 (p0 + IntKind.wrap IntKind.i64 ((List.getD p1 (Int.toNat p3) Zd2).1)))).1)) (bif !(Sp.v_15 ((Sp.v_14 p5 p4 ((List.getD p1 (Int.toNat p3) Zd2).2.1) (IntKind.wrap IntKind.i64 (p0 + IntKind.wrap IntKind.i64 ((List.getD p1 (Int.toNat p3) Zd2).1)))).1)).1 then some (Sp.E_3_0.e0) else gd (Sp.p_10 ((Sp.v_14 p5 p4 ((List.getD p1 (Int.toNat p3) Zd2).2.1) (IntKind.wrap IntKind.i64 (p0 + IntKind.wrap IntKind.i64 ((List.getD p1 (Int.toNat p3) Zd2).1)))).2.1)) (bif !(Sp.v_10 ((Sp.v_14 p5 p4 ((List.getD p1 (Int.toNat p3) Zd2).2.1) (IntKind.wrap IntKind.i64 (p0 + IntKind.wrap IntKind.i64 ((List.getD p1 (Int.toNat p3) Zd2).1)))).2.1)).1 then some (Sp.E_3_0.e0) else bif decide ((↑(List.length ((Sp.v_14 p5 p4 ((List.getD p1 (Int.toNat p3) Zd2).2.1) (IntKind.wrap IntKind.i64 (p0 + IntKind.wrap IntKind.i64 ((List.getD p1 (Int.toNat p3) Zd2).1)))).2.2.1)) : Int) > (1023 : Int)) then some (Sp.E_3_0.e0) else bif decide ((↑(List.length ((Sp.v_14 p5 p4 ((List.getD p1 (Int.toNat p3) Zd2).2.1) (IntKind.wrap IntKind.i64 (p0 + IntKind.wrap IntKind.i64 ((List.getD p1 (Int.toNat p3) Zd2).1)))).2.2.1)) : Int) > (0 : Int)) then bif (↑(List.length ((List.getD p1 (Int.toNat p3) Zd2).2.1)) : Int) == (0 : Int) then some (Sp.E_3_0.e0) else gd (inB (0 : Int) (List.length ((Sp.v_14 p5 p4 ((List.getD p1 (Int.toNat p3) Zd2).2.1) (IntKind.wrap IntKind.i64 (p0 + IntKind.wrap IntKind.i64 ((List.getD p1 (Int.toNat p3) Zd2).1)))).2.2.1))) (gd (inB (0 : Int) (List.length ((List.getD p1 (Int.toNat p3) Zd2).2.1))) (bif List.getD ((Sp.v_14 p5 p4 ((List.getD p1 (Int.toNat p3) Zd2).2.1) (IntKind.wrap IntKind.i64 (p0 + IntKind.wrap IntKind.i64 ((List.getD p1 (Int.toNat p3) Zd2).1)))).2.2.1) (0 : Nat) (0 : Int) == IntKind.wrap IntKind.u8 (List.getD ((List.getD p1 (Int.toNat p3) Zd2).2.1) (0 : Nat) (0 : Int) + (64 : Int)) then Sp.B_3_1 (Sp.J_3_1 (IntKind.wrap IntKind.i64 (p0 + IntKind.wrap IntKind.i64 ((List.getD p1 (Int.toNat p3) Zd2).1))) ((Sp.v_13 p5 (IntKind.wrap IntKind.i64 (p0 + IntKind.wrap IntKind.i64 ((List.getD p1 (Int.toNat p3) Zd2).1)))).1.1) ((Sp.v_14 p5 p4 ((List.getD p1 (Int.toNat p3) Zd2).2.1) (IntKind.wrap IntKind.i64 (p0 + IntKind.wrap IntKind.i64 ((List.getD p1 (Int.toNat p3) Zd2).1)))).2.2.1) p1 p2 p3 p4 p5 ((Sp.v_14 p5 p4 ((List.getD p1 (Int.toNat p3) Zd2).2.1) (IntKind.wrap IntKind.i64 (p0 + IntKind.wrap IntKind.i64 ((List.getD p1 (Int.toNat p3) Zd2).1)))).1) ((Sp.v_14 p5 p4 ((List.getD p1 (Int.toNat p3) Zd2).2.1) (IntKind.wrap IntKind.i64 (p0 + IntKind.wrap IntKind.i64 ((List.getD p1 (Int.toNat p3) Zd2).1)))).2.1)) (some (Sp.E_3_0.e0)) (fun y62 y63 y64 y65 y66 y67 y68 y69 y70 => Sp.L_3_0 m y62 y65 y66 (IntKind.wrap IntKind.i64 (y67 + (1 : Int))) y70 y69) fun y71 y72 y73 y74 y75 y76 y77 y78 y79 => Sp.L_3_0 m y71 y74 y75 (IntKind.wrap IntKind.i64 (y76 + (1 : Int))) y79 y78 else bif (↑(List.length ((Sp.v_14 p5 p4 ((List.getD p1 (Int.toNat p3) Zd2).2.1) (IntKind.wrap IntKind.i64 (p0 + IntKind.wrap IntKind.i64 ((List.getD p1 (Int.toNat p3) Zd2).1)))).2.2.1)) : Int) == (3 : Int) then gd (inB (0 : Int) (List.length ((Sp.v_14 p5 p4 ((List.getD p1 (Int.toNat p3) Zd2).2.1) (IntKind.wrap IntKind.i64 (p0 + IntKind.wrap IntKind.i64 ((List.getD p1 (Int.toNat p3) Zd2).1)))).2.2.1))) (bif List.getD ((Sp.v_14 p5 p4 ((List.getD p1 (Int.toNat p3) Zd2).2.1) (IntKind.wrap IntKind.i64 (p0 + IntKind.wrap IntKind.i64 ((List.getD p1 (Int.toNat p3) Zd2).1)))).2.2.1) (0 : Nat) (0 : Int) == (127 : Int) then gd (inB (1 : Int) (List.length ((Sp.v_14 p5 p4 ((List.getD p1 (Int.toNat p3) Zd2).2.1) (IntKind.wrap IntKind.i64 (p0 + IntKind.wrap IntKind.i64 ((List.getD p1 (Int.toNat p3) Zd2).1)))).2.2.1))) (gd (inB (0 : Int) (List.length ((List.getD p1 (Int.toNat p3) Zd2).2.1))) (bif !List.getD ((Sp.v_14 p5 p4 ((List.getD p1 (Int.toNat p3) Zd2).2.1) (IntKind.wrap IntKind.i64 (p0 + IntKind.wrap IntKind.i64 ((List.getD p1 (Int.toNat p3) Zd2).1)))).2.2.1) (1 : Nat) (0 : Int) == List.getD ((List.getD p1 (Int.toNat p3) Zd2).2.1) (0 : Nat) (0 : Int) then some (Sp.E_3_0.e0) else Sp.B_3_1 (Sp.J_3_1 (IntKind.wrap IntKind.i64 (p0 + IntKind.wrap IntKind.i64 ((List.getD p1 (Int.toNat p3) Zd2).1))) ((Sp.v_13 p5 (IntKind.wrap IntKind.i64 (p0 + IntKind.wrap IntKind.i64 ((List.getD p1 (Int.toNat p3) Zd2).1)))).1.1) ((Sp.v_14 p5 p4 ((List.getD p1 (Int.toNat p3) Zd2).2.1) (IntKind.wrap IntKind.i64 (p0 + IntKind.wrap IntKind.i64 ((List.getD p1 (Int.toNat p3) Zd2).1)))).2.2.1) p1 p2 p3 p4 p5 ((Sp.v_14 p5 p4 ((List.getD p1 (Int.toNat p3) Zd2).2.1) (IntKind.wrap IntKind.i64 (p0 + IntKind.wrap IntKind.i64 ((List.getD p1 (Int.toNat p3) Zd2).1)))).1) ((Sp.v_14 p5 p4 ((List.getD p1 (Int.toNat p3) Zd2).2.1) (IntKind.wrap IntKind.i64 (p0 + IntKind.wrap IntKind.i64 ((List.getD p1 (Int.toNat p3) Zd2).1)))).2.1)) (some (Sp.E_3_0.e0)) (fun y80 y81 y82 y83 y84 y85 y86 y87 y88 => Sp.L_3_0 m y80 y83 y84 (IntKind.wrap IntKind.i64 (y85 + (1 : Int))) y88 y87) fun y89 y90 y91 y92 y93 y94 y95 y96 y97 => Sp.L_3_0 m y89 y92 y93 (IntKind.wrap IntKind.i64 (y94 + (1 : Int))) y97 y96)) else some (Sp.E_3_0.e0)) else some (Sp.E_3_0.e0))) else Sp.B_3_1 (Sp.J_3_1 (IntKind.wrap IntKind.i64 (p0 + IntKind.wrap IntKind.i64 ((List.getD p1 (Int.toNat p3) Zd2).1))) ((Sp.v_13 p5 (IntKind.wrap IntKind.i64 (p0 + IntKind.wrap IntKind.i64 ((List.getD p1 (Int.toNat p3) Zd2).1)))).1.1) ((Sp.v_14 p5 p4 ((List.getD p1 (Int.toNat p3) Zd2).2.1) (IntKind.wrap IntKind.i64 (p0 + IntKind.wrap IntKind.i64 ((List.getD p1 (Int.toNat p3) Zd2).1)))).2.2.1) p1 p2 p3 p4 p5 ((Sp.v_14 p5 p4 ((List.getD p1 (Int.toNat p3) Zd2).2.1) (IntKind.wrap IntKind.i64 (p0 + IntKind.wrap IntKind.i64 ((List.getD p1 (Int.toNat p3) Zd2).1)))).1) ((Sp.v_14 p5 p4 ((List.getD p1 (Int.toNat p3) Zd2).2.1) (IntKind.wrap IntKind.i64 (p0 + IntKind.wrap IntKind.i64 ((List.getD p1 (Int.toNat p3) Zd2).1)))).2.1)) (some (Sp.E_3_0.e0)) (fun y98 y99 y100 y101 y102 y103 y104 y105 y106 => Sp.L_3_0 m y98 y101 y102 (IntKind.wrap IntKind.i64 (y103 + (1 : Int))) y106 y105) fun y107 y108 y109 y110 y111 y112 y113 y114 y115 => Sp.L_3_0 m y107 y110 y111 (IntKind.wrap IntKind.i64 (y112 + (1 : Int))) y115 y114))))) else some (Sp.E_3_0.e1)
noncomputable def G_3_0 {R : Type} (p0 : Int) (p1 : Zt3_6) (p2 : Int) (p3 : Int) (p4 : Zt3_1) (p5 : Zt3_4) (k : Ex → St → Option R) : Option R := Sp.B_3_0 (Sp.L_3_0 FU p0 p1 p2 p3 p4 p5) (k Ex.ret (X_3_0_0)) (k (Ex.exit (0 : Nat)) (X_3_0_1))
noncomputable def o_3_0 {R : Type} (G : (Int) → (Zt3_6) → (Int) → (Int) → (Zt3_1) → (Zt3_4) → (Ex → St → Option R) → Option R) : St → (Ex → St → Option R) → Option R := fun T k => match T.sl.getD 2 .junk, T.sl.getD 5 .junk, T.sl.getD 6 .junk, T.sl.getD 32 .junk, T.sl.getD 33 .junk, T.sl.getD 34 .junk, T.hp with
  | CV.ptr (0 : Nat) [], CV.ptr (1 : Nat) [], CV.int IntKind.i64 p0, CV.pure (Ty.slice (Ty.pair (Ty.int IntKind.u32) (Ty.pair (Ty.slice (Ty.int IntKind.u8)) Ty.unit))) p1, CV.int IntKind.i64 p2, CV.int IntKind.i64 p3, ((Blk.mem (CV.pure (Ty.pair (Ty.slice (Ty.pair (Ty.int IntKind.i64) (Ty.pair (Ty.int IntKind.i64) (Ty.pair (Ty.int IntKind.i64) (Ty.pair (Ty.int IntKind.i64) (Ty.pair (Ty.int IntKind.i64) (Ty.pair (Ty.int IntKind.i64) (Ty.pair Ty.bool (Ty.pair (Ty.int IntKind.i64) Ty.unit))))))))) (Ty.pair (Ty.slice (Ty.pair (Ty.int IntKind.i64) (Ty.pair (Ty.int IntKind.i64) (Ty.pair (Ty.int IntKind.i64) (Ty.pair (Ty.int IntKind.i64) (Ty.pair (Ty.int IntKind.i64) (Ty.pair (Ty.slice (Ty.int IntKind.i64)) (Ty.pair (Ty.int IntKind.i64) Ty.unit)))))))) (Ty.pair (Ty.int IntKind.i64) (Ty.pair Ty.bool Ty.unit)))) p4)) :: (Blk.mem (CV.pure (Ty.pair (Ty.int IntKind.i64) (Ty.pair (Ty.int IntKind.i64) (Ty.pair (Ty.int IntKind.i64) (Ty.pair (Ty.int IntKind.i64) (Ty.pair (Ty.int IntKind.i64) (Ty.pair (Ty.int IntKind.i64) Ty.unit)))))) p5)) :: []) => gd (shapeOK T 144 [2, 5, 6, 32, 33, 34] (0 : Nat)) (G p0 p1 p2 p3 p4 p5 k)
  | _, _, _, _, _, _, _ => none
theorem o_3_0_inv {R : Type} {G : (Int) → (Zt3_6) → (Int) → (Int) → (Zt3_1) → (Zt3_4) → (Ex → St → Option R) → Option R} {T : St} {k : Ex → St → Option R} {r : R} (h : o_3_0 G T k = some r) : ∃ p0 p1 p2 p3 p4 p5, T = T_3_0 p0 p1 p2 p3 p4 p5 ∧ G p0 p1 p2 p3 p4 p5 k = some r := by
  unfold o_3_0 at h
  split at h
  · obtain ⟨hs, h'⟩ := gd_some h
    refine ⟨_, _, _, _, _, _, (st_of (asg := [(2, _), (5, _), (6, _), (32, _), (33, _), (34, _)]) hs ⟨by assumption, by assumption, by assumption, by assumption, by assumption, by assumption, trivial⟩ (by assumption)).trans ?_, h'⟩
    kernel_rfl
  · cases h
noncomputable def O_3_3_2 {R : Type} : St → (Ex → St → Option R) → Option R := fun T k => o_3_2 G_3_2 T k
noncomputable def O_3_3_1 {R : Type} : St → (Ex → St → Option R) → Option R := fun T k => o_3_1 G_3_1 T k
noncomputable def O_3_3_0 {R : Type} : St → (Ex → St → Option R) → Option R := fun T k => o_3_0 G_3_0 T k
theorem body_3_2 {R : Type} (K1 : Ex → St → Option R) (p0 : Int) (p1 : Int) (p2 : Bool) (p3 : Zt3_6) (p4 : Int) (p5 : Int) (p6 : Zt3_1) (p7 : Zt3_4) (p8 : Zt3_4) (p9 : Zt3_1) : evJ (evCodeL sm_3 FU (ovr noO (evFn sm_3 fns FU 0)) .nil ir3_b2) (T_3_2 p0 p1 p2 p3 p4 p5 p6 p7 p8 p9) K1 =
  bif p2 then gd (Sp.p_16 p6) (bif (Sp.v_16 p6).2.1 != (0 : Int) then K1 Ex.ret X_3_2_0 else bif p1 == (1 : Int) then K1 Ex.ret X_3_2_0 else gd (Sp.p_17 p9 ((Sp.v_16 p6).1)) (bif !(Sp.v_17 p9 ((Sp.v_16 p6).1)).1 then K1 Ex.ret X_3_2_0 else K1 Ex.normal (X_3_2_1 p0 p1 p2 p3 p4 p5 p6 p8 p9))) else gd (Sp.p_17 p6 p9) (bif !(Sp.v_17 p6 p9).1 then K1 Ex.ret X_3_2_0 else K1 Ex.normal (X_3_2_2 p0 p1 p2 p3 p4 p5 p6 p8 p9)) := by kernel_rfl
theorem Bgd_3_2 {R : Type} {c : Bool} {x : Option R} {y : Option Sp.E_3_2} {k0 : Option R} {k1 : (Int) → (Int) → (Bool) → (Zt3_6) → (Int) → (Int) → (Zt3_1) → (Zt3_4) → (Zt3_1) → Option R} {k2 : (Int) → (Int) → (Bool) → (Zt3_6) → (Int) → (Int) → (Zt3_1) → (Zt3_4) → (Zt3_1) → Option R} (h : x = Sp.B_3_2 y k0 k1 k2) : gd c x = Sp.B_3_2 (gd c y) k0 k1 k2 := by cases c; rfl; exact h
theorem Bcond_3_2 {R : Type} {c : Bool} {x x' : Option R} {y y' : Option Sp.E_3_2} {k0 : Option R} {k1 : (Int) → (Int) → (Bool) → (Zt3_6) → (Int) → (Int) → (Zt3_1) → (Zt3_4) → (Zt3_1) → Option R} {k2 : (Int) → (Int) → (Bool) → (Zt3_6) → (Int) → (Int) → (Zt3_1) → (Zt3_4) → (Zt3_1) → Option R} (h : x = Sp.B_3_2 y k0 k1 k2) (h' : x' = Sp.B_3_2 y' k0 k1 k2) : (bif c then x else x') = Sp.B_3_2 (bif c then y else y') k0 k1 k2 := by cases c; exact h'; exact h
theorem loop_3_2 {R : Type} (k : Ex → St → Option R) (p0 : Int) (p1 : Int) (p2 : Bool) (p3 : Zt3_6) (p4 : Int) (p5 : Int) (p6 : Zt3_1) (p7 : Zt3_4) (p8 : Zt3_4) (p9 : Zt3_1) : evJ (evCodeL sm_3 FU (ovr noO (evFn sm_3 fns FU 0)) .nil ir3_b2) (T_3_2 p0 p1 p2 p3 p4 p5 p6 p7 p8 p9) k = Sp.B_3_2 (Sp.J_3_2 p0 p1 p2 p3 p4 p5 p6 p7 p8 p9) (k Ex.ret (X_3_2_0)) (fun p0 p1 p2 p3 p4 p5 p6 p8 p9 => k Ex.normal (X_3_2_1 p0 p1 p2 p3 p4 p5 p6 p8 p9)) (fun p0 p1 p2 p3 p4 p5 p6 p8 p9 => k Ex.normal (X_3_2_2 p0 p1 p2 p3 p4 p5 p6 p8 p9)) := by
  rw [body_3_2, Sp.J_3_2]
  repeat' first | apply Bgd_3_2 | apply Bcond_3_2 | rfl
theorem ok_3_2 {R : Type} (T : St) (k : Ex → St → Option R) (r : R) (h0 : o_3_2 G_3_2 T k = some r) : evCode sm_3 FU (evFn sm_3 fns FU 0) ir3_b2 T k = some r := by
  obtain ⟨p0, p1, p2, p3, p4, p5, p6, p7, p8, p9, rfl, h⟩ := o_3_2_inv h0
  refine bodyL_sound (t := .nil) noO_ok trivial (((show ∀ (b : St → (Ex → St → Option R) → Option R) (T : St) (k : Ex → St → Option R), b T k = evJ b T k from fun _ _ _ => rfl) _ _ _).trans ((loop_3_2 k p0 p1 p2 p3 p4 p5 p6 p7 p8 p9).trans h))
theorem OK_3_3_2 {R : Type} (T : St) (k : Ex → St → Option R) (r : R) (h : O_3_3_2 T k = some r) : evCode sm_3 FU (evFn sm_3 fns FU 0) ir3_b2 T k = some r := ok_3_2 T k r h
theorem body_3_1 {R : Type} (K1 : Ex → St → Option R) (p0 : Int) (p1 : Int) (p2 : List Int) (p3 : Zt3_6) (p4 : Int) (p5 : Int) (p6 : Zt3_1) (p7 : Zt3_4) (p8 : Zt3_4) (p9 : Zt3_1) : evJ (evCodeL sm_3 FU (ovr noO (evFn sm_3 fns FU 0)) (ir3_bt1 O_3_3_2) ir3_b1) (T_3_1 p0 p1 p2 p3 p4 p5 p6 p7 p8 p9) K1 =
  bif (↑(List.length p2) : Int) == (1 : Int) then gd (inB (0 : Int) (List.length p2)) (Sp.B_3_2 (Sp.J_3_2 p0 p1 (List.getD p2 (0 : Nat) (0 : Int) == (84 : Int)) p3 p4 p5 p6 p7 p8 p9) (K1 Ex.ret X_3_1_0) (fun y36 y37 y38 y39 y40 y41 y42 y43 y44 => K1 Ex.normal (X_3_1_1 y36 y37 y38 y39 y40 y41 y42 y43 y44)) fun y45 y46 y47 y48 y49 y50 y51 y52 y53 => K1 Ex.normal (X_3_1_2 y45 y46 y47 y48 y49 y50 y51 y52 y53)) else Sp.B_3_2 (Sp.J_3_2 p0 p1 false p3 p4 p5 p6 p7 p8 p9) (K1 Ex.ret X_3_1_0) (fun y54 y55 y56 y57 y58 y59 y60 y61 y62 => K1 Ex.normal (X_3_1_1 y54 y55 y56 y57 y58 y59 y60 y61 y62)) fun y63 y64 y65 y66 y67 y68 y69 y70 y71 => K1 Ex.normal (X_3_1_2 y63 y64 y65 y66 y67 y68 y69 y70 y71) := by kernel_rfl
theorem Bgd_3_1 {R : Type} {c : Bool} {x : Option R} {y : Option Sp.E_3_1} {k0 : Option R} {k1 : (Int) → (Int) → (Bool) → (Zt3_6) → (Int) → (Int) → (Zt3_1) → (Zt3_4) → (Zt3_1) → Option R} {k2 : (Int) → (Int) → (Bool) → (Zt3_6) → (Int) → (Int) → (Zt3_1) → (Zt3_4) → (Zt3_1) → Option R} (h : x = Sp.B_3_1 y k0 k1 k2) : gd c x = Sp.B_3_1 (gd c y) k0 k1 k2 := by cases c; rfl; exact h
theorem Bcond_3_1 {R : Type} {c : Bool} {x x' : Option R} {y y' : Option Sp.E_3_1} {k0 : Option R} {k1 : (Int) → (Int) → (Bool) → (Zt3_6) → (Int) → (Int) → (Zt3_1) → (Zt3_4) → (Zt3_1) → Option R} {k2 : (Int) → (Int) → (Bool) → (Zt3_6) → (Int) → (Int) → (Zt3_1) → (Zt3_4) → (Zt3_1) → Option R} (h : x = Sp.B_3_1 y k0 k1 k2) (h' : x' = Sp.B_3_1 y' k0 k1 k2) : (bif c then x else x') = Sp.B_3_1 (bif c then y else y') k0 k1 k2 := by cases c; exact h'; exact h
theorem Bin_3_1_3_2 {R : Type} {r : Option Sp.E_3_2} {k0 : Option R} {k1 : (Int) → (Int) → (Bool) → (Zt3_6) → (Int) → (Int) → (Zt3_1) → (Zt3_4) → (Zt3_1) → Option R} {k2 : (Int) → (Int) → (Bool) → (Zt3_6) → (Int) → (Int) → (Zt3_1) → (Zt3_4) → (Zt3_1) → Option R} {f0 : Option R} {f1 : (Int) → (Int) → (Bool) → (Zt3_6) → (Int) → (Int) → (Zt3_1) → (Zt3_4) → (Zt3_1) → Option R} {f2 : (Int) → (Int) → (Bool) → (Zt3_6) → (Int) → (Int) → (Zt3_1) → (Zt3_4) → (Zt3_1) → Option R} {g0 : Option Sp.E_3_1} {g1 : (Int) → (Int) → (Bool) → (Zt3_6) → (Int) → (Int) → (Zt3_1) → (Zt3_4) → (Zt3_1) → Option Sp.E_3_1} {g2 : (Int) → (Int) → (Bool) → (Zt3_6) → (Int) → (Int) → (Zt3_1) → (Zt3_4) → (Zt3_1) → Option Sp.E_3_1} (h0 : f0 = Sp.B_3_1 g0 k0 k1 k2) (h1 : ∀ z0 z1 z2 z3 z4 z5 z6 z7 z8, f1 z0 z1 z2 z3 z4 z5 z6 z7 z8 = Sp.B_3_1 (g1 z0 z1 z2 z3 z4 z5 z6 z7 z8) k0 k1 k2) (h2 : ∀ z0 z1 z2 z3 z4 z5 z6 z7 z8, f2 z0 z1 z2 z3 z4 z5 z6 z7 z8 = Sp.B_3_1 (g2 z0 z1 z2 z3 z4 z5 z6 z7 z8) k0 k1 k2) : Sp.B_3_2 r f0 f1 f2 = Sp.B_3_1 (Sp.B_3_2 r g0 g1 g2) k0 k1 k2 := by
  cases r with
  | none => rfl
  | some e => cases e with
    | e0 => exact h0
    | e1 z0 z1 z2 z3 z4 z5 z6 z7 z8 => exact h1 _ _ _ _ _ _ _ _ _
    | e2 z0 z1 z2 z3 z4 z5 z6 z7 z8 => exact h2 _ _ _ _ _ _ _ _ _
theorem loop_3_1 {R : Type} (k : Ex → St → Option R) (p0 : Int) (p1 : Int) (p2 : List Int) (p3 : Zt3_6) (p4 : Int) (p5 : Int) (p6 : Zt3_1) (p7 : Zt3_4) (p8 : Zt3_4) (p9 : Zt3_1) : evJ (evCodeL sm_3 FU (ovr noO (evFn sm_3 fns FU 0)) (ir3_bt1 O_3_3_2) ir3_b1) (T_3_1 p0 p1 p2 p3 p4 p5 p6 p7 p8 p9) k = Sp.B_3_1 (Sp.J_3_1 p0 p1 p2 p3 p4 p5 p6 p7 p8 p9) (k Ex.ret (X_3_1_0)) (fun y36 y37 y38 y39 y40 y41 y42 y43 y44 => k Ex.normal (X_3_1_1 y36 y37 y38 y39 y40 y41 y42 y43 y44)) (fun y45 y46 y47 y48 y49 y50 y51 y52 y53 => k Ex.normal (X_3_1_2 y45 y46 y47 y48 y49 y50 y51 y52 y53)) := by
  rw [body_3_1, Sp.J_3_1]
  repeat' first | apply Bgd_3_1 | apply Bcond_3_1 | (apply Bin_3_1_3_2 <;> intros) | rfl
theorem ok_3_1 {R : Type} (T : St) (k : Ex → St → Option R) (r : R) (h0 : o_3_1 G_3_1 T k = some r) : evCode sm_3 FU (evFn sm_3 fns FU 0) ir3_b1 T k = some r := by
  obtain ⟨p0, p1, p2, p3, p4, p5, p6, p7, p8, p9, rfl, h⟩ := o_3_1_inv h0
  refine bodyL_sound (t := (ir3_bt1 O_3_3_2)) noO_ok (ir3_bt1ok (fun T k r => OK_3_3_2 T k r)) (((show ∀ (b : St → (Ex → St → Option R) → Option R) (T : St) (k : Ex → St → Option R), b T k = evJ b T k from fun _ _ _ => rfl) _ _ _).trans ((loop_3_1 k p0 p1 p2 p3 p4 p5 p6 p7 p8 p9).trans h))
theorem OK_3_3_1 {R : Type} (T : St) (k : Ex → St → Option R) (r : R) (h : O_3_3_1 T k = some r) : evCode sm_3 FU (evFn sm_3 fns FU 0) ir3_b1 T k = some r := ok_3_1 T k r h
theorem body_3_0 {R : Type} (K0 : St → Option R) (K1 : Ex → St → Option R) (p0 : Int) (p1 : Zt3_6) (p2 : Int) (p3 : Int) (p4 : Zt3_1) (p5 : Zt3_4) : evLB (evCodeL sm_3 FU (ovr noO (evFn sm_3 fns FU 0)) (ir3_bt0 O_3_3_1) ir3_b0) (St.norm ir3_v0) (T_3_0 p0 p1 p2 p3 p4 p5) K0 K1 =
  bif decide (p3 < p2) then gd (inB p3 (List.length p1)) (gd (Sp.p_13 p5 (IntKind.wrap IntKind.i64 (p0 + IntKind.wrap IntKind.i64 ((List.getD p1 (Int.toNat p3) (Ty.dflt Zy3_2)).1)))) (gd (Sp.p_14 p5 p4 ((List.getD p1 (Int.toNat p3) (Ty.dflt Zy3_2)).2.1) (IntKind.wrap IntKind.i64 (p0 + IntKind.wrap IntKind.i64 ((List.getD p1 (Int.toNat p3) (Ty.dflt Zy3_2)).1)))) (gd (Sp.p_15 ((Sp.v_14 p5 p4 ((List.getD p1 (Int.toNat p3) (Ty.dflt Zy3_2)).2.1) (IntKind.wrap IntKind.i64 (p0 + IntKind.wrap IntKind.i64 ((List.getD p1 (Int.toNat p3) (Ty.dflt Zy3_2)).1)))).1)) (bif !(Sp.v_15 ((Sp.v_14 p5 p4 ((List.getD p1 (Int.toNat p3) (Ty.dflt Zy3_2)).2.1) (IntKind.wrap IntKind.i64 (p0 + IntKind.wrap IntKind.i64 ((List.getD p1 (Int.toNat p3) (Ty.dflt Zy3_2)).1)))).1)).1 then K1 Ex.ret X_3_0_0 else gd (Sp.p_10 ((Sp.v_14 p5 p4 ((List.getD p1 (Int.toNat p3) (Ty.dflt Zy3_2)).2.1) (IntKind.wrap IntKind.i64 (p0 + IntKind.wrap IntKind.i64 ((List.getD p1 (Int.toNat p3) (Ty.dflt Zy3_2)).1)))).2.1)) (bif !(Sp.v_10 ((Sp.v_14 p5 p4 ((List.getD p1 (Int.toNat p3) (Ty.dflt Zy3_2)).2.1) (IntKind.wrap IntKind.i64 (p0 + IntKind.wrap IntKind.i64 ((List.getD p1 (Int.toNat p3) (Ty.dflt Zy3_2)).1)))).2.1)).1 then K1 Ex.ret X_3_0_0 else bif decide ((↑(List.length ((Sp.v_14 p5 p4 ((List.getD p1 (Int.toNat p3) (Ty.dflt Zy3_2)).2.1) (IntKind.wrap IntKind.i64 (p0 + IntKind.wrap IntKind.i64 ((List.getD p1 (Int.toNat p3) (Ty.dflt Zy3_2)).1)))).2.2.1)) : Int) > (1023 : Int)) then K1 Ex.ret X_3_0_0 else bif decide ((↑(List.length ((Sp.v_14 p5 p4 ((List.getD p1 (Int.toNat p3) (Ty.dflt Zy3_2)).2.1) (IntKind.wrap IntKind.i64 (p0 + IntKind.wrap IntKind.i64 ((List.getD p1 (Int.toNat p3) (Ty.dflt Zy3_2)).1)))).2.2.1)) : Int) > (0 : Int)) then bif (↑(List.length ((List.getD p1 (Int.toNat p3) (Ty.dflt Zy3_2)).2.1)) : Int) == (0 : Int) then K1 Ex.ret X_3_0_0 else gd (inB (0 : Int) (List.length ((Sp.v_14 p5 p4 ((List.getD p1 (Int.toNat p3) (Ty.dflt Zy3_2)).2.1) (IntKind.wrap IntKind.i64 (p0 + IntKind.wrap IntKind.i64 ((List.getD p1 (Int.toNat p3) (Ty.dflt Zy3_2)).1)))).2.2.1))) (gd (inB (0 : Int) (List.length ((List.getD p1 (Int.toNat p3) (Ty.dflt Zy3_2)).2.1))) (bif List.getD ((Sp.v_14 p5 p4 ((List.getD p1 (Int.toNat p3) (Ty.dflt Zy3_2)).2.1) (IntKind.wrap IntKind.i64 (p0 + IntKind.wrap IntKind.i64 ((List.getD p1 (Int.toNat p3) (Ty.dflt Zy3_2)).1)))).2.2.1) (0 : Nat) (0 : Int) == IntKind.wrap IntKind.u8 (List.getD ((List.getD p1 (Int.toNat p3) (Ty.dflt Zy3_2)).2.1) (0 : Nat) (0 : Int) + (64 : Int)) then Sp.B_3_1 (Sp.J_3_1 (IntKind.wrap IntKind.i64 (p0 + IntKind.wrap IntKind.i64 ((List.getD p1 (Int.toNat p3) (Ty.dflt Zy3_2)).1))) ((Sp.v_13 p5 (IntKind.wrap IntKind.i64 (p0 + IntKind.wrap IntKind.i64 ((List.getD p1 (Int.toNat p3) (Ty.dflt Zy3_2)).1)))).1.1) ((Sp.v_14 p5 p4 ((List.getD p1 (Int.toNat p3) (Ty.dflt Zy3_2)).2.1) (IntKind.wrap IntKind.i64 (p0 + IntKind.wrap IntKind.i64 ((List.getD p1 (Int.toNat p3) (Ty.dflt Zy3_2)).1)))).2.2.1) p1 p2 p3 p4 p5 ((Sp.v_14 p5 p4 ((List.getD p1 (Int.toNat p3) (Ty.dflt Zy3_2)).2.1) (IntKind.wrap IntKind.i64 (p0 + IntKind.wrap IntKind.i64 ((List.getD p1 (Int.toNat p3) (Ty.dflt Zy3_2)).1)))).1) ((Sp.v_14 p5 p4 ((List.getD p1 (Int.toNat p3) (Ty.dflt Zy3_2)).2.1) (IntKind.wrap IntKind.i64 (p0 + IntKind.wrap IntKind.i64 ((List.getD p1 (Int.toNat p3) (Ty.dflt Zy3_2)).1)))).2.1)) (K1 Ex.ret X_3_0_0) (fun y62 y63 y64 y65 y66 y67 y68 y69 y70 => K0 (T_3_0 y62 y65 y66 (IntKind.wrap IntKind.i64 (y67 + (1 : Int))) y70 y69)) fun y71 y72 y73 y74 y75 y76 y77 y78 y79 => K0 (T_3_0 y71 y74 y75 (IntKind.wrap IntKind.i64 (y76 + (1 : Int))) y79 y78) else bif (↑(List.length ((Sp.v_14 p5 p4 ((List.getD p1 (Int.toNat p3) (Ty.dflt Zy3_2)).2.1) (IntKind.wrap IntKind.i64 (p0 + IntKind.wrap IntKind.i64 ((List.getD p1 (Int.toNat p3) (Ty.dflt Zy3_2)).1)))).2.2.1)) : Int) == (3 : Int) then gd (inB (0 : Int) (List.length ((Sp.v_14 p5 p4 ((List.getD p1 (Int.toNat p3) (Ty.dflt Zy3_2)).2.1) (IntKind.wrap IntKind.i64 (p0 + IntKind.wrap IntKind.i64 ((List.getD p1 (Int.toNat p3) (Ty.dflt Zy3_2)).1)))).2.2.1))) (bif List.getD ((Sp.v_14 p5 p4 ((List.getD p1 (Int.toNat p3) (Ty.dflt Zy3_2)).2.1) (IntKind.wrap IntKind.i64 (p0 + IntKind.wrap IntKind.i64 ((List.getD p1 (Int.toNat p3) (Ty.dflt Zy3_2)).1)))).2.2.1) (0 : Nat) (0 : Int) == (127 : Int) then gd (inB (1 : Int) (List.length ((Sp.v_14 p5 p4 ((List.getD p1 (Int.toNat p3) (Ty.dflt Zy3_2)).2.1) (IntKind.wrap IntKind.i64 (p0 + IntKind.wrap IntKind.i64 ((List.getD p1 (Int.toNat p3) (Ty.dflt Zy3_2)).1)))).2.2.1))) (gd (inB (0 : Int) (List.length ((List.getD p1 (Int.toNat p3) (Ty.dflt Zy3_2)).2.1))) (bif !List.getD ((Sp.v_14 p5 p4 ((List.getD p1 (Int.toNat p3) (Ty.dflt Zy3_2)).2.1) (IntKind.wrap IntKind.i64 (p0 + IntKind.wrap IntKind.i64 ((List.getD p1 (Int.toNat p3) (Ty.dflt Zy3_2)).1)))).2.2.1) (1 : Nat) (0 : Int) == List.getD ((List.getD p1 (Int.toNat p3) (Ty.dflt Zy3_2)).2.1) (0 : Nat) (0 : Int) then K1 Ex.ret X_3_0_0 else Sp.B_3_1 (Sp.J_3_1 (IntKind.wrap IntKind.i64 (p0 + IntKind.wrap IntKind.i64 ((List.getD p1 (Int.toNat p3) (Ty.dflt Zy3_2)).1))) ((Sp.v_13 p5 (IntKind.wrap IntKind.i64 (p0 + IntKind.wrap IntKind.i64 ((List.getD p1 (Int.toNat p3) (Ty.dflt Zy3_2)).1)))).1.1) ((Sp.v_14 p5 p4 ((List.getD p1 (Int.toNat p3) (Ty.dflt Zy3_2)).2.1) (IntKind.wrap IntKind.i64 (p0 + IntKind.wrap IntKind.i64 ((List.getD p1 (Int.toNat p3) (Ty.dflt Zy3_2)).1)))).2.2.1) p1 p2 p3 p4 p5 ((Sp.v_14 p5 p4 ((List.getD p1 (Int.toNat p3) (Ty.dflt Zy3_2)).2.1) (IntKind.wrap IntKind.i64 (p0 + IntKind.wrap IntKind.i64 ((List.getD p1 (Int.toNat p3) (Ty.dflt Zy3_2)).1)))).1) ((Sp.v_14 p5 p4 ((List.getD p1 (Int.toNat p3) (Ty.dflt Zy3_2)).2.1) (IntKind.wrap IntKind.i64 (p0 + IntKind.wrap IntKind.i64 ((List.getD p1 (Int.toNat p3) (Ty.dflt Zy3_2)).1)))).2.1)) (K1 Ex.ret X_3_0_0) (fun y80 y81 y82 y83 y84 y85 y86 y87 y88 => K0 (T_3_0 y80 y83 y84 (IntKind.wrap IntKind.i64 (y85 + (1 : Int))) y88 y87)) fun y89 y90 y91 y92 y93 y94 y95 y96 y97 => K0 (T_3_0 y89 y92 y93 (IntKind.wrap IntKind.i64 (y94 + (1 : Int))) y97 y96))) else K1 Ex.ret X_3_0_0) else K1 Ex.ret X_3_0_0)) else Sp.B_3_1 (Sp.J_3_1 (IntKind.wrap IntKind.i64 (p0 + IntKind.wrap IntKind.i64 ((List.getD p1 (Int.toNat p3) (Ty.dflt Zy3_2)).1))) ((Sp.v_13 p5 (IntKind.wrap IntKind.i64 (p0 + IntKind.wrap IntKind.i64 ((List.getD p1 (Int.toNat p3) (Ty.dflt Zy3_2)).1)))).1.1) ((Sp.v_14 p5 p4 ((List.getD p1 (Int.toNat p3) (Ty.dflt Zy3_2)).2.1) (IntKind.wrap IntKind.i64 (p0 + IntKind.wrap IntKind.i64 ((List.getD p1 (Int.toNat p3) (Ty.dflt Zy3_2)).1)))).2.2.1) p1 p2 p3 p4 p5 ((Sp.v_14 p5 p4 ((List.getD p1 (Int.toNat p3) (Ty.dflt Zy3_2)).2.1) (IntKind.wrap IntKind.i64 (p0 + IntKind.wrap IntKind.i64 ((List.getD p1 (Int.toNat p3) (Ty.dflt Zy3_2)).1)))).1) ((Sp.v_14 p5 p4 ((List.getD p1 (Int.toNat p3) (Ty.dflt Zy3_2)).2.1) (IntKind.wrap IntKind.i64 (p0 + IntKind.wrap IntKind.i64 ((List.getD p1 (Int.toNat p3) (Ty.dflt Zy3_2)).1)))).2.1)) (K1 Ex.ret X_3_0_0) (fun y98 y99 y100 y101 y102 y103 y104 y105 y106 => K0 (T_3_0 y98 y101 y102 (IntKind.wrap IntKind.i64 (y103 + (1 : Int))) y106 y105)) fun y107 y108 y109 y110 y111 y112 y113 y114 y115 => K0 (T_3_0 y107 y110 y111 (IntKind.wrap IntKind.i64 (y112 + (1 : Int))) y115 y114)))))) else K1 (Ex.exit (0 : Nat)) X_3_0_1 := by kernel_rfl
theorem Bgd_3_0 {R : Type} {c : Bool} {x : Option R} {y : Option Sp.E_3_0} {k0 : Option R} {k1 : Option R} (h : x = Sp.B_3_0 y k0 k1) : gd c x = Sp.B_3_0 (gd c y) k0 k1 := by cases c; rfl; exact h
theorem Bcond_3_0 {R : Type} {c : Bool} {x x' : Option R} {y y' : Option Sp.E_3_0} {k0 : Option R} {k1 : Option R} (h : x = Sp.B_3_0 y k0 k1) (h' : x' = Sp.B_3_0 y' k0 k1) : (bif c then x else x') = Sp.B_3_0 (bif c then y else y') k0 k1 := by cases c; exact h'; exact h
theorem Bin_3_0_3_1 {R : Type} {r : Option Sp.E_3_1} {k0 : Option R} {k1 : Option R} {f0 : Option R} {f1 : (Int) → (Int) → (Bool) → (Zt3_6) → (Int) → (Int) → (Zt3_1) → (Zt3_4) → (Zt3_1) → Option R} {f2 : (Int) → (Int) → (Bool) → (Zt3_6) → (Int) → (Int) → (Zt3_1) → (Zt3_4) → (Zt3_1) → Option R} {g0 : Option Sp.E_3_0} {g1 : (Int) → (Int) → (Bool) → (Zt3_6) → (Int) → (Int) → (Zt3_1) → (Zt3_4) → (Zt3_1) → Option Sp.E_3_0} {g2 : (Int) → (Int) → (Bool) → (Zt3_6) → (Int) → (Int) → (Zt3_1) → (Zt3_4) → (Zt3_1) → Option Sp.E_3_0} (h0 : f0 = Sp.B_3_0 g0 k0 k1) (h1 : ∀ z0 z1 z2 z3 z4 z5 z6 z7 z8, f1 z0 z1 z2 z3 z4 z5 z6 z7 z8 = Sp.B_3_0 (g1 z0 z1 z2 z3 z4 z5 z6 z7 z8) k0 k1) (h2 : ∀ z0 z1 z2 z3 z4 z5 z6 z7 z8, f2 z0 z1 z2 z3 z4 z5 z6 z7 z8 = Sp.B_3_0 (g2 z0 z1 z2 z3 z4 z5 z6 z7 z8) k0 k1) : Sp.B_3_1 r f0 f1 f2 = Sp.B_3_0 (Sp.B_3_1 r g0 g1 g2) k0 k1 := by
  cases r with
  | none => rfl
  | some e => cases e with
    | e0 => exact h0
    | e1 z0 z1 z2 z3 z4 z5 z6 z7 z8 => exact h1 _ _ _ _ _ _ _ _ _
    | e2 z0 z1 z2 z3 z4 z5 z6 z7 z8 => exact h2 _ _ _ _ _ _ _ _ _
theorem loop_3_0 {R : Type} (k : Ex → St → Option R) : ∀ (m : Nat) (p0 : Int) (p1 : Zt3_6) (p2 : Int) (p3 : Int) (p4 : Zt3_1) (p5 : Zt3_4), evLoopN (evCodeL sm_3 FU (ovr noO (evFn sm_3 fns FU 0)) (ir3_bt0 O_3_3_1) ir3_b0) (St.norm ir3_v0) m (T_3_0 p0 p1 p2 p3 p4 p5) k = Sp.B_3_0 (Sp.L_3_0 m p0 p1 p2 p3 p4 p5) (k Ex.ret (X_3_0_0)) (k (Ex.exit (0 : Nat)) (X_3_0_1))
  | 0, _, _, _, _, _, _ => rfl
  | m + 1, p0, p1, p2, p3, p4, p5 => by
    rw [evLoopN_succ, body_3_0, Sp.L_3_0]
    repeat' first | apply Bgd_3_0 | apply Bcond_3_0 | (apply Bin_3_0_3_1 <;> intros) | exact loop_3_0 k m _ _ _ _ _ _ | rfl
theorem ok_3_0 {R : Type} (T : St) (k : Ex → St → Option R) (r : R) (h0 : o_3_0 G_3_0 T k = some r) : evLoopN (evCode sm_3 FU (evFn sm_3 fns FU 0) ir3_b0) (St.norm ir3_v0) FU T k = some r := by
  obtain ⟨p0, p1, p2, p3, p4, p5, rfl, h⟩ := o_3_0_inv h0
  refine evLoopN_L (t := (ir3_bt0 O_3_3_1)) noO_ok (ir3_bt0ok (fun T k r => OK_3_3_1 T k r)) _ _ _ _ ?_
  rw [loop_3_0]
  exact h
theorem OK_3_3_0 {R : Type} (T : St) (k : Ex → St → Option R) (r : R) (h : O_3_3_0 T k = some r) : evLoopN (evCode sm_3 FU (evFn sm_3 fns FU 0) ir3_b0) (St.norm ir3_v0) FU T k = some r := ok_3_0 T k r h
noncomputable def F_3 (a0 : ((List (Int × (Int × (Int × (Int × (Int × (Int × (Bool × (Int × Unit))))))))) × ((List (Int × (Int × (Int × (Int × (Int × ((List Int) × (Int × Unit)))))))) × (Int × (Bool × Unit))))) (a1 : (List (Int × ((List Int) × Unit)))) : Option (Bool) :=
  gd Sp.p_8 (bif !Sp.v_8.1 then some false else gd (Sp.p_9 a0) (bif !(Sp.v_9 a0).1 then some true else gd (Sp.p_10 a0) (bif !(Sp.v_10 a0).1 then some true else gd (Sp.p_11 a1) (bif !(Sp.v_11 a1).1 then some true else gd Sp.p_12 (Sp.B_3_0 (Sp.L_3_0 (4611686018427387904 : Nat) (0 : Int) a1 (↑(List.length a1) : Int) (0 : Int) a0 (Sp.v_12.1)) (some false) (some true))))))
theorem fn_3 (a0 : ((List (Int × (Int × (Int × (Int × (Int × (Int × (Bool × (Int × Unit))))))))) × ((List (Int × (Int × (Int × (Int × (Int × ((List Int) × (Int × Unit)))))))) × (Int × (Bool × Unit))))) (a1 : (List (Int × ((List Int) × Unit)))) : evFnL sm_3 FU (ovr noO (evFn sm_3 fns FU 0)) (ir3_t O_3_3_0) ir3 (ofH [Zy3_7, Zy3_9] (a0, a1, ())) [] bk = F_3 a0 a1 := by kernel_rfl
theorem run_3 (a0 : ((List (Int × (Int × (Int × (Int × (Int × (Int × (Bool × (Int × Unit))))))))) × ((List (Int × (Int × (Int × (Int × (Int × ((List Int) × (Int × Unit)))))))) × (Int × (Bool × Unit))))) (a1 : (List (Int × ((List Int) × Unit)))) {b : Bool} (h : F_3 a0 a1 = some b) : evFn sm_3 fns FU 1 3 (ofH [Zy3_7, Zy3_9] (a0, a1, ())) [] bk = some b :=
  evFnL_sound (fn := ir3) (t := (ir3_t O_3_3_0)) (o := noO) rfl noO_ok (ir3_tok (fun T k r => OK_3_3_0 T k r)) ((fn_3 _ _).trans h)
end
end Go.Ev
namespace Go.Proofs
open Go.Shelf
end Go.Proofs
namespace Go.Ev
open Go Go.Proofs Go.RowKit
set_option maxRecDepth 100000
set_option maxHeartbeats 4000000
noncomputable def smB : Nat → Bool := fun f => [8, 9, 10, 11, 12, 13, 14, 15, 16, 17, 18, 19, 20, 21, 23, 25, 26, 27, 28, 30, 31, 32, 34, 38, 39, 40, 41, 43, 44, 46, 52, 54, 55, 56].contains f
theorem hm0 : Try.prog.follows .mixedOrders = true := by kernel_rfl
theorem key3 : fnKey Try.prog smB 3 = ir3.key := by kernel_rfl
theorem key8 : fnKey Try.prog smB 8 = ir8.key := by kernel_rfl
theorem key9 : fnKey Try.prog smB 9 = ir9.key := by kernel_rfl
theorem key10 : fnKey Try.prog smB 10 = ir10.key := by kernel_rfl
theorem key11 : fnKey Try.prog smB 11 = ir11.key := by kernel_rfl
theorem key12 : fnKey Try.prog smB 12 = ir12.key := by kernel_rfl
theorem key13 : fnKey Try.prog smB 13 = ir13.key := by kernel_rfl
theorem key14 : fnKey Try.prog smB 14 = ir14.key := by kernel_rfl
theorem key15 : fnKey Try.prog smB 15 = ir15.key := by kernel_rfl
theorem key16 : fnKey Try.prog smB 16 = ir16.key := by kernel_rfl
theorem key17 : fnKey Try.prog smB 17 = ir17.key := by kernel_rfl
theorem key18 : fnKey Try.prog smB 18 = ir18.key := by kernel_rfl
theorem key19 : fnKey Try.prog smB 19 = ir19.key := by kernel_rfl
theorem key22 : fnKey Try.prog smB 22 = ir22.key := by kernel_rfl
theorem key23 : fnKey Try.prog smB 23 = ir23.key := by kernel_rfl
theorem key24 : fnKey Try.prog smB 24 = ir24.key := by kernel_rfl
theorem key25 : fnKey Try.prog smB 25 = ir25.key := by kernel_rfl
theorem key27 : fnKey Try.prog smB 27 = ir27.key := by kernel_rfl
theorem key28 : fnKey Try.prog smB 28 = ir28.key := by kernel_rfl
theorem key29 : fnKey Try.prog smB 29 = ir29.key := by kernel_rfl
theorem key30 : fnKey Try.prog smB 30 = ir30.key := by kernel_rfl
theorem key31 : fnKey Try.prog smB 31 = ir31.key := by kernel_rfl
theorem key32 : fnKey Try.prog smB 32 = ir32.key := by kernel_rfl
theorem key33 : fnKey Try.prog smB 33 = ir33.key := by kernel_rfl
theorem key34 : fnKey Try.prog smB 34 = ir34.key := by kernel_rfl
theorem key35 : fnKey Try.prog smB 35 = ir35.key := by kernel_rfl
theorem key37 : fnKey Try.prog smB 37 = ir37.key := by kernel_rfl
theorem key38 : fnKey Try.prog smB 38 = ir38.key := by kernel_rfl
theorem key39 : fnKey Try.prog smB 39 = ir39.key := by kernel_rfl
theorem key40 : fnKey Try.prog smB 40 = ir40.key := by kernel_rfl
theorem key41 : fnKey Try.prog smB 41 = ir41.key := by kernel_rfl
theorem key42 : fnKey Try.prog smB 42 = ir42.key := by kernel_rfl
theorem key43 : fnKey Try.prog smB 43 = ir43.key := by kernel_rfl
theorem key44 : fnKey Try.prog smB 44 = ir44.key := by kernel_rfl
theorem key45 : fnKey Try.prog smB 45 = ir45.key := by kernel_rfl
theorem key46 : fnKey Try.prog smB 46 = ir46.key := by kernel_rfl
theorem key47 : fnKey Try.prog smB 47 = ir47.key := by kernel_rfl
theorem key48 : fnKey Try.prog smB 48 = ir48.key := by kernel_rfl
theorem key49 : fnKey Try.prog smB 49 = ir49.key := by kernel_rfl
theorem key50 : fnKey Try.prog smB 50 = ir50.key := by kernel_rfl
theorem key51 : fnKey Try.prog smB 51 = ir51.key := by kernel_rfl
theorem key52 : fnKey Try.prog smB 52 = ir52.key := by kernel_rfl
theorem key53 : fnKey Try.prog smB 53 = ir53.key := by kernel_rfl
theorem key54 : fnKey Try.prog smB 54 = ir54.key := by kernel_rfl
theorem key55 : fnKey Try.prog smB 55 = ir55.key := by kernel_rfl
theorem key56 : fnKey Try.prog smB 56 = ir56.key := by kernel_rfl
theorem key57 : fnKey Try.prog smB 57 = ir57.key := by kernel_rfl
theorem fns_ok : FnsOK Try.prog smB fns := by
  intro f fn h
  unfold fns at h
  split at h
  · simp only [Option.some.injEq] at h; subst h; exact key3
  · simp only [Option.some.injEq] at h; subst h; exact key8
  · simp only [Option.some.injEq] at h; subst h; exact key9
  · simp only [Option.some.injEq] at h; subst h; exact key10
  · simp only [Option.some.injEq] at h; subst h; exact key11
  · simp only [Option.some.injEq] at h; subst h; exact key12
  · simp only [Option.some.injEq] at h; subst h; exact key13
  · simp only [Option.some.injEq] at h; subst h; exact key14
  · simp only [Option.some.injEq] at h; subst h; exact key15
  · simp only [Option.some.injEq] at h; subst h; exact key16
  · simp only [Option.some.injEq] at h; subst h; exact key17
  · simp only [Option.some.injEq] at h; subst h; exact key18
  · simp only [Option.some.injEq] at h; subst h; exact key19
  · simp only [Option.some.injEq] at h; subst h; exact key22
  · simp only [Option.some.injEq] at h; subst h; exact key23
  · simp only [Option.some.injEq] at h; subst h; exact key24
  · simp only [Option.some.injEq] at h; subst h; exact key25
  · simp only [Option.some.injEq] at h; subst h; exact key27
  · simp only [Option.some.injEq] at h; subst h; exact key28
  · simp only [Option.some.injEq] at h; subst h; exact key29
  · simp only [Option.some.injEq] at h; subst h; exact key30
  · simp only [Option.some.injEq] at h; subst h; exact key31
  · simp only [Option.some.injEq] at h; subst h; exact key32
  · simp only [Option.some.injEq] at h; subst h; exact key33
  · simp only [Option.some.injEq] at h; subst h; exact key34
  · simp only [Option.some.injEq] at h; subst h; exact key35
  · simp only [Option.some.injEq] at h; subst h; exact key37
  · simp only [Option.some.injEq] at h; subst h; exact key38
  · simp only [Option.some.injEq] at h; subst h; exact key39
  · simp only [Option.some.injEq] at h; subst h; exact key40
  · simp only [Option.some.injEq] at h; subst h; exact key41
  · simp only [Option.some.injEq] at h; subst h; exact key42
  · simp only [Option.some.injEq] at h; subst h; exact key43
  · simp only [Option.some.injEq] at h; subst h; exact key44
  · simp only [Option.some.injEq] at h; subst h; exact key45
  · simp only [Option.some.injEq] at h; subst h; exact key46
  · simp only [Option.some.injEq] at h; subst h; exact key47
  · simp only [Option.some.injEq] at h; subst h; exact key48
  · simp only [Option.some.injEq] at h; subst h; exact key49
  · simp only [Option.some.injEq] at h; subst h; exact key50
  · simp only [Option.some.injEq] at h; subst h; exact key51
  · simp only [Option.some.injEq] at h; subst h; exact key52
  · simp only [Option.some.injEq] at h; subst h; exact key53
  · simp only [Option.some.injEq] at h; subst h; exact key54
  · simp only [Option.some.injEq] at h; subst h; exact key55
  · simp only [Option.some.injEq] at h; subst h; exact key56
  · simp only [Option.some.injEq] at h; subst h; exact key57
  · cases h
theorem smok_12 : ∀ f s, sm_12 f = some s → SummOK Try.prog f s := by
  intro f s h
  unfold sm_12 at h
  cases h
theorem call_12 {R : Type} (n base : Nat) : CallOK Try.prog base (evFn (R := R) sm_12 fns FU n) := ev_sound hm0 smok_12 (fun f s h => (smok_12 f s h).2.1) fns_ok n
theorem sok_12 : SummOK Try.prog 12 s_12 := summ_shN (by decide) (fun _ => rfl) (fun _ => rfl) (call_12 1) (by kernel_rfl) run_12
theorem smok_27 : ∀ f s, sm_27 f = some s → SummOK Try.prog f s := by
  intro f s h
  unfold sm_27 at h
  cases h
theorem call_27 {R : Type} (n base : Nat) : CallOK Try.prog base (evFn (R := R) sm_27 fns FU n) := ev_sound hm0 smok_27 (fun f s h => (smok_27 f s h).2.1) fns_ok n
theorem sok_27 : SummOK Try.prog 27 s_27 := summ_shN (by decide) (fun _ => rfl) (fun _ => rfl) (call_27 1) (by kernel_rfl) run_27
theorem smok_55 : ∀ f s, sm_55 f = some s → SummOK Try.prog f s := by
  intro f s h
  unfold sm_55 at h
  by_cases h27 : f = 27
  · subst h27
    injection h with h
    subst h
    exact sok_27
  rw [nbeq_ne h27, cond_false] at h
  cases h
theorem call_55 {R : Type} (n base : Nat) : CallOK Try.prog base (evFn (R := R) sm_55 fns FU n) := ev_sound hm0 smok_55 (fun f s h => (smok_55 f s h).2.1) fns_ok n
theorem sok_55 : SummOK Try.prog 55 s_55 := summ_shN (by decide) (fun _ => rfl) (fun _ => rfl) (call_55 1) (by kernel_rfl) run_55
theorem smok_39 : ∀ f s, sm_39 f = some s → SummOK Try.prog f s := by
  intro f s h
  unfold sm_39 at h
  by_cases h55 : f = 55
  · subst h55
    injection h with h
    subst h
    exact sok_55
  rw [nbeq_ne h55, cond_false] at h
  cases h
theorem call_39 {R : Type} (n base : Nat) : CallOK Try.prog base (evFn (R := R) sm_39 fns FU n) := ev_sound hm0 smok_39 (fun f s h => (smok_39 f s h).2.1) fns_ok n
theorem sok_39 : SummOK Try.prog 39 s_39 := summ_shN (by decide) (fun _ => rfl) (fun _ => rfl) (call_39 4) (by kernel_rfl) run_39
theorem smok_40 : ∀ f s, sm_40 f = some s → SummOK Try.prog f s := by
  intro f s h
  unfold sm_40 at h
  cases h
theorem call_40 {R : Type} (n base : Nat) : CallOK Try.prog base (evFn (R := R) sm_40 fns FU n) := ev_sound hm0 smok_40 (fun f s h => (smok_40 f s h).2.1) fns_ok n
theorem sok_40 : SummOK Try.prog 40 s_40 := summ_shN (by decide) (fun _ => rfl) (fun _ => rfl) (call_40 1) (by kernel_rfl) run_40
theorem smok_41 : ∀ f s, sm_41 f = some s → SummOK Try.prog f s := by
  intro f s h
  unfold sm_41 at h
  cases h
theorem call_41 {R : Type} (n base : Nat) : CallOK Try.prog base (evFn (R := R) sm_41 fns FU n) := ev_sound hm0 smok_41 (fun f s h => (smok_41 f s h).2.1) fns_ok n
theorem sok_41 : SummOK Try.prog 41 s_41 := summ_shN (by decide) (fun _ => rfl) (fun _ => rfl) (call_41 1) (by kernel_rfl) run_41
theorem smok_28 : ∀ f s, sm_28 f = some s → SummOK Try.prog f s := by
  intro f s h
  unfold sm_28 at h
  by_cases h27 : f = 27
  · subst h27
    injection h with h
    subst h
    exact sok_27
  rw [nbeq_ne h27, cond_false] at h
  by_cases h39 : f = 39
  · subst h39
    injection h with h
    subst h
    exact sok_39
  rw [nbeq_ne h39, cond_false] at h
  by_cases h40 : f = 40
  · subst h40
    injection h with h
    subst h
    exact sok_40
  rw [nbeq_ne h40, cond_false] at h
  by_cases h41 : f = 41
  · subst h41
    injection h with h
    subst h
    exact sok_41
  rw [nbeq_ne h41, cond_false] at h
  cases h
theorem call_28 {R : Type} (n base : Nat) : CallOK Try.prog base (evFn (R := R) sm_28 fns FU n) := ev_sound hm0 smok_28 (fun f s h => (smok_28 f s h).2.1) fns_ok n
theorem sok_28 : SummOK Try.prog 28 s_28 := summ_shN (by decide) (fun _ => rfl) (fun _ => rfl) (call_28 1) (by kernel_rfl) run_28
theorem smok_38 : ∀ f s, sm_38 f = some s → SummOK Try.prog f s := by
  intro f s h
  unfold sm_38 at h
  by_cases h27 : f = 27
  · subst h27
    injection h with h
    subst h
    exact sok_27
  rw [nbeq_ne h27, cond_false] at h
  cases h
theorem call_38 {R : Type} (n base : Nat) : CallOK Try.prog base (evFn (R := R) sm_38 fns FU n) := ev_sound hm0 smok_38 (fun f s h => (smok_38 f s h).2.1) fns_ok n
theorem sok_38 : SummOK Try.prog 38 s_38 := summ_shN (by decide) (fun _ => rfl) (fun _ => rfl) (call_38 1) (by kernel_rfl) run_38
theorem smok_10 : ∀ f s, sm_10 f = some s → SummOK Try.prog f s := by
  intro f s h
  unfold sm_10 at h
  by_cases h26 : f = 26
  · subst h26
    injection h with h
    subst h
    exact sok_26
  rw [nbeq_ne h26, cond_false] at h
  by_cases h27 : f = 27
  · subst h27
    injection h with h
    subst h
    exact sok_27
  rw [nbeq_ne h27, cond_false] at h
  by_cases h28 : f = 28
  · subst h28
    injection h with h
    subst h
    exact sok_28
  rw [nbeq_ne h28, cond_false] at h
  by_cases h38 : f = 38
  · subst h38
    injection h with h
    subst h
    exact sok_38
  rw [nbeq_ne h38, cond_false] at h
  cases h
theorem call_10 {R : Type} (n base : Nat) : CallOK Try.prog base (evFn (R := R) sm_10 fns FU n) := ev_sound hm0 smok_10 (fun f s h => (smok_10 f s h).2.1) fns_ok n
theorem sok_10 : SummOK Try.prog 10 s_10 := summ_shN (by decide) (fun _ => rfl) (fun _ => rfl) (call_10 4) (by kernel_rfl) run_10
theorem smok_31 : ∀ f s, sm_31 f = some s → SummOK Try.prog f s := by
  intro f s h
  unfold sm_31 at h
  cases h
theorem call_31 {R : Type} (n base : Nat) : CallOK Try.prog base (evFn (R := R) sm_31 fns FU n) := ev_sound hm0 smok_31 (fun f s h => (smok_31 f s h).2.1) fns_ok n
theorem sok_31 : SummOK Try.prog 31 s_31 := summ_shN (by decide) (fun _ => rfl) (fun _ => rfl) (call_31 1) (by kernel_rfl) run_31
theorem smok_15 : ∀ f s, sm_15 f = some s → SummOK Try.prog f s := by
  intro f s h
  unfold sm_15 at h
  by_cases h31 : f = 31
  · subst h31
    injection h with h
    subst h
    exact sok_31
  rw [nbeq_ne h31, cond_false] at h
  cases h
theorem call_15 {R : Type} (n base : Nat) : CallOK Try.prog base (evFn (R := R) sm_15 fns FU n) := ev_sound hm0 smok_15 (fun f s h => (smok_15 f s h).2.1) fns_ok n
theorem sok_15 : SummOK Try.prog 15 s_15 := summ_shN (by decide) (fun _ => rfl) (fun _ => rfl) (call_15 1) (by kernel_rfl) run_15
theorem smok_32 : ∀ f s, sm_32 f = some s → SummOK Try.prog f s := by
  intro f s h
  unfold sm_32 at h
  cases h
theorem call_32 {R : Type} (n base : Nat) : CallOK Try.prog base (evFn (R := R) sm_32 fns FU n) := ev_sound hm0 smok_32 (fun f s h => (smok_32 f s h).2.1) fns_ok n
theorem sok_32 : SummOK Try.prog 32 s_32 := summ_shN (by decide) (fun _ => rfl) (fun _ => rfl) (call_32 1) (by kernel_rfl) run_32
theorem smok_13 : ∀ f s, sm_13 f = some s → SummOK Try.prog f s := by
  intro f s h
  unfold sm_13 at h
  by_cases h15 : f = 15
  · subst h15
    injection h with h
    subst h
    exact sok_15
  rw [nbeq_ne h15, cond_false] at h
  by_cases h31 : f = 31
  · subst h31
    injection h with h
    subst h
    exact sok_31
  rw [nbeq_ne h31, cond_false] at h
  by_cases h32 : f = 32
  · subst h32
    injection h with h
    subst h
    exact sok_32
  rw [nbeq_ne h32, cond_false] at h
  cases h
theorem call_13 {R : Type} (n base : Nat) : CallOK Try.prog base (evFn (R := R) sm_13 fns FU n) := ev_sound hm0 smok_13 (fun f s h => (smok_13 f s h).2.1) fns_ok n
theorem sok_13 : SummOK Try.prog 13 s_13 := summ_shN (by decide) (fun _ => rfl) (fun _ => rfl) (call_13 1) (by kernel_rfl) run_13
theorem smok_16 : ∀ f s, sm_16 f = some s → SummOK Try.prog f s := by
  intro f s h
  unfold sm_16 at h
  by_cases h10 : f = 10
  · subst h10
    injection h with h
    subst h
    exact sok_10
  rw [nbeq_ne h10, cond_false] at h
  cases h
theorem call_16 {R : Type} (n base : Nat) : CallOK Try.prog base (evFn (R := R) sm_16 fns FU n) := ev_sound hm0 smok_16 (fun f s h => (smok_16 f s h).2.1) fns_ok n
theorem sok_16 : SummOK Try.prog 16 s_16 := summ_sh (fun _ => rfl) (fun _ => rfl) (call_16 1) (by kernel_rfl) run_16
theorem smok_19 : ∀ f s, sm_19 f = some s → SummOK Try.prog f s := by
  intro f s h
  unfold sm_19 at h
  by_cases h31 : f = 31
  · subst h31
    injection h with h
    subst h
    exact sok_31
  rw [nbeq_ne h31, cond_false] at h
  cases h
theorem call_19 {R : Type} (n base : Nat) : CallOK Try.prog base (evFn (R := R) sm_19 fns FU n) := ev_sound hm0 smok_19 (fun f s h => (smok_19 f s h).2.1) fns_ok n
theorem sok_19 : SummOK Try.prog 19 s_19 := summ_shN (by decide) (fun _ => rfl) (fun _ => rfl) (call_19 1) (by kernel_rfl) run_19
theorem smok_43 : ∀ f s, sm_43 f = some s → SummOK Try.prog f s := by
  intro f s h
  unfold sm_43 at h
  cases h
theorem call_43 {R : Type} (n base : Nat) : CallOK Try.prog base (evFn (R := R) sm_43 fns FU n) := ev_sound hm0 smok_43 (fun f s h => (smok_43 f s h).2.1) fns_ok n
theorem sok_43 : SummOK Try.prog 43 s_43 := summ_shN (by decide) (fun _ => rfl) (fun _ => rfl) (call_43 1) (by kernel_rfl) run_43
theorem smok_44 : ∀ f s, sm_44 f = some s → SummOK Try.prog f s := by
  intro f s h
  unfold sm_44 at h
  cases h
theorem call_44 {R : Type} (n base : Nat) : CallOK Try.prog base (evFn (R := R) sm_44 fns FU n) := ev_sound hm0 smok_44 (fun f s h => (smok_44 f s h).2.1) fns_ok n
theorem sok_44 : SummOK Try.prog 44 s_44 := summ_shN (by decide) (fun _ => rfl) (fun _ => rfl) (call_44 1) (by kernel_rfl) run_44
theorem smok_46 : ∀ f s, sm_46 f = some s → SummOK Try.prog f s := by
  intro f s h
  unfold sm_46 at h
  cases h
theorem call_46 {R : Type} (n base : Nat) : CallOK Try.prog base (evFn (R := R) sm_46 fns FU n) := ev_sound hm0 smok_46 (fun f s h => (smok_46 f s h).2.1) fns_ok n
theorem sok_46 : SummOK Try.prog 46 s_46 := summ_sh (fun _ => rfl) (fun _ => rfl) (call_46 1) (by kernel_rfl) run_46
theorem smok_56 : ∀ f s, sm_56 f = some s → SummOK Try.prog f s := by
  intro f s h
  unfold sm_56 at h
  cases h
theorem call_56 {R : Type} (n base : Nat) : CallOK Try.prog base (evFn (R := R) sm_56 fns FU n) := ev_sound hm0 smok_56 (fun f s h => (smok_56 f s h).2.1) fns_ok n
theorem sok_56 : SummOK Try.prog 56 s_56 := summ_sh (fun _ => rfl) (fun _ => rfl) (call_56 1) (by kernel_rfl) run_56
theorem smok_14 : ∀ f s, sm_14 f = some s → SummOK Try.prog f s := by
  intro f s h
  unfold sm_14 at h
  by_cases h10 : f = 10
  · subst h10
    injection h with h
    subst h
    exact sok_10
  rw [nbeq_ne h10, cond_false] at h
  by_cases h13 : f = 13
  · subst h13
    injection h with h
    subst h
    exact sok_13
  rw [nbeq_ne h13, cond_false] at h
  by_cases h15 : f = 15
  · subst h15
    injection h with h
    subst h
    exact sok_15
  rw [nbeq_ne h15, cond_false] at h
  by_cases h16 : f = 16
  · subst h16
    injection h with h
    subst h
    exact sok_16
  rw [nbeq_ne h16, cond_false] at h
  by_cases h19 : f = 19
  · subst h19
    injection h with h
    subst h
    exact sok_19
  rw [nbeq_ne h19, cond_false] at h
  by_cases h31 : f = 31
  · subst h31
    injection h with h
    subst h
    exact sok_31
  rw [nbeq_ne h31, cond_false] at h
  by_cases h32 : f = 32
  · subst h32
    injection h with h
    subst h
    exact sok_32
  rw [nbeq_ne h32, cond_false] at h
  by_cases h43 : f = 43
  · subst h43
    injection h with h
    subst h
    exact sok_43
  rw [nbeq_ne h43, cond_false] at h
  by_cases h44 : f = 44
  · subst h44
    injection h with h
    subst h
    exact sok_44
  rw [nbeq_ne h44, cond_false] at h
  by_cases h46 : f = 46
  · subst h46
    injection h with h
    subst h
    exact sok_46
  rw [nbeq_ne h46, cond_false] at h
  by_cases h56 : f = 56
  · subst h56
    injection h with h
    subst h
    exact sok_56
  rw [nbeq_ne h56, cond_false] at h
  cases h
theorem call_14 {R : Type} (n base : Nat) : CallOK Try.prog base (evFn (R := R) sm_14 fns FU n) := ev_sound hm0 smok_14 (fun f s h => (smok_14 f s h).2.1) fns_ok n
theorem sok_14 : SummOK Try.prog 14 s_14 := summ_sh (fun _ => rfl) (fun _ => rfl) (call_14 3) (by kernel_rfl) run_14
theorem smok_18 : ∀ f s, sm_18 f = some s → SummOK Try.prog f s := by
  intro f s h
  unfold sm_18 at h
  cases h
theorem call_18 {R : Type} (n base : Nat) : CallOK Try.prog base (evFn (R := R) sm_18 fns FU n) := ev_sound hm0 smok_18 (fun f s h => (smok_18 f s h).2.1) fns_ok n
theorem sok_18 : SummOK Try.prog 18 s_18 := summ_shN (by decide) (fun _ => rfl) (fun _ => rfl) (call_18 1) (by kernel_rfl) run_18
theorem smok_8 : ∀ f s, sm_8 f = some s → SummOK Try.prog f s := by
  intro f s h
  unfold sm_8 at h
  by_cases h12 : f = 12
  · subst h12
    injection h with h
    subst h
    exact sok_12
  rw [nbeq_ne h12, cond_false] at h
  by_cases h14 : f = 14
  · subst h14
    injection h with h
    subst h
    exact sok_14
  rw [nbeq_ne h14, cond_false] at h
  by_cases h18 : f = 18
  · subst h18
    injection h with h
    subst h
    exact sok_18
  rw [nbeq_ne h18, cond_false] at h
  cases h
theorem call_8 {R : Type} (n base : Nat) : CallOK Try.prog base (evFn (R := R) sm_8 fns FU n) := ev_sound hm0 smok_8 (fun f s h => (smok_8 f s h).2.1) fns_ok n
theorem sok_8 : SummOK Try.prog 8 s_8 := summ_shN (by decide) (fun _ => rfl) (fun _ => rfl) (call_8 1) (by kernel_rfl) run_8
theorem smok_9 : ∀ f s, sm_9 f = some s → SummOK Try.prog f s := by
  intro f s h
  unfold sm_9 at h
  cases h
theorem call_9 {R : Type} (n base : Nat) : CallOK Try.prog base (evFn (R := R) sm_9 fns FU n) := ev_sound hm0 smok_9 (fun f s h => (smok_9 f s h).2.1) fns_ok n
theorem sok_9 : SummOK Try.prog 9 s_9 := summ_shN (by decide) (fun _ => rfl) (fun _ => rfl) (call_9 4) (by kernel_rfl) run_9
theorem smok_11 : ∀ f s, sm_11 f = some s → SummOK Try.prog f s := by
  intro f s h
  unfold sm_11 at h
  cases h
theorem call_11 {R : Type} (n base : Nat) : CallOK Try.prog base (evFn (R := R) sm_11 fns FU n) := ev_sound hm0 smok_11 (fun f s h => (smok_11 f s h).2.1) fns_ok n
theorem sok_11 : SummOK Try.prog 11 s_11 := summ_shN (by decide) (fun _ => rfl) (fun _ => rfl) (call_11 4) (by kernel_rfl) run_11
theorem smok_52 : ∀ f s, sm_52 f = some s → SummOK Try.prog f s := by
  intro f s h
  unfold sm_52 at h
  cases h
theorem call_52 {R : Type} (n base : Nat) : CallOK Try.prog base (evFn (R := R) sm_52 fns FU n) := ev_sound hm0 smok_52 (fun f s h => (smok_52 f s h).2.1) fns_ok n
theorem sok_52 : SummOK Try.prog 52 s_52 := summ_shN (by decide) (fun _ => rfl) (fun _ => rfl) (call_52 1) (by kernel_rfl) run_52
theorem smok_34 : ∀ f s, sm_34 f = some s → SummOK Try.prog f s := by
  intro f s h
  unfold sm_34 at h
  by_cases h52 : f = 52
  · subst h52
    injection h with h
    subst h
    exact sok_52
  rw [nbeq_ne h52, cond_false] at h
  cases h
theorem call_34 {R : Type} (n base : Nat) : CallOK Try.prog base (evFn (R := R) sm_34 fns FU n) := ev_sound hm0 smok_34 (fun f s h => (smok_34 f s h).2.1) fns_ok n
theorem sok_34 : SummOK Try.prog 34 s_34 := summ_shN (by decide) (fun _ => rfl) (fun _ => rfl) (call_34 1) (by kernel_rfl) run_34
theorem smok_17 : ∀ f s, sm_17 f = some s → SummOK Try.prog f s := by
  intro f s h
  unfold sm_17 at h
  by_cases h34 : f = 34
  · subst h34
    injection h with h
    subst h
    exact sok_34
  rw [nbeq_ne h34, cond_false] at h
  cases h
theorem call_17 {R : Type} (n base : Nat) : CallOK Try.prog base (evFn (R := R) sm_17 fns FU n) := ev_sound hm0 smok_17 (fun f s h => (smok_17 f s h).2.1) fns_ok n
theorem sok_17 : SummOK Try.prog 17 s_17 := summ_shN (by decide) (fun _ => rfl) (fun _ => rfl) (call_17 1) (by kernel_rfl) run_17
theorem smok_3 : ∀ f s, sm_3 f = some s → SummOK Try.prog f s := by
  intro f s h
  unfold sm_3 at h
  by_cases h8 : f = 8
  · subst h8
    injection h with h
    subst h
    exact sok_8
  rw [nbeq_ne h8, cond_false] at h
  by_cases h9 : f = 9
  · subst h9
    injection h with h
    subst h
    exact sok_9
  rw [nbeq_ne h9, cond_false] at h
  by_cases h10 : f = 10
  · subst h10
    injection h with h
    subst h
    exact sok_10
  rw [nbeq_ne h10, cond_false] at h
  by_cases h11 : f = 11
  · subst h11
    injection h with h
    subst h
    exact sok_11
  rw [nbeq_ne h11, cond_false] at h
  by_cases h12 : f = 12
  · subst h12
    injection h with h
    subst h
    exact sok_12
  rw [nbeq_ne h12, cond_false] at h
  by_cases h13 : f = 13
  · subst h13
    injection h with h
    subst h
    exact sok_13
  rw [nbeq_ne h13, cond_false] at h
  by_cases h14 : f = 14
  · subst h14
    injection h with h
    subst h
    exact sok_14
  rw [nbeq_ne h14, cond_false] at h
  by_cases h15 : f = 15
  · subst h15
    injection h with h
    subst h
    exact sok_15
  rw [nbeq_ne h15, cond_false] at h
  by_cases h16 : f = 16
  · subst h16
    injection h with h
    subst h
    exact sok_16
  rw [nbeq_ne h16, cond_false] at h
  by_cases h17 : f = 17
  · subst h17
    injection h with h
    subst h
    exact sok_17
  rw [nbeq_ne h17, cond_false] at h
  cases h
theorem call_3 {R : Type} (n base : Nat) : CallOK Try.prog base (evFn (R := R) sm_3 fns FU n) := ev_sound hm0 smok_3 (fun f s h => (smok_3 f s h).2.1) fns_ok n
end Go.Ev
