/- Helpers: functions of the program as Lean functions, and what they compute. No condition. -/
import Derived.Test.YtfofdehkgkjbbaaE6P2
import Derived.Test.YtfofdehkgkjbbaaG6P0
set_option maxRecDepth 10000
set_option linter.unusedVariables false
set_option linter.unusedSimpArgs false
open Go.IntKind (wrap i64 i32 i16 i8 u64 u32 u16 u8)
open List (getD length take drop replicate)
open Int (toNat)
open Go.Ev.Sp
namespace Go.Ev
open Go
set_option maxRecDepth 100000
set_option maxHeartbeats 4000000
set_option linter.unusedVariables false
noncomputable section
abbrev Zt81_0 : Type := List (List Int)
abbrev Zy81_1 : Ty := (Ty.arr (32 : Nat) (Ty.int u8))
abbrev Zy81_2 : Ty := (.pair (.int .i64) (.pair (.slice (.arr 32 (.int .u8))) (.pair (.slice (.arr 32 (.int .u8))) .unit)))
noncomputable def sm_81 : Nat → Option Summ := fun f => none
noncomputable def T_81_1 (p0 : List Int) (p1 p2 p3 p4 : Int) (p5 p6 : Zt81_0) (p7 : Int) (p8 p9 : Zt81_0) (p10 : List Int) : St := St.mk ([CV.pure (Ty.slice (Ty.int u32)) p0, jk, CV.ptr 0 [], jk, CV.ptr 3 [], CV.int i64 p1, CV.ptr 6 []] ++ (jl 16 ++ ([CV.int i64 p2, jk, jk, CV.int i64 p3] ++ (jl 31)))) [Blk.mem (CV.pair (CV.int i64 p4) (CV.pair (CV.whole 1) (CV.pair (CV.whole 2) (CV.pure Ty.unit PUnit.unit)))), Blk.vec 27 Zy81_1 p5, Blk.vec 27 Zy81_1 p6, Blk.mem (CV.pair (CV.int i64 p7) (CV.pair (CV.whole 4) (CV.pair (CV.whole 5) (CV.pure Ty.unit PUnit.unit)))), Blk.vec 27 Zy81_1 p8, Blk.vec 27 Zy81_1 p9, Blk.mem (CV.pure Zy81_1 p10)] 0
noncomputable def X_81_1_0 (p0 : List Int) (p1 p2 p4 : Int) (p5 p6 : Zt81_0) (p7 : Int) (p8 p9 : Zt81_0) (p10 : List Int) : St := St.mk ([CV.pure (Ty.slice (Ty.int u32)) p0, jk, CV.ptr 0 [], jk, CV.ptr 3 [], CV.int i64 p1, CV.ptr 6 []] ++ (jl 16 ++ ([CV.int i64 p2] ++ (jl 34)))) [Blk.mem (CV.pair (CV.int i64 p4) (CV.pair (CV.whole 1) (CV.pair (CV.whole 2) (CV.pure Ty.unit PUnit.unit)))), Blk.vec 27 Zy81_1 p5, Blk.vec 27 Zy81_1 p6, Blk.mem (CV.pair (CV.int i64 p7) (CV.pair (CV.whole 4) (CV.pair (CV.whole 5) (CV.pure Ty.unit PUnit.unit)))), Blk.vec 27 Zy81_1 p8, Blk.vec 27 Zy81_1 p9, Blk.mem (CV.pure Zy81_1 p10)] 0
inductive Sp.E_81_1 where
 | e0 (p0 : List Int) (p1 p2 p4 : Int) (p5 p6 : Zt81_0) (p7 : Int) (p8 p9 : Zt81_0) (p10 : List Int)
noncomputable def Sp.B_81_1 {R : Type} (r : Option E_81_1) (k0 : List Int → Int → Int → Int → Zt81_0 → Zt81_0 → Int → Zt81_0 → Zt81_0 → List Int → Option R) : Option R := match r with
 | none => none
 | some (.e0 p0 p1 p2 p4 p5 p6 p7 p8 p9 p10) => k0 p0 p1 p2 p4 p5 p6 p7 p8 p9 p10
noncomputable def Sp.L_81_1 : Nat → List Int → Int → Int → Int → Int → List (List Int) → List (List Int) → Int → List (List Int) → List (List Int) → List Int → Option E_81_1
 | 0, _, _, _, _, _, _, _, _, _, _, _ => none
 | m + 1, p0, p1, p2, p3, p4, p5, p6, p7, p8, p9, p10 => bif decide (p3 < 8) then gd (sl3 (wrap i64 (4 * p3)) 32 32) (gd (inB (wrap i64 (wrap i64 (1 + wrap i64 (8 * p1)) + p3)) (length p0)) (gd (inB 0 (32 - toNat (wrap i64 (4 * p3)))) (gd (decide (toNat (wrap i64 (4 * p3)) + (0 :Nat) < (32 :Nat)) && true) (gd (inB 1 (32 - toNat (wrap i64 (4 * p3)))) (gd (decide (toNat (wrap i64 (4 * p3)) + (1 :Nat) < (32 :Nat)) && true) (gd (inB 2 (32 - toNat (wrap i64 (4 * p3)))) (gd (decide (toNat (wrap i64 (4 * p3)) + (2 :Nat) < (32 :Nat)) && true) (gd (inB 3 (32 - toNat (wrap i64 (4 * p3)))) (gd (decide (toNat (wrap i64 (4 * p3)) + (3 :Nat) < (32 :Nat)) && true) (L_81_1 m p0 p1 p2 (wrap i64 (p3 + 1)) p4 p5 p6 p7 p8 p9 (List.set (List.set (List.set (List.set p10 (toNat (wrap i64 (4 * p3)) + 0) (wrap u8 (Int.fdiv (getD p0 (toNat (wrap i64 (wrap i64 (1 + wrap i64 (8 * p1)) + p3))) 0) 16777216))) (toNat (wrap i64 (4 * p3)) + 1) (wrap u8 (Int.fdiv (getD p0 (toNat (wrap i64 (wrap i64 (1 + wrap i64 (8 * p1)) + p3))) 0) 65536))) (toNat (wrap i64 (4 * p3)) + 2) (wrap u8 (Int.fdiv (getD p0 (toNat (wrap i64 (wrap i64 (1 + wrap i64 (8 * p1)) + p3))) 0) 256))) (toNat (wrap i64 (4 * p3)) + 3) (wrap u8 (getD p0 (toNat (wrap i64 (wrap i64 (1 + wrap i64 (8 * p1)) + p3))) 0))))))))))))) else some (E_81_1.e0 p0 p1 p2 p4 p5 p6 p7 p8 p9 p10)
noncomputable def G_81_1 {R : Type} (p0 : List Int) (p1 p2 p3 p4 : Int) (p5 p6 : Zt81_0) (p7 : Int) (p8 p9 : Zt81_0) (p10 : List Int) (k : Ex → St → Option R) : Option R := B_81_1 (L_81_1 FU p0 p1 p2 p3 p4 p5 p6 p7 p8 p9 p10) (fun p0 p1 p2 p4 p5 p6 p7 p8 p9 p10 => k (Ex.exit 2) (X_81_1_0 p0 p1 p2 p4 p5 p6 p7 p8 p9 p10))
noncomputable def o_81_1 {R : Type} (G : List Int → Int → Int → Int → Int → Zt81_0 → Zt81_0 → Int → Zt81_0 → Zt81_0 → List Int → (Ex → St → Option R) → Option R) : St → (Ex → St → Option R) → Option R := fun T k => match T.sl.getD 0 .junk, T.sl.getD 2 .junk, T.sl.getD 4 .junk, T.sl.getD 5 .junk, T.sl.getD 6 .junk, T.sl.getD 23 .junk, T.sl.getD 26 .junk, T.hp with
 | CV.pure (Ty.slice (Ty.int u32)) p0, CV.ptr 0 [], CV.ptr 3 [], CV.int i64 p1, CV.ptr 6 [], CV.int i64 p2, CV.int i64 p3, ((Blk.mem (CV.pair (CV.int i64 p4) (CV.pair (CV.whole 1) (CV.pair (CV.whole 2) (CV.pure Ty.unit PUnit.unit))))) :: (Blk.vec 27 (Ty.arr 32 (Ty.int u8)) p5) :: (Blk.vec 27 (Ty.arr 32 (Ty.int u8)) p6) :: (Blk.mem (CV.pair (CV.int i64 p7) (CV.pair (CV.whole 4) (CV.pair (CV.whole 5) (CV.pure Ty.unit PUnit.unit))))) :: (Blk.vec 27 (Ty.arr 32 (Ty.int u8)) p8) :: (Blk.vec 27 (Ty.arr 32 (Ty.int u8)) p9) :: (Blk.mem (CV.pure (Ty.arr 32 (Ty.int u8)) p10)) :: []) => gd (shapeOK T 58 [0, 2, 4, 5, 6, 23, 26] 0) (G p0 p1 p2 p3 p4 p5 p6 p7 p8 p9 p10 k)
 | _, _, _, _, _, _, _, _ => none
theorem o_81_1_inv {R : Type} {G : List Int → Int → Int → Int → Int → Zt81_0 → Zt81_0 → Int → Zt81_0 → Zt81_0 → List Int → (Ex → St → Option R) → Option R} {T : St} {k : Ex → St → Option R} {r : R} (h : o_81_1 G T k = some r) : ∃ p0 p1 p2 p3 p4 p5 p6 p7 p8 p9 p10, T = T_81_1 p0 p1 p2 p3 p4 p5 p6 p7 p8 p9 p10 ∧ G p0 p1 p2 p3 p4 p5 p6 p7 p8 p9 p10 k = some r := by
 unfold o_81_1 at h
 split at h
 · obtain ⟨hs, h'⟩ := gd_some h
   refine ⟨_, _, _, _, _, _, _, _, _, _, _, (st_of (asg := [(0, _), (2, _), (4, _), (5, _), (6, _), (23, _), (26, _)]) hs ⟨by assumption, by assumption, by assumption, by assumption, by assumption, by assumption, by assumption, trivial⟩ (by assumption)).trans ?_, h'⟩
   kernel_rfl
 · cases h
noncomputable def T_81_0 (p0 : List Int) (p1 p2 : Int) (p3 p4 : Zt81_0) (p5 : Int) (p6 p7 : Zt81_0) : St := St.mk ([CV.pure (Ty.slice (Ty.int u32)) p0, jk, CV.ptr 0 [], jk, CV.ptr 3 []] ++ (jl 18 ++ ([CV.int i64 p1] ++ (jl 34)))) [Blk.mem (CV.pair (CV.int i64 p2) (CV.pair (CV.whole 1) (CV.pair (CV.whole 2) (CV.pure Ty.unit PUnit.unit)))), Blk.vec 27 Zy81_1 p3, Blk.vec 27 Zy81_1 p4, Blk.mem (CV.pair (CV.int i64 p5) (CV.pair (CV.whole 4) (CV.pair (CV.whole 5) (CV.pure Ty.unit PUnit.unit)))), Blk.vec 27 Zy81_1 p6, Blk.vec 27 Zy81_1 p7] 0
noncomputable def X_81_0_0 (p2 : Int) (p3 p4 : Zt81_0) (p5 : Int) (p6 p7 : Zt81_0) : St := St.mk ([jk, jk, CV.ptr 0 [], jk, CV.ptr 3 []] ++ (jl 53)) [Blk.mem (CV.pair (CV.int i64 p2) (CV.pair (CV.whole 1) (CV.pair (CV.whole 2) (CV.pure Ty.unit PUnit.unit)))), Blk.vec 27 Zy81_1 p3, Blk.vec 27 Zy81_1 p4, Blk.mem (CV.pair (CV.int i64 p5) (CV.pair (CV.whole 4) (CV.pair (CV.whole 5) (CV.pure Ty.unit PUnit.unit)))), Blk.vec 27 Zy81_1 p6, Blk.vec 27 Zy81_1 p7] 0
inductive Sp.E_81_0 where
 | e0 (p2 : Int) (p3 p4 : Zt81_0) (p5 : Int) (p6 p7 : Zt81_0)
noncomputable def Sp.B_81_0 {R : Type} (r : Option E_81_0) (k0 : Int → Zt81_0 → Zt81_0 → Int → Zt81_0 → Zt81_0 → Option R) : Option R := match r with
 | none => none
 | some (.e0 p2 p3 p4 p5 p6 p7) => k0 p2 p3 p4 p5 p6 p7
noncomputable def Sp.L_81_0 : Nat → List Int → Int → Int → List (List Int) → List (List Int) → Int → List (List Int) → List (List Int) → Option E_81_0
 | 0, _, _, _, _, _, _, _, _ => none
 | m + 1, p0, p1, p2, p3, p4, p5, p6, p7 => bif decide (p1 < 69) then B_81_1 (L_81_1 4611686018427387904 p0 p1 p1 0 p2 p3 p4 p5 p6 p7 (replicate 32 (0 :Int))) fun y10 y11 y12 y13 y14 y15 y16 y17 y18 y19 => bif decide (y11 < 67) then gd (room (length y17 + 1) 32) (L_81_0 m y10 (wrap i64 (y12 + 1)) y13 y14 y15 y16 (y17 ++ [y19]) y18) else gd (room (length y18 + 1) 32) (L_81_0 m y10 (wrap i64 (y12 + 1)) y13 y14 y15 y16 y17 (y18 ++ [y19])) else some (E_81_0.e0 p2 p3 p4 p5 p6 p7)
noncomputable def G_81_0 {R : Type} (p0 : List Int) (p1 p2 : Int) (p3 p4 : Zt81_0) (p5 : Int) (p6 p7 : Zt81_0) (k : Ex → St → Option R) : Option R := B_81_0 (L_81_0 FU p0 p1 p2 p3 p4 p5 p6 p7) (fun p2 p3 p4 p5 p6 p7 => k (Ex.exit 0) (X_81_0_0 p2 p3 p4 p5 p6 p7))
noncomputable def o_81_0 {R : Type} (G : List Int → Int → Int → Zt81_0 → Zt81_0 → Int → Zt81_0 → Zt81_0 → (Ex → St → Option R) → Option R) : St → (Ex → St → Option R) → Option R := fun T k => match T.sl.getD 0 .junk, T.sl.getD 2 .junk, T.sl.getD 4 .junk, T.sl.getD 23 .junk, T.hp with
 | CV.pure (Ty.slice (Ty.int u32)) p0, CV.ptr 0 [], CV.ptr 3 [], CV.int i64 p1, ((Blk.mem (CV.pair (CV.int i64 p2) (CV.pair (CV.whole 1) (CV.pair (CV.whole 2) (CV.pure Ty.unit PUnit.unit))))) :: (Blk.vec 27 (Ty.arr 32 (Ty.int u8)) p3) :: (Blk.vec 27 (Ty.arr 32 (Ty.int u8)) p4) :: (Blk.mem (CV.pair (CV.int i64 p5) (CV.pair (CV.whole 4) (CV.pair (CV.whole 5) (CV.pure Ty.unit PUnit.unit))))) :: (Blk.vec 27 (Ty.arr 32 (Ty.int u8)) p6) :: (Blk.vec 27 (Ty.arr 32 (Ty.int u8)) p7) :: []) => gd (shapeOK T 58 [0, 2, 4, 23] 0) (G p0 p1 p2 p3 p4 p5 p6 p7 k)
 | _, _, _, _, _ => none
theorem o_81_0_inv {R : Type} {G : List Int → Int → Int → Zt81_0 → Zt81_0 → Int → Zt81_0 → Zt81_0 → (Ex → St → Option R) → Option R} {T : St} {k : Ex → St → Option R} {r : R} (h : o_81_0 G T k = some r) : ∃ p0 p1 p2 p3 p4 p5 p6 p7, T = T_81_0 p0 p1 p2 p3 p4 p5 p6 p7 ∧ G p0 p1 p2 p3 p4 p5 p6 p7 k = some r := by
 unfold o_81_0 at h
 split at h
 · obtain ⟨hs, h'⟩ := gd_some h
   refine ⟨_, _, _, _, _, _, _, _, (st_of (asg := [(0, _), (2, _), (4, _), (23, _)]) hs ⟨by assumption, by assumption, by assumption, by assumption, trivial⟩ (by assumption)).trans ?_, h'⟩
   kernel_rfl
 · cases h
noncomputable def O_81_81_1 {R : Type} : St → (Ex → St → Option R) → Option R := fun T k => o_81_1 G_81_1 T k
noncomputable def O_81_81_0 {R : Type} : St → (Ex → St → Option R) → Option R := fun T k => o_81_0 G_81_0 T k
theorem body_81_1 {R : Type} (K0 : St → Option R) (K1 : Ex → St → Option R) (p0 : List Int) (p1 p2 p3 p4 : Int) (p5 p6 : Zt81_0) (p7 : Int) (p8 p9 : Zt81_0) (p10 : List Int) : evLB (evCodeL sm_81 FU (ovr noO (evFn sm_81 fns FU 1)) .nil ir81_b1) (St.norm ir81_v1) (T_81_1 p0 p1 p2 p3 p4 p5 p6 p7 p8 p9 p10) K0 K1 =
 bif decide (p3 < 8) then gd (sl3 (wrap i64 (4 * p3)) 32 32) (gd (inB (wrap i64 (wrap i64 (1 + wrap i64 (8 * p1)) + p3)) (length p0)) (gd (inB 0 (32 - toNat (wrap i64 (4 * p3)))) (gd (decide (toNat (wrap i64 (4 * p3)) + (0 :Nat) < (32 :Nat)) && true) (gd (inB 1 (32 - toNat (wrap i64 (4 * p3)))) (gd (decide (toNat (wrap i64 (4 * p3)) + (1 :Nat) < (32 :Nat)) && true) (gd (inB 2 (32 - toNat (wrap i64 (4 * p3)))) (gd (decide (toNat (wrap i64 (4 * p3)) + (2 :Nat) < (32 :Nat)) && true) (gd (inB 3 (32 - toNat (wrap i64 (4 * p3)))) (gd (decide (toNat (wrap i64 (4 * p3)) + (3 :Nat) < (32 :Nat)) && true) (K0 (T_81_1 p0 p1 p2 (wrap i64 (p3 + 1)) p4 p5 p6 p7 p8 p9 (List.set (List.set (List.set (List.set p10 (toNat (wrap i64 (4 * p3)) + 0) (wrap u8 (Int.fdiv (getD p0 (toNat (wrap i64 (wrap i64 (1 + wrap i64 (8 * p1)) + p3))) 0) 16777216))) (toNat (wrap i64 (4 * p3)) + 1) (wrap u8 (Int.fdiv (getD p0 (toNat (wrap i64 (wrap i64 (1 + wrap i64 (8 * p1)) + p3))) 0) 65536))) (toNat (wrap i64 (4 * p3)) + 2) (wrap u8 (Int.fdiv (getD p0 (toNat (wrap i64 (wrap i64 (1 + wrap i64 (8 * p1)) + p3))) 0) 256))) (toNat (wrap i64 (4 * p3)) + 3) (wrap u8 (getD p0 (toNat (wrap i64 (wrap i64 (1 + wrap i64 (8 * p1)) + p3))) 0)))))))))))))) else K1 (Ex.exit 2) (X_81_1_0 p0 p1 p2 p4 p5 p6 p7 p8 p9 p10) := by kernel_rfl
theorem Bgd_81_1 {R : Type} {c : Bool} {x : Option R} {y : Option E_81_1} {k0 : List Int → Int → Int → Int → Zt81_0 → Zt81_0 → Int → Zt81_0 → Zt81_0 → List Int → Option R} (h : x = B_81_1 y k0) : gd c x = B_81_1 (gd c y) k0 := by cases c; rfl; exact h
theorem Bcond_81_1 {R : Type} {c : Bool} {x x' : Option R} {y y' : Option E_81_1} {k0 : List Int → Int → Int → Int → Zt81_0 → Zt81_0 → Int → Zt81_0 → Zt81_0 → List Int → Option R} (h : x = B_81_1 y k0) (h' : x' = B_81_1 y' k0) : (bif c then x else x') = B_81_1 (bif c then y else y') k0 := by cases c; exact h'; exact h
theorem loop_81_1 {R : Type} (k : Ex → St → Option R) : ∀ (m : Nat) (p0 : List Int) (p1 : Int) (p2 : Int) (p3 : Int) (p4 : Int) (p5 : Zt81_0) (p6 : Zt81_0) (p7 : Int) (p8 : Zt81_0) (p9 : Zt81_0) (p10 : List Int), evLoopN (evCodeL sm_81 FU (ovr noO (evFn sm_81 fns FU 1)) .nil ir81_b1) (St.norm ir81_v1) m (T_81_1 p0 p1 p2 p3 p4 p5 p6 p7 p8 p9 p10) k = B_81_1 (L_81_1 m p0 p1 p2 p3 p4 p5 p6 p7 p8 p9 p10) (fun p0 p1 p2 p4 p5 p6 p7 p8 p9 p10 => k (Ex.exit (2 : Nat)) (X_81_1_0 p0 p1 p2 p4 p5 p6 p7 p8 p9 p10))
 | 0, _, _, _, _, _, _, _, _, _, _, _ => rfl
 | m + 1, p0, p1, p2, p3, p4, p5, p6, p7, p8, p9, p10 => by
   rw [evLoopN_succ, body_81_1, L_81_1]
   repeat' first | apply Bgd_81_1 | apply Bcond_81_1 | exact loop_81_1 k m _ _ _ _ _ _ _ _ _ _ _ | rfl
theorem ok_81_1 {R : Type} (T : St) (k : Ex → St → Option R) (r : R) (h0 : o_81_1 G_81_1 T k = some r) : evLoopN (evCode sm_81 FU (evFn sm_81 fns FU 1) ir81_b1) (St.norm ir81_v1) FU T k = some r := by
 obtain ⟨p0, p1, p2, p3, p4, p5, p6, p7, p8, p9, p10, rfl, h⟩ := o_81_1_inv h0
 refine evLoopN_L (t := .nil) noO_ok trivial _ _ _ _ ?_
 rw [loop_81_1]
 exact h
theorem OK_81_81_1 {R : Type} (T : St) (k : Ex → St → Option R) (r : R) (h : O_81_81_1 T k = some r) : evLoopN (evCode sm_81 FU (evFn sm_81 fns FU 1) ir81_b1) (St.norm ir81_v1) FU T k = some r := ok_81_1 T k r h
theorem body_81_0 {R : Type} (K0 : St → Option R) (K1 : Ex → St → Option R) (p0 : List Int) (p1 p2 : Int) (p3 p4 : Zt81_0) (p5 : Int) (p6 p7 : Zt81_0) : evLB (evCodeL sm_81 FU (ovr noO (evFn sm_81 fns FU 1)) (ir81_bt0 O_81_81_1) ir81_b0) (St.norm ir81_v0) (T_81_0 p0 p1 p2 p3 p4 p5 p6 p7) K0 K1 =
 bif decide (p1 < 69) then B_81_1 (L_81_1 4611686018427387904 p0 p1 p1 0 p2 p3 p4 p5 p6 p7 (replicate 32 (0 :Int))) fun y10 y11 y12 y13 y14 y15 y16 y17 y18 y19 => bif decide (y11 < 67) then gd (room (length y17 + 1) 32) (K0 (T_81_0 y10 (wrap i64 (y12 + 1)) y13 y14 y15 y16 (y17 ++ [y19]) y18)) else gd (room (length y18 + 1) 32) (K0 (T_81_0 y10 (wrap i64 (y12 + 1)) y13 y14 y15 y16 y17 (y18 ++ [y19]))) else K1 (Ex.exit 0) (X_81_0_0 p2 p3 p4 p5 p6 p7) := by kernel_rfl
theorem Bgd_81_0 {R : Type} {c : Bool} {x : Option R} {y : Option E_81_0} {k0 : Int → Zt81_0 → Zt81_0 → Int → Zt81_0 → Zt81_0 → Option R} (h : x = B_81_0 y k0) : gd c x = B_81_0 (gd c y) k0 := by cases c; rfl; exact h
theorem Bcond_81_0 {R : Type} {c : Bool} {x x' : Option R} {y y' : Option E_81_0} {k0 : Int → Zt81_0 → Zt81_0 → Int → Zt81_0 → Zt81_0 → Option R} (h : x = B_81_0 y k0) (h' : x' = B_81_0 y' k0) : (bif c then x else x') = B_81_0 (bif c then y else y') k0 := by cases c; exact h'; exact h
theorem Bin_81_0_81_1 {R : Type} {r : Option E_81_1} {k0 : Int → Zt81_0 → Zt81_0 → Int → Zt81_0 → Zt81_0 → Option R} {f0 : List Int → Int → Int → Int → Zt81_0 → Zt81_0 → Int → Zt81_0 → Zt81_0 → List Int → Option R} {g0 : List Int → Int → Int → Int → Zt81_0 → Zt81_0 → Int → Zt81_0 → Zt81_0 → List Int → Option E_81_0} (h0 : ∀ z0 z1 z2 z3 z4 z5 z6 z7 z8 z9, f0 z0 z1 z2 z3 z4 z5 z6 z7 z8 z9 = B_81_0 (g0 z0 z1 z2 z3 z4 z5 z6 z7 z8 z9) k0) : B_81_1 r f0 = B_81_0 (B_81_1 r g0) k0 := by
 cases r with
 | none => rfl
 | some e => cases e with
   | e0 z0 z1 z2 z3 z4 z5 z6 z7 z8 z9 => exact h0 _ _ _ _ _ _ _ _ _ _
theorem loop_81_0 {R : Type} (k : Ex → St → Option R) : ∀ (m : Nat) (p0 : List Int) (p1 : Int) (p2 : Int) (p3 : Zt81_0) (p4 : Zt81_0) (p5 : Int) (p6 : Zt81_0) (p7 : Zt81_0), evLoopN (evCodeL sm_81 FU (ovr noO (evFn sm_81 fns FU 1)) (ir81_bt0 O_81_81_1) ir81_b0) (St.norm ir81_v0) m (T_81_0 p0 p1 p2 p3 p4 p5 p6 p7) k = B_81_0 (L_81_0 m p0 p1 p2 p3 p4 p5 p6 p7) (fun p2 p3 p4 p5 p6 p7 => k (Ex.exit (0 : Nat)) (X_81_0_0 p2 p3 p4 p5 p6 p7))
 | 0, _, _, _, _, _, _, _, _ => rfl
 | m + 1, p0, p1, p2, p3, p4, p5, p6, p7 => by
   rw [evLoopN_succ, body_81_0, L_81_0]
   repeat' first | apply Bgd_81_0 | apply Bcond_81_0 | (apply Bin_81_0_81_1 <;> intros) | exact loop_81_0 k m _ _ _ _ _ _ _ _ | rfl
theorem ok_81_0 {R : Type} (T : St) (k : Ex → St → Option R) (r : R) (h0 : o_81_0 G_81_0 T k = some r) : evLoopN (evCode sm_81 FU (evFn sm_81 fns FU 1) ir81_b0) (St.norm ir81_v0) FU T k = some r := by
 obtain ⟨p0, p1, p2, p3, p4, p5, p6, p7, rfl, h⟩ := o_81_0_inv h0
 refine evLoopN_L (t := (ir81_bt0 O_81_81_1)) noO_ok (ir81_bt0ok (fun T k r => OK_81_81_1 T k r)) _ _ _ _ ?_
 rw [loop_81_0]
 exact h
theorem OK_81_81_0 {R : Type} (T : St) (k : Ex → St → Option R) (r : R) (h : O_81_81_0 T k = some r) : evLoopN (evCode sm_81 FU (evFn sm_81 fns FU 1) ir81_b0) (St.norm ir81_v0) FU T k = some r := ok_81_0 T k r h
noncomputable def F_81 (a0 : (List Int)) : Option ((Int × ((List (List Int)) × ((List (List Int)) × Unit))) × Int × Unit) :=
 bif (↑(length a0) : Int) != 553 then some ((0, [], [], PUnit.unit), 3, PUnit.unit) else gd (inB 0 (length a0)) (bif decide (getD a0 0 (0 :Int) ≥ (4 :Int)) then some ((0, [], [], PUnit.unit), 3, PUnit.unit) else gd (inB 0 (length a0)) (B_81_0 (L_81_0 4611686018427387904 a0 0 0 [] [] (wrap i64 (getD a0 0 0)) [] []) fun y6 y7 y8 y9 y10 y11 => some ((y9, y10, y11, PUnit.unit), 0, PUnit.unit)))
theorem fn_81 (a0 : (List Int)) : evFnL sm_81 FU (ovr noO (evFn sm_81 fns FU 1)) (ir81_t O_81_81_0) ir81 (ofH [(.slice (.int .u32))] (a0, ())) [] (pureK [Zy81_2, (.int .i64)]) = F_81 a0 := by kernel_rfl
noncomputable def Sp.p_81 (a0 : (List Int)) : Bool := (F_81 a0).isSome
noncomputable def Sp.v_81 (a0 : (List Int)) : (Int × ((List (List Int)) × ((List (List Int)) × Unit))) × Int × Unit := (F_81 a0).getD (dfH [Zy81_2, (.int .i64)])
noncomputable def s_81 : Summ := shS [(.slice (.int .u32))] [Zy81_2, (.int .i64)] (fun x => p_81 x.1) (fun x => v_81 x.1)
theorem pv_81 (a0 : (List Int)) {y : (Int × ((List (List Int)) × ((List (List Int)) × Unit))) × Int × Unit} (h : F_81 a0 = some y) : p_81 a0 = true ∧ v_81 a0 = y := ⟨by rw [p_81, h]; rfl, by rw [v_81, h]; rfl⟩
theorem run_81 (x : HDen [(.slice (.int .u32))]) (y : HDen [Zy81_2, (.int .i64)]) (h : F_81 x.1 = some y) : evFn sm_81 fns FU 2 81 (ofH [(.slice (.int .u32))] x) [] (pureK [Zy81_2, (.int .i64)]) = some y :=
 evFnL_sound (fn := ir81) (t := (ir81_t O_81_81_0)) (o := noO) rfl noO_ok (ir81_tok (fun T k r => OK_81_81_0 T k r)) ((fn_81 _).trans h)
end
noncomputable section
abbrev s47_99 : Summ := curS
noncomputable def sm_47 : Nat → Option Summ := fun f => bif Nat.beq f 44 then some s_44 else bif Nat.beq f 81 then some s_81 else bif Nat.beq f 99 then some s47_99 else none
noncomputable def F_47 (a0 : (List Int)) : Option ((Int × (Int × ((List Int) × ((Int × ((List (List Int)) × ((List (List Int)) × Unit))) × Unit)))) × Bool × Unit) :=
 gd (sl3 0 1 (↑(length a0) : Int)) (gd (decide (2 ≤ (↑(length a0) : Int))) (gd (inB 0 (length (take 1 (drop 1 a0)))) (gd (decide (3 ≤ (↑(length a0) : Int))) (gd (inB 0 (length (take 1 (drop 2 a0)))) (gd (decide (11 ≤ (↑(length a0) : Int))) (gd (p_44 (take 8 (drop 3 a0))) (gd (sl3 11 564 (↑(length a0) : Int)) (gd (p_81 (take 553 (drop 11 a0))) (bif (v_81 (take 553 (drop 11 a0))).2.1 != 0 then some ((0, 0, replicate 32 (0 :Int), (0, [], [], PUnit.unit), PUnit.unit), false, PUnit.unit) else bif decide (wrap i64 (getD (take 1 (drop 1 a0)) 0 0) < 1) then some ((0, 0, replicate 32 (0 :Int), (0, [], [], PUnit.unit), PUnit.unit), false, PUnit.unit) else bif decide (wrap i64 (getD (take 1 (drop 1 a0)) 0 0) > 2147483647) then some ((0, 0, replicate 32 (0 :Int), (0, [], [], PUnit.unit), PUnit.unit), false, PUnit.unit) else bif decide (wrap i64 (getD (take 1 (drop 2 a0)) 0 0) < 1) then some ((0, 0, replicate 32 (0 :Int), (0, [], [], PUnit.unit), PUnit.unit), false, PUnit.unit) else bif decide (wrap i64 (getD (take 1 (drop 2 a0)) 0 0) > wrap i64 ((↑(length a0) : Int) - 564)) then some ((0, 0, replicate 32 (0 :Int), (0, [], [], PUnit.unit), PUnit.unit), false, PUnit.unit) else some ((wrap i64 (getD (take 1 (drop 1 a0)) 0 0), wrap i64 (getD (take 1 (drop 2 a0)) 0 0), over (replicate 32 (0 :Int)) 0 (take 32 ((v_44 (take 8 (drop 3 a0))).1)), (v_81 (take 553 (drop 11 a0))).1, PUnit.unit), true, PUnit.unit))))))))))
theorem fn_47 (a0 : (List Int)) : evFnL sm_47 FU (ovr noO (evFn sm_47 fns FU 2)) .nil ir47 (ofH [(.slice (.int .u32))] (a0, ())) [] (pureK [(.pair (.int .i64) (.pair (.int .i64) (.pair (.arr 32 (.int .u8)) (.pair (.pair (.int .i64) (.pair (.slice (.arr 32 (.int .u8))) (.pair (.slice (.arr 32 (.int .u8))) .unit))) .unit)))), .bool]) = F_47 a0 := by kernel_rfl
noncomputable def Sp.p_47 (a0 : (List Int)) : Bool := (F_47 a0).isSome
noncomputable def Sp.v_47 (a0 : (List Int)) : (Int × (Int × ((List Int) × ((Int × ((List (List Int)) × ((List (List Int)) × Unit))) × Unit)))) × Bool × Unit := (F_47 a0).getD (dfH [(.pair (.int .i64) (.pair (.int .i64) (.pair (.arr 32 (.int .u8)) (.pair (.pair (.int .i64) (.pair (.slice (.arr 32 (.int .u8))) (.pair (.slice (.arr 32 (.int .u8))) .unit))) .unit)))), .bool])
noncomputable def s_47 : Summ := shS [(.slice (.int .u32))] [(.pair (.int .i64) (.pair (.int .i64) (.pair (.arr 32 (.int .u8)) (.pair (.pair (.int .i64) (.pair (.slice (.arr 32 (.int .u8))) (.pair (.slice (.arr 32 (.int .u8))) .unit))) .unit)))), .bool] (fun x => p_47 x.1) (fun x => v_47 x.1)
theorem pv_47 (a0 : (List Int)) {y : (Int × (Int × ((List Int) × ((Int × ((List (List Int)) × ((List (List Int)) × Unit))) × Unit)))) × Bool × Unit} (h : F_47 a0 = some y) : p_47 a0 = true ∧ v_47 a0 = y := ⟨by rw [p_47, h]; rfl, by rw [v_47, h]; rfl⟩
theorem run_47 (x : HDen [(.slice (.int .u32))]) (y : HDen [(.pair (.int .i64) (.pair (.int .i64) (.pair (.arr 32 (.int .u8)) (.pair (.pair (.int .i64) (.pair (.slice (.arr 32 (.int .u8))) (.pair (.slice (.arr 32 (.int .u8))) .unit))) .unit)))), .bool]) (h : F_47 x.1 = some y) : evFn sm_47 fns FU 3 47 (ofH [(.slice (.int .u32))] x) [] (pureK [(.pair (.int .i64) (.pair (.int .i64) (.pair (.arr 32 (.int .u8)) (.pair (.pair (.int .i64) (.pair (.slice (.arr 32 (.int .u8))) (.pair (.slice (.arr 32 (.int .u8))) .unit))) .unit)))), .bool]) = some y :=
 evFnL_sound (fn := ir47) (t := .nil) (o := noO) rfl noO_ok trivial ((fn_47 _).trans h)
end
noncomputable section
noncomputable def sm_14 : Nat → Option Summ := fun f => bif Nat.beq f 12 then some s_12 else bif Nat.beq f 42 then some s_42 else bif Nat.beq f 46 then some s_46 else bif Nat.beq f 47 then some s_47 else none
noncomputable def F_14 (a0 : (((List Int) × ((List Int) × (Int × Unit))) × ((List Int) × Unit))) (a1 : Int) : Option ((Int × (Int × ((List Int) × ((Int × ((List (List Int)) × ((List (List Int)) × Unit))) × Unit)))) × Bool × Unit) :=
 gd (p_12 a0) (bif !(v_12 a0).1 then some ((0, 0, replicate 32 (0 :Int), (0, [], [], PUnit.unit), PUnit.unit), false, PUnit.unit) else gd (p_46 a1) (bif !(v_46 a1).1 then some ((0, 0, replicate 32 (0 :Int), (0, [], [], PUnit.unit), PUnit.unit), false, PUnit.unit) else gd (p_42 a0 a1) (gd (p_47 ((v_42 a0 a1).1)) (some ((v_47 ((v_42 a0 a1).1)).1, (v_47 ((v_42 a0 a1).1)).2.1, PUnit.unit)))))
theorem fn_14 (a0 : (((List Int) × ((List Int) × (Int × Unit))) × ((List Int) × Unit))) (a1 : Int) : evFnL sm_14 FU (ovr noO (evFn sm_14 fns FU 0)) .nil ir14 (ofH [(.pair (.pair (.slice (.int .u32)) (.pair (.slice (.int .i64)) (.pair (.int .i64) .unit))) (.pair (.arr 32 (.int .u8)) .unit)), (.int .i64)] (a0, a1, ())) [] (pureK [(.pair (.int .i64) (.pair (.int .i64) (.pair (.arr 32 (.int .u8)) (.pair (.pair (.int .i64) (.pair (.slice (.arr 32 (.int .u8))) (.pair (.slice (.arr 32 (.int .u8))) .unit))) .unit)))), .bool]) = F_14 a0 a1 := by kernel_rfl
noncomputable def Sp.p_14 (a0 : (((List Int) × ((List Int) × (Int × Unit))) × ((List Int) × Unit))) (a1 : Int) : Bool := (F_14 a0 a1).isSome
noncomputable def Sp.v_14 (a0 : (((List Int) × ((List Int) × (Int × Unit))) × ((List Int) × Unit))) (a1 : Int) : (Int × (Int × ((List Int) × ((Int × ((List (List Int)) × ((List (List Int)) × Unit))) × Unit)))) × Bool × Unit := (F_14 a0 a1).getD (dfH [(.pair (.int .i64) (.pair (.int .i64) (.pair (.arr 32 (.int .u8)) (.pair (.pair (.int .i64) (.pair (.slice (.arr 32 (.int .u8))) (.pair (.slice (.arr 32 (.int .u8))) .unit))) .unit)))), .bool])
noncomputable def s_14 : Summ := shS [(.pair (.pair (.slice (.int .u32)) (.pair (.slice (.int .i64)) (.pair (.int .i64) .unit))) (.pair (.arr 32 (.int .u8)) .unit)), (.int .i64)] [(.pair (.int .i64) (.pair (.int .i64) (.pair (.arr 32 (.int .u8)) (.pair (.pair (.int .i64) (.pair (.slice (.arr 32 (.int .u8))) (.pair (.slice (.arr 32 (.int .u8))) .unit))) .unit)))), .bool] (fun x => p_14 x.1 x.2.1) (fun x => v_14 x.1 x.2.1)
theorem pv_14 (a0 : (((List Int) × ((List Int) × (Int × Unit))) × ((List Int) × Unit))) (a1 : Int) {y : (Int × (Int × ((List Int) × ((Int × ((List (List Int)) × ((List (List Int)) × Unit))) × Unit)))) × Bool × Unit} (h : F_14 a0 a1 = some y) : p_14 a0 a1 = true ∧ v_14 a0 a1 = y := ⟨by rw [p_14, h]; rfl, by rw [v_14, h]; rfl⟩
theorem run_14 (x : HDen [(.pair (.pair (.slice (.int .u32)) (.pair (.slice (.int .i64)) (.pair (.int .i64) .unit))) (.pair (.arr 32 (.int .u8)) .unit)), (.int .i64)]) (y : HDen [(.pair (.int .i64) (.pair (.int .i64) (.pair (.arr 32 (.int .u8)) (.pair (.pair (.int .i64) (.pair (.slice (.arr 32 (.int .u8))) (.pair (.slice (.arr 32 (.int .u8))) .unit))) .unit)))), .bool]) (h : F_14 x.1 x.2.1 = some y) : evFn sm_14 fns FU 1 14 (ofH [(.pair (.pair (.slice (.int .u32)) (.pair (.slice (.int .i64)) (.pair (.int .i64) .unit))) (.pair (.arr 32 (.int .u8)) .unit)), (.int .i64)] x) [] (pureK [(.pair (.int .i64) (.pair (.int .i64) (.pair (.arr 32 (.int .u8)) (.pair (.pair (.int .i64) (.pair (.slice (.arr 32 (.int .u8))) (.pair (.slice (.arr 32 (.int .u8))) .unit))) .unit)))), .bool]) = some y :=
 evFnL_sound (fn := ir14) (t := .nil) (o := noO) rfl noO_ok trivial ((fn_14 _ _).trans h)
end
noncomputable section
noncomputable def sm_66 : Nat → Option Summ := fun f => none
noncomputable def F_66  : Option ((List Int) × Unit) :=
 some ([1116352408, 1899447441, 3049323471, 3921009573, 961987163, 1508970993, 2453635748, 2870763221, 3624381080, 310598401, 607225278, 1426881987, 1925078388, 2162078206, 2614888103, 3248222580, 3835390401, 4022224774, 264347078, 604807628, 770255983, 1249150122, 1555081692, 1996064986, 2554220882, 2821834349, 2952996808, 3210313671, 3336571891, 3584528711, 113926993, 338241895, 666307205, 773529912, 1294757372, 1396182291, 1695183700, 1986661051, 2177026350, 2456956037, 2730485921, 2820302411, 3259730800, 3345764771, 3516065817, 3600352804, 4094571909, 275423344, 430227734, 506948616, 659060556, 883997877, 958139571, 1322822218, 1537002063, 1747873779, 1955562222, 2024104815, 2227730452, 2361852424, 2428436474, 2756734187, 3204031479, 3329325298], PUnit.unit)
theorem fn_66  : evFnL sm_66 FU (ovr noO (evFn sm_66 fns FU 0)) .nil ir66 (ofH [] (())) [] (pureK [(.arr 64 (.int .u32))]) = F_66 := by kernel_rfl
noncomputable def Sp.p_66  : Bool := (F_66).isSome
noncomputable def Sp.v_66  : (List Int) × Unit := (F_66).getD (dfH [(.arr 64 (.int .u32))])
noncomputable def s_66 : Summ := shN [] [(.arr 64 (.int .u32))] (fun x => p_66 ) (fun x => v_66 )
theorem run_66 (x : HDen []) (y : HDen [(.arr 64 (.int .u32))]) (h : F_66  = some y) : evFn sm_66 fns FU 1 66 (ofH [] x) [] (pureK [(.arr 64 (.int .u32))]) = some y :=
 evFnL_sound (fn := ir66) (t := .nil) (o := noO) rfl noO_ok trivial ((fn_66).trans h)
end
noncomputable section
noncomputable def sm_95 : Nat → Option Summ := fun f => none
noncomputable def F_95 (a0 : (List Int)) : Option (Int × Unit) :=
 gd (inB 0 (length a0)) (gd (inB 1 (length a0)) (gd (inB 2 (length a0)) (gd (inB 3 (length a0)) (some (Sp.orI u32 (Sp.orI u32 (Sp.orI u32 (wrap u32 (wrap u32 (getD a0 0 0) * 16777216)) (wrap u32 (wrap u32 (getD a0 1 0) * 65536))) (wrap u32 (wrap u32 (getD a0 2 0) * 256))) (wrap u32 (getD a0 3 0)), PUnit.unit)))))
theorem fn_95 (a0 : (List Int)) : evFnL sm_95 FU (ovr noO (evFn sm_95 fns FU 0)) .nil ir95 (ofH [(.slice (.int .u8))] (a0, ())) [] (pureK [(.int .u32)]) = F_95 a0 := by kernel_rfl
noncomputable def Sp.p_95 (a0 : (List Int)) : Bool := (F_95 a0).isSome
noncomputable def Sp.v_95 (a0 : (List Int)) : Int × Unit := (F_95 a0).getD (dfH [(.int .u32)])
noncomputable def s_95 : Summ := shN [(.slice (.int .u8))] [(.int .u32)] (fun x => p_95 x.1) (fun x => v_95 x.1)
theorem pv_95 (a0 : (List Int)) {y : Int × Unit} (h : F_95 a0 = some y) : p_95 a0 = true ∧ v_95 a0 = y := ⟨by rw [p_95, h]; rfl, by rw [v_95, h]; rfl⟩
theorem run_95 (x : HDen [(.slice (.int .u8))]) (y : HDen [(.int .u32)]) (h : F_95 x.1 = some y) : evFn sm_95 fns FU 1 95 (ofH [(.slice (.int .u8))] x) [] (pureK [(.int .u32)]) = some y :=
 evFnL_sound (fn := ir95) (t := .nil) (o := noO) rfl noO_ok trivial ((fn_95 _).trans h)
end
noncomputable section
noncomputable def sm_104 : Nat → Option Summ := fun f => none
noncomputable def F_104 (a0 a1 : Int) : Option (Int × Unit) :=
 gd (decide (0 ≤ wrap u64 (32 - Sp.andI u64 (wrap u64 a1) 31))) (some (Sp.orI u32 (wrap u32 (a0 * 2 ^ Nat.min (toNat (Sp.andI u64 (wrap u64 a1) 31)) 32)) (Int.fdiv a0 (2 ^ Nat.min (toNat (wrap u64 (32 - Sp.andI u64 (wrap u64 a1) 31))) 32)), PUnit.unit))
theorem fn_104 (a0 a1 : Int) : evFnL sm_104 FU (ovr noO (evFn sm_104 fns FU 0)) .nil ir104 (ofH [(.int .u32), (.int .i64)] (a0, a1, ())) [] (pureK [(.int .u32)]) = F_104 a0 a1 := by kernel_rfl
noncomputable def Sp.p_104 (a0 a1 : Int) : Bool := (F_104 a0 a1).isSome
noncomputable def Sp.v_104 (a0 a1 : Int) : Int × Unit := (F_104 a0 a1).getD (dfH [(.int .u32)])
noncomputable def s_104 : Summ := shN [(.int .u32), (.int .i64)] [(.int .u32)] (fun x => p_104 x.1 x.2.1) (fun x => v_104 x.1 x.2.1)
theorem pv_104 (a0 a1 : Int) {y : Int × Unit} (h : F_104 a0 a1 = some y) : p_104 a0 a1 = true ∧ v_104 a0 a1 = y := ⟨by rw [p_104, h]; rfl, by rw [v_104, h]; rfl⟩
theorem run_104 (x : HDen [(.int .u32), (.int .i64)]) (y : HDen [(.int .u32)]) (h : F_104 x.1 x.2.1 = some y) : evFn sm_104 fns FU 1 104 (ofH [(.int .u32), (.int .i64)] x) [] (pureK [(.int .u32)]) = some y :=
 evFnL_sound (fn := ir104) (t := .nil) (o := noO) rfl noO_ok trivial ((fn_104 _ _).trans h)
end
noncomputable section
noncomputable def sm_96 : Nat → Option Summ := fun f => bif Nat.beq f 104 then some s_104 else none
noncomputable def F_96 (a0 a1 : Int) : Option (Int × Unit) :=
 gd (p_104 a0 (wrap i64 (0 - a1))) (some ((v_104 a0 (wrap i64 (0 - a1))).1, PUnit.unit))
theorem fn_96 (a0 a1 : Int) : evFnL sm_96 FU (ovr noO (evFn sm_96 fns FU 0)) .nil ir96 (ofH [(.int .u32), (.int .i64)] (a0, a1, ())) [] (pureK [(.int .u32)]) = F_96 a0 a1 := by kernel_rfl
noncomputable def Sp.p_96 (a0 a1 : Int) : Bool := (F_96 a0 a1).isSome
noncomputable def Sp.v_96 (a0 a1 : Int) : Int × Unit := (F_96 a0 a1).getD (dfH [(.int .u32)])
noncomputable def s_96 : Summ := shN [(.int .u32), (.int .i64)] [(.int .u32)] (fun x => p_96 x.1 x.2.1) (fun x => v_96 x.1 x.2.1)
theorem pv_96 (a0 a1 : Int) {y : Int × Unit} (h : F_96 a0 a1 = some y) : p_96 a0 a1 = true ∧ v_96 a0 a1 = y := ⟨by rw [p_96, h]; rfl, by rw [v_96, h]; rfl⟩
theorem run_96 (x : HDen [(.int .u32), (.int .i64)]) (y : HDen [(.int .u32)]) (h : F_96 x.1 x.2.1 = some y) : evFn sm_96 fns FU 1 96 (ofH [(.int .u32), (.int .i64)] x) [] (pureK [(.int .u32)]) = some y :=
 evFnL_sound (fn := ir96) (t := .nil) (o := noO) rfl noO_ok trivial ((fn_96 _ _).trans h)
end
noncomputable section
abbrev Zy35_0 : Ty := (Ty.arr (64 : Nat) (Ty.int u32))
abbrev Zy35_1 : Ty := (Ty.arr (8 : Nat) (Ty.int u32))
abbrev Zy35_2 : Ty := (Ty.arr (32 : Nat) (Ty.int u8))
abbrev Zy35_3 : Ty := (Ty.arr (128 : Nat) (Ty.int u8))
noncomputable def sm_35 : Nat → Option Summ := fun f => bif Nat.beq f 66 then some s_66 else bif Nat.beq f 95 then some s_95 else bif Nat.beq f 96 then some s_96 else none
noncomputable def T_35_67_0_0 (p0 : List Int) (p1 : Int) (p2 p3 p4 p5 : List Int) : St := St.mk ([CV.ptr 1 [], CV.ptr 2 [], CV.pure (Ty.slice (Ty.int u8)) p0, jk, jk, jk, CV.ptr 3 []] ++ (jl 13 ++ ([CV.int i64 p1] ++ (jl 155)))) [Blk.mem (CV.pure Zy35_2 p2), Blk.mem (CV.pure Zy35_1 p3), Blk.mem (CV.pure Zy35_0 p4), Blk.mem (CV.pure Zy35_0 p5)] 3
noncomputable def X_35_67_0_0_0 (p2 p3 p4 p5 : List Int) : St := St.mk ([CV.ptr 1 [], CV.ptr 2 [], jk, jk, jk, jk, CV.ptr 3 []] ++ (jl 169)) [Blk.mem (CV.pure Zy35_2 p2), Blk.mem (CV.pure Zy35_1 p3), Blk.mem (CV.pure Zy35_0 p4), Blk.mem (CV.pure Zy35_0 p5)] 3
inductive Sp.E_35_67_0_0 where
 | e0 (p2 p3 p4 p5 : List Int)
noncomputable def Sp.B_35_67_0_0 {R : Type} (r : Option E_35_67_0_0) (k0 : List Int → List Int → List Int → List Int → Option R) : Option R := match r with
 | none => none
 | some (.e0 p2 p3 p4 p5) => k0 p2 p3 p4 p5
noncomputable def Sp.L_35_67_0_0 : Nat → List Int → Int → List Int → List Int → List Int → List Int → Option E_35_67_0_0
 | 0, _, _, _, _, _, _ => none
 | m + 1, p0, p1, p2, p3, p4, p5 => bif decide (p1 < 16) then gd (sl3 (wrap i64 (4 * p1)) (↑(length p0) : Int) (↑(length p0) : Int)) (gd (p_95 (drop (toNat (wrap i64 (4 * p1))) p0)) (gd (inB p1 64) (gd (decide (toNat p1 < 64) && true) (L_35_67_0_0 m p0 (wrap i64 (p1 + 1)) p2 p3 p4 (List.set p5 (toNat p1) ((v_95 (drop (toNat (wrap i64 (4 * p1))) p0)).1)))))) else some (E_35_67_0_0.e0 p2 p3 p4 p5)
noncomputable def G_35_67_0_0 {R : Type} (p0 : List Int) (p1 : Int) (p2 p3 p4 p5 : List Int) (k : Ex → St → Option R) : Option R := B_35_67_0_0 (L_35_67_0_0 FU p0 p1 p2 p3 p4 p5) (fun p2 p3 p4 p5 => k (Ex.exit 0) (X_35_67_0_0_0 p2 p3 p4 p5))
noncomputable def m_35_67_0_0 : St → Bool := fun T => match T.sl.getD 0 .junk, T.sl.getD 1 .junk, T.sl.getD 2 .junk, T.sl.getD 6 .junk, T.sl.getD 20 .junk, T.hp with
 | CV.ptr 1 [], CV.ptr 2 [], CV.pure (Ty.slice (Ty.int u8)) p0, CV.ptr 3 [], CV.int i64 p1, ((Blk.mem (CV.pure (Ty.arr 32 (Ty.int u8)) p2)) :: (Blk.mem (CV.pure (Ty.arr 8 (Ty.int u32)) p3)) :: (Blk.mem (CV.pure (Ty.arr 64 (Ty.int u32)) p4)) :: (Blk.mem (CV.pure (Ty.arr 64 (Ty.int u32)) p5)) :: []) => shapeOK T 176 [0, 1, 2, 6, 20] 3
 | _, _, _, _, _, _ => false
noncomputable def o_35_67_0_0 {R : Type} (G : List Int → Int → List Int → List Int → List Int → List Int → (Ex → St → Option R) → Option R) : St → (Ex → St → Option R) → Option R := fun T k => match T.sl.getD 0 .junk, T.sl.getD 1 .junk, T.sl.getD 2 .junk, T.sl.getD 6 .junk, T.sl.getD 20 .junk, T.hp with
 | CV.ptr 1 [], CV.ptr 2 [], CV.pure (Ty.slice (Ty.int u8)) p0, CV.ptr 3 [], CV.int i64 p1, ((Blk.mem (CV.pure (Ty.arr 32 (Ty.int u8)) p2)) :: (Blk.mem (CV.pure (Ty.arr 8 (Ty.int u32)) p3)) :: (Blk.mem (CV.pure (Ty.arr 64 (Ty.int u32)) p4)) :: (Blk.mem (CV.pure (Ty.arr 64 (Ty.int u32)) p5)) :: []) => gd (shapeOK T 176 [0, 1, 2, 6, 20] 3) (G p0 p1 p2 p3 p4 p5 k)
 | _, _, _, _, _, _ => none
theorem o_35_67_0_0_inv {R : Type} {G : List Int → Int → List Int → List Int → List Int → List Int → (Ex → St → Option R) → Option R} {T : St} {k : Ex → St → Option R} {r : R} (h : o_35_67_0_0 G T k = some r) : ∃ p0 p1 p2 p3 p4 p5, T = T_35_67_0_0 p0 p1 p2 p3 p4 p5 ∧ G p0 p1 p2 p3 p4 p5 k = some r := by
 unfold o_35_67_0_0 at h
 split at h
 · obtain ⟨hs, h'⟩ := gd_some h
   refine ⟨_, _, _, _, _, _, (st_of (asg := [(0, _), (1, _), (2, _), (6, _), (20, _)]) hs ⟨by assumption, by assumption, by assumption, by assumption, by assumption, trivial⟩ (by assumption)).trans ?_, h'⟩
   kernel_rfl
 · cases h
noncomputable def T_35_67_1_0 (p0 : Int) (p1 p2 p3 p4 : List Int) : St := St.mk ([CV.ptr 1 [], CV.ptr 2 [], jk, jk, jk, jk, CV.ptr 3 [], jk, CV.int i64 p0] ++ (jl 167)) [Blk.mem (CV.pure Zy35_2 p1), Blk.mem (CV.pure Zy35_1 p2), Blk.mem (CV.pure Zy35_0 p3), Blk.mem (CV.pure Zy35_0 p4)] 3
noncomputable def X_35_67_1_0_0 (p1 p2 p3 p4 : List Int) : St := St.mk ([CV.ptr 1 [], CV.ptr 2 [], jk, jk, jk, jk, CV.ptr 3 []] ++ (jl 169)) [Blk.mem (CV.pure Zy35_2 p1), Blk.mem (CV.pure Zy35_1 p2), Blk.mem (CV.pure Zy35_0 p3), Blk.mem (CV.pure Zy35_0 p4)] 3
inductive Sp.E_35_67_1_0 where
 | e0 (p1 p2 p3 p4 : List Int)
noncomputable def Sp.B_35_67_1_0 {R : Type} (r : Option E_35_67_1_0) (k0 : List Int → List Int → List Int → List Int → Option R) : Option R := match r with
 | none => none
 | some (.e0 p1 p2 p3 p4) => k0 p1 p2 p3 p4
noncomputable def Sp.L_35_67_1_0 : Nat → Int → List Int → List Int → List Int → List Int → Option E_35_67_1_0
 | 0, _, _, _, _, _ => none
 | m + 1, p0, p1, p2, p3, p4 => bif decide (p0 < 64) then gd (inB (wrap i64 (p0 - 15)) 64) (gd (decide (toNat (wrap i64 (p0 - 15)) < 64) && true) (gd (inB (wrap i64 (p0 - 2)) 64) (gd (decide (toNat (wrap i64 (p0 - 2)) < 64) && true) (gd (p_96 (getD p4 (toNat (wrap i64 (p0 - 15))) 0) 7) (gd (p_96 (getD p4 (toNat (wrap i64 (p0 - 15))) 0) 18) (gd (p_96 (getD p4 (toNat (wrap i64 (p0 - 2))) 0) 17) (gd (p_96 (getD p4 (toNat (wrap i64 (p0 - 2))) 0) 19) (gd (inB (wrap i64 (p0 - 7)) 64) (gd (decide (toNat (wrap i64 (p0 - 7)) < 64) && true) (gd (inB (wrap i64 (p0 - 16)) 64) (gd (decide (toNat (wrap i64 (p0 - 16)) < 64) && true) (gd (inB p0 64) (gd (decide (toNat p0 < 64) && true) (L_35_67_1_0 m (wrap i64 (p0 + 1)) p1 p2 p3 (List.set p4 (toNat p0) (wrap u32 (wrap u32 (wrap u32 (Sp.xorI u32 (Sp.xorI u32 ((v_96 (getD p4 (toNat (wrap i64 (p0 - 2))) 0) 17).1) ((v_96 (getD p4 (toNat (wrap i64 (p0 - 2))) 0) 19).1)) (Int.fdiv (getD p4 (toNat (wrap i64 (p0 - 2))) 0) 1024) + getD p4 (toNat (wrap i64 (p0 - 7))) 0) + Sp.xorI u32 (Sp.xorI u32 ((v_96 (getD p4 (toNat (wrap i64 (p0 - 15))) 0) 7).1) ((v_96 (getD p4 (toNat (wrap i64 (p0 - 15))) 0) 18).1)) (Int.fdiv (getD p4 (toNat (wrap i64 (p0 - 15))) 0) 8)) + getD p4 (toNat (wrap i64 (p0 - 16))) 0))))))))))))))))) else some (E_35_67_1_0.e0 p1 p2 p3 p4)
noncomputable def G_35_67_1_0 {R : Type} (p0 : Int) (p1 p2 p3 p4 : List Int) (k : Ex → St → Option R) : Option R := B_35_67_1_0 (L_35_67_1_0 FU p0 p1 p2 p3 p4) (fun p1 p2 p3 p4 => k (Ex.exit 2) (X_35_67_1_0_0 p1 p2 p3 p4))
noncomputable def m_35_67_1_0 : St → Bool := fun T => match T.sl.getD 0 .junk, T.sl.getD 1 .junk, T.sl.getD 6 .junk, T.sl.getD 8 .junk, T.hp with
 | CV.ptr 1 [], CV.ptr 2 [], CV.ptr 3 [], CV.int i64 p0, ((Blk.mem (CV.pure (Ty.arr 32 (Ty.int u8)) p1)) :: (Blk.mem (CV.pure (Ty.arr 8 (Ty.int u32)) p2)) :: (Blk.mem (CV.pure (Ty.arr 64 (Ty.int u32)) p3)) :: (Blk.mem (CV.pure (Ty.arr 64 (Ty.int u32)) p4)) :: []) => shapeOK T 176 [0, 1, 6, 8] 3
 | _, _, _, _, _ => false
noncomputable def o_35_67_1_0 {R : Type} (G : Int → List Int → List Int → List Int → List Int → (Ex → St → Option R) → Option R) : St → (Ex → St → Option R) → Option R := fun T k => match T.sl.getD 0 .junk, T.sl.getD 1 .junk, T.sl.getD 6 .junk, T.sl.getD 8 .junk, T.hp with
 | CV.ptr 1 [], CV.ptr 2 [], CV.ptr 3 [], CV.int i64 p0, ((Blk.mem (CV.pure (Ty.arr 32 (Ty.int u8)) p1)) :: (Blk.mem (CV.pure (Ty.arr 8 (Ty.int u32)) p2)) :: (Blk.mem (CV.pure (Ty.arr 64 (Ty.int u32)) p3)) :: (Blk.mem (CV.pure (Ty.arr 64 (Ty.int u32)) p4)) :: []) => gd (shapeOK T 176 [0, 1, 6, 8] 3) (G p0 p1 p2 p3 p4 k)
 | _, _, _, _, _ => none
theorem o_35_67_1_0_inv {R : Type} {G : Int → List Int → List Int → List Int → List Int → (Ex → St → Option R) → Option R} {T : St} {k : Ex → St → Option R} {r : R} (h : o_35_67_1_0 G T k = some r) : ∃ p0 p1 p2 p3 p4, T = T_35_67_1_0 p0 p1 p2 p3 p4 ∧ G p0 p1 p2 p3 p4 k = some r := by
 unfold o_35_67_1_0 at h
 split at h
 · obtain ⟨hs, h'⟩ := gd_some h
   refine ⟨_, _, _, _, _, (st_of (asg := [(0, _), (1, _), (6, _), (8, _)]) hs ⟨by assumption, by assumption, by assumption, by assumption, trivial⟩ (by assumption)).trans ?_, h'⟩
   kernel_rfl
 · cases h
noncomputable def T_35_67_2_0 (p0 : Int) (p1 p2 p3 p4 p5 : List Int) : St := St.mk ([CV.ptr 1 [], CV.ptr 2 [], jk, jk, jk, jk, CV.ptr 3 []] ++ (jl 6 ++ ([CV.ptr 4 []] ++ (jl 63 ++ ([CV.int i64 p0] ++ (jl 98)))))) [Blk.mem (CV.pure Zy35_2 p1), Blk.mem (CV.pure Zy35_1 p2), Blk.mem (CV.pure Zy35_0 p3), Blk.mem (CV.pure Zy35_0 p4), Blk.mem (CV.pure Zy35_1 p5)] 3
noncomputable def X_35_67_2_0_0 (p1 p2 p3 p5 : List Int) : St := St.mk ([CV.ptr 1 []] ++ (jl 12 ++ ([CV.ptr 3 []] ++ (jl 162)))) [Blk.mem (CV.pure Zy35_2 p1), Blk.mem (CV.pure Zy35_1 p2), Blk.mem (CV.pure Zy35_0 p3), Blk.mem (CV.pure Zy35_1 p5)] 3
inductive Sp.E_35_67_2_0 where
 | e0 (p1 p2 p3 p5 : List Int)
noncomputable def Sp.B_35_67_2_0 {R : Type} (r : Option E_35_67_2_0) (k0 : List Int → List Int → List Int → List Int → Option R) : Option R := match r with
 | none => none
 | some (.e0 p1 p2 p3 p5) => k0 p1 p2 p3 p5
noncomputable def Sp.L_35_67_2_0 : Nat → Int → List Int → List Int → List Int → List Int → List Int → Option E_35_67_2_0
 | 0, _, _, _, _, _, _ => none
 | m + 1, p0, p1, p2, p3, p4, p5 => bif decide (p0 < 64) then gd (p_96 (getD p5 4 0) 6) (gd (p_96 (getD p5 4 0) 11) (gd (p_96 (getD p5 4 0) 25) (gd (inB p0 64) (gd (decide (toNat p0 < 64) && true) (gd (inB p0 64) (gd (decide (toNat p0 < 64) && true) (gd (p_96 (getD p5 0 0) 2) (gd (p_96 (getD p5 0 0) 13) (gd (p_96 (getD p5 0 0) 22) (L_35_67_2_0 m (wrap i64 (p0 + 1)) p1 p2 p3 p4 [wrap u32 (wrap u32 (wrap u32 (wrap u32 (wrap u32 (getD p5 7 0 + Sp.xorI u32 (Sp.xorI u32 ((v_96 (getD p5 4 0) 6).1) ((v_96 (getD p5 4 0) 11).1)) ((v_96 (getD p5 4 0) 25).1)) + Sp.xorI u32 (Sp.andI u32 (getD p5 4 0) (getD p5 5 0)) (Sp.andI u32 (Sp.xorI u32 4294967295 (getD p5 4 0)) (getD p5 6 0))) + getD p3 (toNat p0) 0) + getD p4 (toNat p0) 0) + wrap u32 (Sp.xorI u32 (Sp.xorI u32 ((v_96 (getD p5 0 0) 2).1) ((v_96 (getD p5 0 0) 13).1)) ((v_96 (getD p5 0 0) 22).1) + Sp.xorI u32 (Sp.xorI u32 (Sp.andI u32 (getD p5 0 0) (getD p5 1 0)) (Sp.andI u32 (getD p5 0 0) (getD p5 2 0))) (Sp.andI u32 (getD p5 1 0) (getD p5 2 0)))), getD p5 0 0, getD p5 1 0, getD p5 2 0, wrap u32 (getD p5 3 0 + wrap u32 (wrap u32 (wrap u32 (wrap u32 (getD p5 7 0 + Sp.xorI u32 (Sp.xorI u32 ((v_96 (getD p5 4 0) 6).1) ((v_96 (getD p5 4 0) 11).1)) ((v_96 (getD p5 4 0) 25).1)) + Sp.xorI u32 (Sp.andI u32 (getD p5 4 0) (getD p5 5 0)) (Sp.andI u32 (Sp.xorI u32 4294967295 (getD p5 4 0)) (getD p5 6 0))) + getD p3 (toNat p0) 0) + getD p4 (toNat p0) 0)), getD p5 4 0, getD p5 5 0, getD p5 6 0])))))))))) else some (E_35_67_2_0.e0 p1 p2 p3 p5)
noncomputable def G_35_67_2_0 {R : Type} (p0 : Int) (p1 p2 p3 p4 p5 : List Int) (k : Ex → St → Option R) : Option R := B_35_67_2_0 (L_35_67_2_0 FU p0 p1 p2 p3 p4 p5) (fun p1 p2 p3 p5 => k (Ex.exit 4) (X_35_67_2_0_0 p1 p2 p3 p5))
noncomputable def m_35_67_2_0 : St → Bool := fun T => match T.sl.getD 0 .junk, T.sl.getD 1 .junk, T.sl.getD 6 .junk, T.sl.getD 13 .junk, T.sl.getD 77 .junk, T.hp with
 | CV.ptr 1 [], CV.ptr 2 [], CV.ptr 3 [], CV.ptr 4 [], CV.int i64 p0, ((Blk.mem (CV.pure (Ty.arr 32 (Ty.int u8)) p1)) :: (Blk.mem (CV.pure (Ty.arr 8 (Ty.int u32)) p2)) :: (Blk.mem (CV.pure (Ty.arr 64 (Ty.int u32)) p3)) :: (Blk.mem (CV.pure (Ty.arr 64 (Ty.int u32)) p4)) :: (Blk.mem (CV.pure (Ty.arr 8 (Ty.int u32)) p5)) :: []) => shapeOK T 176 [0, 1, 6, 13, 77] 3
 | _, _, _, _, _, _ => false
noncomputable def o_35_67_2_0 {R : Type} (G : Int → List Int → List Int → List Int → List Int → List Int → (Ex → St → Option R) → Option R) : St → (Ex → St → Option R) → Option R := fun T k => match T.sl.getD 0 .junk, T.sl.getD 1 .junk, T.sl.getD 6 .junk, T.sl.getD 13 .junk, T.sl.getD 77 .junk, T.hp with
 | CV.ptr 1 [], CV.ptr 2 [], CV.ptr 3 [], CV.ptr 4 [], CV.int i64 p0, ((Blk.mem (CV.pure (Ty.arr 32 (Ty.int u8)) p1)) :: (Blk.mem (CV.pure (Ty.arr 8 (Ty.int u32)) p2)) :: (Blk.mem (CV.pure (Ty.arr 64 (Ty.int u32)) p3)) :: (Blk.mem (CV.pure (Ty.arr 64 (Ty.int u32)) p4)) :: (Blk.mem (CV.pure (Ty.arr 8 (Ty.int u32)) p5)) :: []) => gd (shapeOK T 176 [0, 1, 6, 13, 77] 3) (G p0 p1 p2 p3 p4 p5 k)
 | _, _, _, _, _, _ => none
theorem o_35_67_2_0_inv {R : Type} {G : Int → List Int → List Int → List Int → List Int → List Int → (Ex → St → Option R) → Option R} {T : St} {k : Ex → St → Option R} {r : R} (h : o_35_67_2_0 G T k = some r) : ∃ p0 p1 p2 p3 p4 p5, T = T_35_67_2_0 p0 p1 p2 p3 p4 p5 ∧ G p0 p1 p2 p3 p4 p5 k = some r := by
 unfold o_35_67_2_0 at h
 split at h
 · obtain ⟨hs, h'⟩ := gd_some h
   refine ⟨_, _, _, _, _, _, (st_of (asg := [(0, _), (1, _), (6, _), (13, _), (77, _)]) hs ⟨by assumption, by assumption, by assumption, by assumption, by assumption, trivial⟩ (by assumption)).trans ?_, h'⟩
   kernel_rfl
 · cases h
noncomputable def T_35_67_3_0 (p0 : Int) (p1 p2 p3 p4 : List Int) : St := St.mk ([CV.ptr 1 []] ++ (jl 12 ++ ([CV.ptr 3 []] ++ (jl 147 ++ ([CV.int i64 p0] ++ (jl 14)))))) [Blk.mem (CV.pure Zy35_2 p1), Blk.mem (CV.pure Zy35_1 p2), Blk.mem (CV.pure Zy35_0 p3), Blk.mem (CV.pure Zy35_1 p4)] 3
noncomputable def X_35_67_3_0_0 (p1 p2 p3 : List Int) : St := St.mk (jl 176) [Blk.mem (CV.pure Zy35_2 p1), Blk.mem (CV.pure Zy35_1 p2), Blk.mem (CV.pure Zy35_0 p3)] 3
inductive Sp.E_35_67_3_0 where
 | e0 (p1 p2 p3 : List Int)
noncomputable def Sp.B_35_67_3_0 {R : Type} (r : Option E_35_67_3_0) (k0 : List Int → List Int → List Int → Option R) : Option R := match r with
 | none => none
 | some (.e0 p1 p2 p3) => k0 p1 p2 p3
noncomputable def Sp.L_35_67_3_0 : Nat → Int → List Int → List Int → List Int → List Int → Option E_35_67_3_0
 | 0, _, _, _, _, _ => none
 | m + 1, p0, p1, p2, p3, p4 => bif decide (p0 < 8) then gd (inB p0 8) (gd (decide (toNat p0 < 8) && true) (gd (inB p0 8) (gd (decide (toNat p0 < 8) && true) (gd (inB p0 8) (gd (decide (toNat p0 < 8) && true) (L_35_67_3_0 m (wrap i64 (p0 + 1)) p1 (List.set p2 (toNat p0) (wrap u32 (getD p2 (toNat p0) 0 + getD p4 (toNat p0) 0))) p3 p4)))))) else some (E_35_67_3_0.e0 p1 p2 p3)
noncomputable def G_35_67_3_0 {R : Type} (p0 : Int) (p1 p2 p3 p4 : List Int) (k : Ex → St → Option R) : Option R := B_35_67_3_0 (L_35_67_3_0 FU p0 p1 p2 p3 p4) (fun p1 p2 p3 => k (Ex.exit 6) (X_35_67_3_0_0 p1 p2 p3))
noncomputable def m_35_67_3_0 : St → Bool := fun T => match T.sl.getD 0 .junk, T.sl.getD 13 .junk, T.sl.getD 161 .junk, T.hp with
 | CV.ptr 1 [], CV.ptr 3 [], CV.int i64 p0, ((Blk.mem (CV.pure (Ty.arr 32 (Ty.int u8)) p1)) :: (Blk.mem (CV.pure (Ty.arr 8 (Ty.int u32)) p2)) :: (Blk.mem (CV.pure (Ty.arr 64 (Ty.int u32)) p3)) :: (Blk.mem (CV.pure (Ty.arr 8 (Ty.int u32)) p4)) :: []) => shapeOK T 176 [0, 13, 161] 3
 | _, _, _, _ => false
noncomputable def o_35_67_3_0 {R : Type} (G : Int → List Int → List Int → List Int → List Int → (Ex → St → Option R) → Option R) : St → (Ex → St → Option R) → Option R := fun T k => match T.sl.getD 0 .junk, T.sl.getD 13 .junk, T.sl.getD 161 .junk, T.hp with
 | CV.ptr 1 [], CV.ptr 3 [], CV.int i64 p0, ((Blk.mem (CV.pure (Ty.arr 32 (Ty.int u8)) p1)) :: (Blk.mem (CV.pure (Ty.arr 8 (Ty.int u32)) p2)) :: (Blk.mem (CV.pure (Ty.arr 64 (Ty.int u32)) p3)) :: (Blk.mem (CV.pure (Ty.arr 8 (Ty.int u32)) p4)) :: []) => gd (shapeOK T 176 [0, 13, 161] 3) (G p0 p1 p2 p3 p4 k)
 | _, _, _, _ => none
theorem o_35_67_3_0_inv {R : Type} {G : Int → List Int → List Int → List Int → List Int → (Ex → St → Option R) → Option R} {T : St} {k : Ex → St → Option R} {r : R} (h : o_35_67_3_0 G T k = some r) : ∃ p0 p1 p2 p3 p4, T = T_35_67_3_0 p0 p1 p2 p3 p4 ∧ G p0 p1 p2 p3 p4 k = some r := by
 unfold o_35_67_3_0 at h
 split at h
 · obtain ⟨hs, h'⟩ := gd_some h
   refine ⟨_, _, _, _, _, (st_of (asg := [(0, _), (13, _), (161, _)]) hs ⟨by assumption, by assumption, by assumption, trivial⟩ (by assumption)).trans ?_, h'⟩
   kernel_rfl
 · cases h
noncomputable def T_35_0 (p0 p1 p2 p3 p4 : List Int) : St := St.mk ([CV.pure (Ty.slice (Ty.int u8)) p0, jk, CV.ptr 0 [], CV.ptr 1 [], CV.ptr 2 [], CV.pure (Ty.slice (Ty.int u8)) p1] ++ (jl 66)) [Blk.mem (CV.pure Zy35_2 p2), Blk.mem (CV.pure Zy35_1 p3), Blk.mem (CV.pure Zy35_0 p4)] 0
noncomputable def X_35_0_0 (p0 p1 p2 p3 p4 : List Int) : St := St.mk ([CV.pure (Ty.slice (Ty.int u8)) p0, jk, CV.ptr 0 [], CV.ptr 1 [], CV.ptr 2 [], CV.pure (Ty.slice (Ty.int u8)) p1] ++ (jl 66)) [Blk.mem (CV.pure Zy35_2 p2), Blk.mem (CV.pure Zy35_1 p3), Blk.mem (CV.pure Zy35_0 p4)] 0
inductive Sp.E_35_0 where
 | e0 (p0 p1 p2 p3 p4 : List Int)
noncomputable def Sp.B_35_0 {R : Type} (r : Option E_35_0) (k0 : List Int → List Int → List Int → List Int → List Int → Option R) : Option R := match r with
 | none => none
 | some (.e0 p0 p1 p2 p3 p4) => k0 p0 p1 p2 p3 p4
noncomputable def Sp.L_35_0 : Nat → List Int → List Int → List Int → List Int → List Int → Option E_35_0
 | 0, _, _, _, _, _ => none
 | m + 1, p0, p1, p2, p3, p4 => bif decide ((↑(length p1) : Int) ≥ 64) then gd (sl3 0 64 (↑(length p1) : Int)) (B_35_67_0_0 (L_35_67_0_0 4611686018427387904 (take 64 (drop 0 p1)) 0 p2 p3 p4 (replicate 64 (0 :Int))) fun y19 y20 y21 y22 => B_35_67_1_0 (L_35_67_1_0 4611686018427387904 16 y19 y20 y21 y22) fun y23 y24 y25 y26 => B_35_67_2_0 (L_35_67_2_0 4611686018427387904 0 y23 y24 y25 y26 y24) fun y27 y28 y29 y30 => B_35_67_3_0 (L_35_67_3_0 4611686018427387904 0 y27 y28 y29 y30) fun y31 y32 y33 => gd (sl3 64 (↑(length p1) : Int) (↑(length p1) : Int)) (L_35_0 m p0 (drop 64 p1) y31 y32 y33)) else some (E_35_0.e0 p0 p1 p2 p3 p4)
noncomputable def G_35_0 {R : Type} (p0 p1 p2 p3 p4 : List Int) (k : Ex → St → Option R) : Option R := B_35_0 (L_35_0 FU p0 p1 p2 p3 p4) (fun p0 p1 p2 p3 p4 => k (Ex.exit 0) (X_35_0_0 p0 p1 p2 p3 p4))
noncomputable def o_35_0 {R : Type} (G : List Int → List Int → List Int → List Int → List Int → (Ex → St → Option R) → Option R) : St → (Ex → St → Option R) → Option R := fun T k => match T.sl.getD 0 .junk, T.sl.getD 2 .junk, T.sl.getD 3 .junk, T.sl.getD 4 .junk, T.sl.getD 5 .junk, T.hp with
 | CV.pure (Ty.slice (Ty.int u8)) p0, CV.ptr 0 [], CV.ptr 1 [], CV.ptr 2 [], CV.pure (Ty.slice (Ty.int u8)) p1, ((Blk.mem (CV.pure (Ty.arr 32 (Ty.int u8)) p2)) :: (Blk.mem (CV.pure (Ty.arr 8 (Ty.int u32)) p3)) :: (Blk.mem (CV.pure (Ty.arr 64 (Ty.int u32)) p4)) :: []) => gd (shapeOK T 72 [0, 2, 3, 4, 5] 0) (G p0 p1 p2 p3 p4 k)
 | _, _, _, _, _, _ => none
theorem o_35_0_inv {R : Type} {G : List Int → List Int → List Int → List Int → List Int → (Ex → St → Option R) → Option R} {T : St} {k : Ex → St → Option R} {r : R} (h : o_35_0 G T k = some r) : ∃ p0 p1 p2 p3 p4, T = T_35_0 p0 p1 p2 p3 p4 ∧ G p0 p1 p2 p3 p4 k = some r := by
 unfold o_35_0 at h
 split at h
 · obtain ⟨hs, h'⟩ := gd_some h
   refine ⟨_, _, _, _, _, (st_of (asg := [(0, _), (2, _), (3, _), (4, _), (5, _)]) hs ⟨by assumption, by assumption, by assumption, by assumption, by assumption, trivial⟩ (by assumption)).trans ?_, h'⟩
   kernel_rfl
 · cases h
noncomputable def T_35_67_0_1 (p0 p1 p2 : Nat) (p3 : Int) (p4 p5 p6 p7 p8 : List Int) : St := St.mk ([CV.ptr 1 [], CV.ptr 2 [], CV.sub 3 [] 1 p0 p1 (some p2), jk, jk, jk, CV.ptr 4 []] ++ (jl 13 ++ ([CV.int i64 p3] ++ (jl 155)))) [Blk.mem (CV.pure Zy35_2 p4), Blk.mem (CV.pure Zy35_1 p5), Blk.mem (CV.pure Zy35_0 p6), Blk.mem (CV.pure Zy35_3 p7), Blk.mem (CV.pure Zy35_0 p8)] 4
noncomputable def X_35_67_0_1_0 (p4 p5 p6 p7 p8 : List Int) : St := St.mk ([CV.ptr 1 [], CV.ptr 2 [], jk, jk, jk, jk, CV.ptr 4 []] ++ (jl 169)) [Blk.mem (CV.pure Zy35_2 p4), Blk.mem (CV.pure Zy35_1 p5), Blk.mem (CV.pure Zy35_0 p6), Blk.mem (CV.pure Zy35_3 p7), Blk.mem (CV.pure Zy35_0 p8)] 4
inductive Sp.E_35_67_0_1 where
 | e0 (p4 p5 p6 p7 p8 : List Int)
noncomputable def Sp.B_35_67_0_1 {R : Type} (r : Option E_35_67_0_1) (k0 : List Int → List Int → List Int → List Int → List Int → Option R) : Option R := match r with
 | none => none
 | some (.e0 p4 p5 p6 p7 p8) => k0 p4 p5 p6 p7 p8
noncomputable def Sp.L_35_67_0_1 : Nat → Nat → Nat → Nat → Int → List Int → List Int → List Int → List Int → List Int → Option E_35_67_0_1
 | 0, _, _, _, _, _, _, _, _, _ => none
 | m + 1, p0, p1, p2, p3, p4, p5, p6, p7, p8 => bif decide (p3 < 16) then gd (sl3 (wrap i64 (4 * p3)) (↑p1 : Int) (↑p1 : Int)) (gd (decide (p0 + toNat (wrap i64 (4 * p3)) + (toNat (↑p1 : Int) - toNat (wrap i64 (4 * p3))) ≤ 128) && true && p_95 (take (toNat (↑p1 : Int) - toNat (wrap i64 (4 * p3))) (drop (p0 + toNat (wrap i64 (4 * p3))) p7))) (gd (inB p3 64) (gd (decide (toNat p3 < 64) && true) (L_35_67_0_1 m p0 p1 p2 (wrap i64 (p3 + 1)) p4 p5 p6 p7 (List.set p8 (toNat p3) ((v_95 (take (toNat (↑p1 : Int) - toNat (wrap i64 (4 * p3))) (drop (p0 + toNat (wrap i64 (4 * p3))) p7))).1)))))) else some (E_35_67_0_1.e0 p4 p5 p6 p7 p8)
noncomputable def G_35_67_0_1 {R : Type} (p0 p1 p2 : Nat) (p3 : Int) (p4 p5 p6 p7 p8 : List Int) (k : Ex → St → Option R) : Option R := B_35_67_0_1 (L_35_67_0_1 FU p0 p1 p2 p3 p4 p5 p6 p7 p8) (fun p4 p5 p6 p7 p8 => k (Ex.exit 0) (X_35_67_0_1_0 p4 p5 p6 p7 p8))
noncomputable def m_35_67_0_1 : St → Bool := fun T => match T.sl.getD 0 .junk, T.sl.getD 1 .junk, T.sl.getD 2 .junk, T.sl.getD 6 .junk, T.sl.getD 20 .junk, T.hp with
 | CV.ptr 1 [], CV.ptr 2 [], CV.sub 3 [] 1 p0 p1 (some p2), CV.ptr 4 [], CV.int i64 p3, ((Blk.mem (CV.pure (Ty.arr 32 (Ty.int u8)) p4)) :: (Blk.mem (CV.pure (Ty.arr 8 (Ty.int u32)) p5)) :: (Blk.mem (CV.pure (Ty.arr 64 (Ty.int u32)) p6)) :: (Blk.mem (CV.pure (Ty.arr 128 (Ty.int u8)) p7)) :: (Blk.mem (CV.pure (Ty.arr 64 (Ty.int u32)) p8)) :: []) => shapeOK T 176 [0, 1, 2, 6, 20] 4
 | _, _, _, _, _, _ => false
noncomputable def o_35_67_0_1 {R : Type} (G : Nat → Nat → Nat → Int → List Int → List Int → List Int → List Int → List Int → (Ex → St → Option R) → Option R) : St → (Ex → St → Option R) → Option R := fun T k => match T.sl.getD 0 .junk, T.sl.getD 1 .junk, T.sl.getD 2 .junk, T.sl.getD 6 .junk, T.sl.getD 20 .junk, T.hp with
 | CV.ptr 1 [], CV.ptr 2 [], CV.sub 3 [] 1 p0 p1 (some p2), CV.ptr 4 [], CV.int i64 p3, ((Blk.mem (CV.pure (Ty.arr 32 (Ty.int u8)) p4)) :: (Blk.mem (CV.pure (Ty.arr 8 (Ty.int u32)) p5)) :: (Blk.mem (CV.pure (Ty.arr 64 (Ty.int u32)) p6)) :: (Blk.mem (CV.pure (Ty.arr 128 (Ty.int u8)) p7)) :: (Blk.mem (CV.pure (Ty.arr 64 (Ty.int u32)) p8)) :: []) => gd (shapeOK T 176 [0, 1, 2, 6, 20] 4) (G p0 p1 p2 p3 p4 p5 p6 p7 p8 k)
 | _, _, _, _, _, _ => none
theorem o_35_67_0_1_inv {R : Type} {G : Nat → Nat → Nat → Int → List Int → List Int → List Int → List Int → List Int → (Ex → St → Option R) → Option R} {T : St} {k : Ex → St → Option R} {r : R} (h : o_35_67_0_1 G T k = some r) : ∃ p0 p1 p2 p3 p4 p5 p6 p7 p8, T = T_35_67_0_1 p0 p1 p2 p3 p4 p5 p6 p7 p8 ∧ G p0 p1 p2 p3 p4 p5 p6 p7 p8 k = some r := by
 unfold o_35_67_0_1 at h
 split at h
 · obtain ⟨hs, h'⟩ := gd_some h
   refine ⟨_, _, _, _, _, _, _, _, _, (st_of (asg := [(0, _), (1, _), (2, _), (6, _), (20, _)]) hs ⟨by assumption, by assumption, by assumption, by assumption, by assumption, trivial⟩ (by assumption)).trans ?_, h'⟩
   kernel_rfl
 · cases h
noncomputable def T_35_67_1_1 (p0 : Int) (p1 p2 p3 p4 p5 : List Int) : St := St.mk ([CV.ptr 1 [], CV.ptr 2 [], jk, jk, jk, jk, CV.ptr 4 [], jk, CV.int i64 p0] ++ (jl 167)) [Blk.mem (CV.pure Zy35_2 p1), Blk.mem (CV.pure Zy35_1 p2), Blk.mem (CV.pure Zy35_0 p3), Blk.mem (CV.pure Zy35_3 p4), Blk.mem (CV.pure Zy35_0 p5)] 4
noncomputable def X_35_67_1_1_0 (p1 p2 p3 p4 p5 : List Int) : St := St.mk ([CV.ptr 1 [], CV.ptr 2 [], jk, jk, jk, jk, CV.ptr 4 []] ++ (jl 169)) [Blk.mem (CV.pure Zy35_2 p1), Blk.mem (CV.pure Zy35_1 p2), Blk.mem (CV.pure Zy35_0 p3), Blk.mem (CV.pure Zy35_3 p4), Blk.mem (CV.pure Zy35_0 p5)] 4
inductive Sp.E_35_67_1_1 where
 | e0 (p1 p2 p3 p4 p5 : List Int)
noncomputable def Sp.B_35_67_1_1 {R : Type} (r : Option E_35_67_1_1) (k0 : List Int → List Int → List Int → List Int → List Int → Option R) : Option R := match r with
 | none => none
 | some (.e0 p1 p2 p3 p4 p5) => k0 p1 p2 p3 p4 p5
noncomputable def Sp.L_35_67_1_1 : Nat → Int → List Int → List Int → List Int → List Int → List Int → Option E_35_67_1_1
 | 0, _, _, _, _, _, _ => none
 | m + 1, p0, p1, p2, p3, p4, p5 => bif decide (p0 < 64) then gd (inB (wrap i64 (p0 - 15)) 64) (gd (decide (toNat (wrap i64 (p0 - 15)) < 64) && true) (gd (inB (wrap i64 (p0 - 2)) 64) (gd (decide (toNat (wrap i64 (p0 - 2)) < 64) && true) (gd (p_96 (getD p5 (toNat (wrap i64 (p0 - 15))) 0) 7) (gd (p_96 (getD p5 (toNat (wrap i64 (p0 - 15))) 0) 18) (gd (p_96 (getD p5 (toNat (wrap i64 (p0 - 2))) 0) 17) (gd (p_96 (getD p5 (toNat (wrap i64 (p0 - 2))) 0) 19) (gd (inB (wrap i64 (p0 - 7)) 64) (gd (decide (toNat (wrap i64 (p0 - 7)) < 64) && true) (gd (inB (wrap i64 (p0 - 16)) 64) (gd (decide (toNat (wrap i64 (p0 - 16)) < 64) && true) (gd (inB p0 64) (gd (decide (toNat p0 < 64) && true) (L_35_67_1_1 m (wrap i64 (p0 + 1)) p1 p2 p3 p4 (List.set p5 (toNat p0) (wrap u32 (wrap u32 (wrap u32 (Sp.xorI u32 (Sp.xorI u32 ((v_96 (getD p5 (toNat (wrap i64 (p0 - 2))) 0) 17).1) ((v_96 (getD p5 (toNat (wrap i64 (p0 - 2))) 0) 19).1)) (Int.fdiv (getD p5 (toNat (wrap i64 (p0 - 2))) 0) 1024) + getD p5 (toNat (wrap i64 (p0 - 7))) 0) + Sp.xorI u32 (Sp.xorI u32 ((v_96 (getD p5 (toNat (wrap i64 (p0 - 15))) 0) 7).1) ((v_96 (getD p5 (toNat (wrap i64 (p0 - 15))) 0) 18).1)) (Int.fdiv (getD p5 (toNat (wrap i64 (p0 - 15))) 0) 8)) + getD p5 (toNat (wrap i64 (p0 - 16))) 0))))))))))))))))) else some (E_35_67_1_1.e0 p1 p2 p3 p4 p5)
noncomputable def G_35_67_1_1 {R : Type} (p0 : Int) (p1 p2 p3 p4 p5 : List Int) (k : Ex → St → Option R) : Option R := B_35_67_1_1 (L_35_67_1_1 FU p0 p1 p2 p3 p4 p5) (fun p1 p2 p3 p4 p5 => k (Ex.exit 2) (X_35_67_1_1_0 p1 p2 p3 p4 p5))
noncomputable def m_35_67_1_1 : St → Bool := fun T => match T.sl.getD 0 .junk, T.sl.getD 1 .junk, T.sl.getD 6 .junk, T.sl.getD 8 .junk, T.hp with
 | CV.ptr 1 [], CV.ptr 2 [], CV.ptr 4 [], CV.int i64 p0, ((Blk.mem (CV.pure (Ty.arr 32 (Ty.int u8)) p1)) :: (Blk.mem (CV.pure (Ty.arr 8 (Ty.int u32)) p2)) :: (Blk.mem (CV.pure (Ty.arr 64 (Ty.int u32)) p3)) :: (Blk.mem (CV.pure (Ty.arr 128 (Ty.int u8)) p4)) :: (Blk.mem (CV.pure (Ty.arr 64 (Ty.int u32)) p5)) :: []) => shapeOK T 176 [0, 1, 6, 8] 4
 | _, _, _, _, _ => false
noncomputable def o_35_67_1_1 {R : Type} (G : Int → List Int → List Int → List Int → List Int → List Int → (Ex → St → Option R) → Option R) : St → (Ex → St → Option R) → Option R := fun T k => match T.sl.getD 0 .junk, T.sl.getD 1 .junk, T.sl.getD 6 .junk, T.sl.getD 8 .junk, T.hp with
 | CV.ptr 1 [], CV.ptr 2 [], CV.ptr 4 [], CV.int i64 p0, ((Blk.mem (CV.pure (Ty.arr 32 (Ty.int u8)) p1)) :: (Blk.mem (CV.pure (Ty.arr 8 (Ty.int u32)) p2)) :: (Blk.mem (CV.pure (Ty.arr 64 (Ty.int u32)) p3)) :: (Blk.mem (CV.pure (Ty.arr 128 (Ty.int u8)) p4)) :: (Blk.mem (CV.pure (Ty.arr 64 (Ty.int u32)) p5)) :: []) => gd (shapeOK T 176 [0, 1, 6, 8] 4) (G p0 p1 p2 p3 p4 p5 k)
 | _, _, _, _, _ => none
theorem o_35_67_1_1_inv {R : Type} {G : Int → List Int → List Int → List Int → List Int → List Int → (Ex → St → Option R) → Option R} {T : St} {k : Ex → St → Option R} {r : R} (h : o_35_67_1_1 G T k = some r) : ∃ p0 p1 p2 p3 p4 p5, T = T_35_67_1_1 p0 p1 p2 p3 p4 p5 ∧ G p0 p1 p2 p3 p4 p5 k = some r := by
 unfold o_35_67_1_1 at h
 split at h
 · obtain ⟨hs, h'⟩ := gd_some h
   refine ⟨_, _, _, _, _, _, (st_of (asg := [(0, _), (1, _), (6, _), (8, _)]) hs ⟨by assumption, by assumption, by assumption, by assumption, trivial⟩ (by assumption)).trans ?_, h'⟩
   kernel_rfl
 · cases h
noncomputable def T_35_67_2_1 (p0 : Int) (p1 p2 p3 p4 p5 p6 : List Int) : St := St.mk ([CV.ptr 1 [], CV.ptr 2 [], jk, jk, jk, jk, CV.ptr 4 []] ++ (jl 6 ++ ([CV.ptr 5 []] ++ (jl 63 ++ ([CV.int i64 p0] ++ (jl 98)))))) [Blk.mem (CV.pure Zy35_2 p1), Blk.mem (CV.pure Zy35_1 p2), Blk.mem (CV.pure Zy35_0 p3), Blk.mem (CV.pure Zy35_3 p4), Blk.mem (CV.pure Zy35_0 p5), Blk.mem (CV.pure Zy35_1 p6)] 4
noncomputable def X_35_67_2_1_0 (p1 p2 p3 p4 p6 : List Int) : St := St.mk ([CV.ptr 1 []] ++ (jl 12 ++ ([CV.ptr 4 []] ++ (jl 162)))) [Blk.mem (CV.pure Zy35_2 p1), Blk.mem (CV.pure Zy35_1 p2), Blk.mem (CV.pure Zy35_0 p3), Blk.mem (CV.pure Zy35_3 p4), Blk.mem (CV.pure Zy35_1 p6)] 4
inductive Sp.E_35_67_2_1 where
 | e0 (p1 p2 p3 p4 p6 : List Int)
noncomputable def Sp.B_35_67_2_1 {R : Type} (r : Option E_35_67_2_1) (k0 : List Int → List Int → List Int → List Int → List Int → Option R) : Option R := match r with
 | none => none
 | some (.e0 p1 p2 p3 p4 p6) => k0 p1 p2 p3 p4 p6
noncomputable def Sp.L_35_67_2_1 : Nat → Int → List Int → List Int → List Int → List Int → List Int → List Int → Option E_35_67_2_1
 | 0, _, _, _, _, _, _, _ => none
 | m + 1, p0, p1, p2, p3, p4, p5, p6 => bif decide (p0 < 64) then gd (p_96 (getD p6 4 0) 6) (gd (p_96 (getD p6 4 0) 11) (gd (p_96 (getD p6 4 0) 25) (gd (inB p0 64) (gd (decide (toNat p0 < 64) && true) (gd (inB p0 64) (gd (decide (toNat p0 < 64) && true) (gd (p_96 (getD p6 0 0) 2) (gd (p_96 (getD p6 0 0) 13) (gd (p_96 (getD p6 0 0) 22) (L_35_67_2_1 m (wrap i64 (p0 + 1)) p1 p2 p3 p4 p5 [wrap u32 (wrap u32 (wrap u32 (wrap u32 (wrap u32 (getD p6 7 0 + Sp.xorI u32 (Sp.xorI u32 ((v_96 (getD p6 4 0) 6).1) ((v_96 (getD p6 4 0) 11).1)) ((v_96 (getD p6 4 0) 25).1)) + Sp.xorI u32 (Sp.andI u32 (getD p6 4 0) (getD p6 5 0)) (Sp.andI u32 (Sp.xorI u32 4294967295 (getD p6 4 0)) (getD p6 6 0))) + getD p3 (toNat p0) 0) + getD p5 (toNat p0) 0) + wrap u32 (Sp.xorI u32 (Sp.xorI u32 ((v_96 (getD p6 0 0) 2).1) ((v_96 (getD p6 0 0) 13).1)) ((v_96 (getD p6 0 0) 22).1) + Sp.xorI u32 (Sp.xorI u32 (Sp.andI u32 (getD p6 0 0) (getD p6 1 0)) (Sp.andI u32 (getD p6 0 0) (getD p6 2 0))) (Sp.andI u32 (getD p6 1 0) (getD p6 2 0)))), getD p6 0 0, getD p6 1 0, getD p6 2 0, wrap u32 (getD p6 3 0 + wrap u32 (wrap u32 (wrap u32 (wrap u32 (getD p6 7 0 + Sp.xorI u32 (Sp.xorI u32 ((v_96 (getD p6 4 0) 6).1) ((v_96 (getD p6 4 0) 11).1)) ((v_96 (getD p6 4 0) 25).1)) + Sp.xorI u32 (Sp.andI u32 (getD p6 4 0) (getD p6 5 0)) (Sp.andI u32 (Sp.xorI u32 4294967295 (getD p6 4 0)) (getD p6 6 0))) + getD p3 (toNat p0) 0) + getD p5 (toNat p0) 0)), getD p6 4 0, getD p6 5 0, getD p6 6 0])))))))))) else some (E_35_67_2_1.e0 p1 p2 p3 p4 p6)
noncomputable def G_35_67_2_1 {R : Type} (p0 : Int) (p1 p2 p3 p4 p5 p6 : List Int) (k : Ex → St → Option R) : Option R := B_35_67_2_1 (L_35_67_2_1 FU p0 p1 p2 p3 p4 p5 p6) (fun p1 p2 p3 p4 p6 => k (Ex.exit 4) (X_35_67_2_1_0 p1 p2 p3 p4 p6))
noncomputable def m_35_67_2_1 : St → Bool := fun T => match T.sl.getD 0 .junk, T.sl.getD 1 .junk, T.sl.getD 6 .junk, T.sl.getD 13 .junk, T.sl.getD 77 .junk, T.hp with
 | CV.ptr 1 [], CV.ptr 2 [], CV.ptr 4 [], CV.ptr 5 [], CV.int i64 p0, ((Blk.mem (CV.pure (Ty.arr 32 (Ty.int u8)) p1)) :: (Blk.mem (CV.pure (Ty.arr 8 (Ty.int u32)) p2)) :: (Blk.mem (CV.pure (Ty.arr 64 (Ty.int u32)) p3)) :: (Blk.mem (CV.pure (Ty.arr 128 (Ty.int u8)) p4)) :: (Blk.mem (CV.pure (Ty.arr 64 (Ty.int u32)) p5)) :: (Blk.mem (CV.pure (Ty.arr 8 (Ty.int u32)) p6)) :: []) => shapeOK T 176 [0, 1, 6, 13, 77] 4
 | _, _, _, _, _, _ => false
noncomputable def o_35_67_2_1 {R : Type} (G : Int → List Int → List Int → List Int → List Int → List Int → List Int → (Ex → St → Option R) → Option R) : St → (Ex → St → Option R) → Option R := fun T k => match T.sl.getD 0 .junk, T.sl.getD 1 .junk, T.sl.getD 6 .junk, T.sl.getD 13 .junk, T.sl.getD 77 .junk, T.hp with
 | CV.ptr 1 [], CV.ptr 2 [], CV.ptr 4 [], CV.ptr 5 [], CV.int i64 p0, ((Blk.mem (CV.pure (Ty.arr 32 (Ty.int u8)) p1)) :: (Blk.mem (CV.pure (Ty.arr 8 (Ty.int u32)) p2)) :: (Blk.mem (CV.pure (Ty.arr 64 (Ty.int u32)) p3)) :: (Blk.mem (CV.pure (Ty.arr 128 (Ty.int u8)) p4)) :: (Blk.mem (CV.pure (Ty.arr 64 (Ty.int u32)) p5)) :: (Blk.mem (CV.pure (Ty.arr 8 (Ty.int u32)) p6)) :: []) => gd (shapeOK T 176 [0, 1, 6, 13, 77] 4) (G p0 p1 p2 p3 p4 p5 p6 k)
 | _, _, _, _, _, _ => none
theorem o_35_67_2_1_inv {R : Type} {G : Int → List Int → List Int → List Int → List Int → List Int → List Int → (Ex → St → Option R) → Option R} {T : St} {k : Ex → St → Option R} {r : R} (h : o_35_67_2_1 G T k = some r) : ∃ p0 p1 p2 p3 p4 p5 p6, T = T_35_67_2_1 p0 p1 p2 p3 p4 p5 p6 ∧ G p0 p1 p2 p3 p4 p5 p6 k = some r := by
 unfold o_35_67_2_1 at h
 split at h
 · obtain ⟨hs, h'⟩ := gd_some h
   refine ⟨_, _, _, _, _, _, _, (st_of (asg := [(0, _), (1, _), (6, _), (13, _), (77, _)]) hs ⟨by assumption, by assumption, by assumption, by assumption, by assumption, trivial⟩ (by assumption)).trans ?_, h'⟩
   kernel_rfl
 · cases h
noncomputable def T_35_67_3_1 (p0 : Int) (p1 p2 p3 p4 p5 : List Int) : St := St.mk ([CV.ptr 1 []] ++ (jl 12 ++ ([CV.ptr 4 []] ++ (jl 147 ++ ([CV.int i64 p0] ++ (jl 14)))))) [Blk.mem (CV.pure Zy35_2 p1), Blk.mem (CV.pure Zy35_1 p2), Blk.mem (CV.pure Zy35_0 p3), Blk.mem (CV.pure Zy35_3 p4), Blk.mem (CV.pure Zy35_1 p5)] 4
noncomputable def X_35_67_3_1_0 (p1 p2 p3 p4 : List Int) : St := St.mk (jl 176) [Blk.mem (CV.pure Zy35_2 p1), Blk.mem (CV.pure Zy35_1 p2), Blk.mem (CV.pure Zy35_0 p3), Blk.mem (CV.pure Zy35_3 p4)] 4
inductive Sp.E_35_67_3_1 where
 | e0 (p1 p2 p3 p4 : List Int)
noncomputable def Sp.B_35_67_3_1 {R : Type} (r : Option E_35_67_3_1) (k0 : List Int → List Int → List Int → List Int → Option R) : Option R := match r with
 | none => none
 | some (.e0 p1 p2 p3 p4) => k0 p1 p2 p3 p4
noncomputable def Sp.L_35_67_3_1 : Nat → Int → List Int → List Int → List Int → List Int → List Int → Option E_35_67_3_1
 | 0, _, _, _, _, _, _ => none
 | m + 1, p0, p1, p2, p3, p4, p5 => bif decide (p0 < 8) then gd (inB p0 8) (gd (decide (toNat p0 < 8) && true) (gd (inB p0 8) (gd (decide (toNat p0 < 8) && true) (gd (inB p0 8) (gd (decide (toNat p0 < 8) && true) (L_35_67_3_1 m (wrap i64 (p0 + 1)) p1 (List.set p2 (toNat p0) (wrap u32 (getD p2 (toNat p0) 0 + getD p5 (toNat p0) 0))) p3 p4 p5)))))) else some (E_35_67_3_1.e0 p1 p2 p3 p4)
noncomputable def G_35_67_3_1 {R : Type} (p0 : Int) (p1 p2 p3 p4 p5 : List Int) (k : Ex → St → Option R) : Option R := B_35_67_3_1 (L_35_67_3_1 FU p0 p1 p2 p3 p4 p5) (fun p1 p2 p3 p4 => k (Ex.exit 6) (X_35_67_3_1_0 p1 p2 p3 p4))
noncomputable def m_35_67_3_1 : St → Bool := fun T => match T.sl.getD 0 .junk, T.sl.getD 13 .junk, T.sl.getD 161 .junk, T.hp with
 | CV.ptr 1 [], CV.ptr 4 [], CV.int i64 p0, ((Blk.mem (CV.pure (Ty.arr 32 (Ty.int u8)) p1)) :: (Blk.mem (CV.pure (Ty.arr 8 (Ty.int u32)) p2)) :: (Blk.mem (CV.pure (Ty.arr 64 (Ty.int u32)) p3)) :: (Blk.mem (CV.pure (Ty.arr 128 (Ty.int u8)) p4)) :: (Blk.mem (CV.pure (Ty.arr 8 (Ty.int u32)) p5)) :: []) => shapeOK T 176 [0, 13, 161] 4
 | _, _, _, _ => false
noncomputable def o_35_67_3_1 {R : Type} (G : Int → List Int → List Int → List Int → List Int → List Int → (Ex → St → Option R) → Option R) : St → (Ex → St → Option R) → Option R := fun T k => match T.sl.getD 0 .junk, T.sl.getD 13 .junk, T.sl.getD 161 .junk, T.hp with
 | CV.ptr 1 [], CV.ptr 4 [], CV.int i64 p0, ((Blk.mem (CV.pure (Ty.arr 32 (Ty.int u8)) p1)) :: (Blk.mem (CV.pure (Ty.arr 8 (Ty.int u32)) p2)) :: (Blk.mem (CV.pure (Ty.arr 64 (Ty.int u32)) p3)) :: (Blk.mem (CV.pure (Ty.arr 128 (Ty.int u8)) p4)) :: (Blk.mem (CV.pure (Ty.arr 8 (Ty.int u32)) p5)) :: []) => gd (shapeOK T 176 [0, 13, 161] 4) (G p0 p1 p2 p3 p4 p5 k)
 | _, _, _, _ => none
theorem o_35_67_3_1_inv {R : Type} {G : Int → List Int → List Int → List Int → List Int → List Int → (Ex → St → Option R) → Option R} {T : St} {k : Ex → St → Option R} {r : R} (h : o_35_67_3_1 G T k = some r) : ∃ p0 p1 p2 p3 p4 p5, T = T_35_67_3_1 p0 p1 p2 p3 p4 p5 ∧ G p0 p1 p2 p3 p4 p5 k = some r := by
 unfold o_35_67_3_1 at h
 split at h
 · obtain ⟨hs, h'⟩ := gd_some h
   refine ⟨_, _, _, _, _, _, (st_of (asg := [(0, _), (13, _), (161, _)]) hs ⟨by assumption, by assumption, by assumption, trivial⟩ (by assumption)).trans ?_, h'⟩
   kernel_rfl
 · cases h
noncomputable def T_35_2 (p0 p1 : Int) (p2 p3 p4 p5 : List Int) : St := St.mk ([jk, jk, CV.ptr 0 [], CV.ptr 1 [], CV.ptr 2 [], jk, CV.ptr 3 [], jk, CV.int i64 p0, jk, CV.int i64 p1] ++ (jl 61)) [Blk.mem (CV.pure Zy35_2 p2), Blk.mem (CV.pure Zy35_1 p3), Blk.mem (CV.pure Zy35_0 p4), Blk.mem (CV.pure Zy35_3 p5)] 0
noncomputable def X_35_2_0 (p2 p3 : List Int) : St := St.mk ([jk, jk, CV.ptr 0 [], CV.ptr 1 []] ++ (jl 68)) [Blk.mem (CV.pure Zy35_2 p2), Blk.mem (CV.pure Zy35_1 p3)] 0
inductive Sp.E_35_2 where
 | e0 (p2 p3 : List Int)
noncomputable def Sp.B_35_2 {R : Type} (r : Option E_35_2) (k0 : List Int → List Int → Option R) : Option R := match r with
 | none => none
 | some (.e0 p2 p3) => k0 p2 p3
noncomputable def Sp.L_35_2 : Nat → Int → Int → List Int → List Int → List Int → List Int → Option E_35_2
 | 0, _, _, _, _, _, _ => none
 | m + 1, p0, p1, p2, p3, p4, p5 => bif decide (p1 < p0) then gd (sl3 p1 (wrap i64 (p1 + 64)) 128) (B_35_67_0_1 (L_35_67_0_1 4611686018427387904 (toNat p1) (toNat (wrap i64 (p1 + 64)) - toNat p1) (128 - toNat p1) 0 p2 p3 p4 p5 (replicate 64 (0 :Int))) fun y19 y20 y21 y22 y23 => B_35_67_1_1 (L_35_67_1_1 4611686018427387904 16 y19 y20 y21 y22 y23) fun y24 y25 y26 y27 y28 => B_35_67_2_1 (L_35_67_2_1 4611686018427387904 0 y24 y25 y26 y27 y28 y25) fun y29 y30 y31 y32 y33 => B_35_67_3_1 (L_35_67_3_1 4611686018427387904 0 y29 y30 y31 y32 y33) fun y34 y35 y36 y37 => L_35_2 m p0 (wrap i64 (p1 + 64)) y34 y35 y36 y37) else some (E_35_2.e0 p2 p3)
noncomputable def G_35_2 {R : Type} (p0 p1 : Int) (p2 p3 p4 p5 : List Int) (k : Ex → St → Option R) : Option R := B_35_2 (L_35_2 FU p0 p1 p2 p3 p4 p5) (fun p2 p3 => k (Ex.exit 2) (X_35_2_0 p2 p3))
noncomputable def o_35_2 {R : Type} (G : Int → Int → List Int → List Int → List Int → List Int → (Ex → St → Option R) → Option R) : St → (Ex → St → Option R) → Option R := fun T k => match T.sl.getD 2 .junk, T.sl.getD 3 .junk, T.sl.getD 4 .junk, T.sl.getD 6 .junk, T.sl.getD 8 .junk, T.sl.getD 10 .junk, T.hp with
 | CV.ptr 0 [], CV.ptr 1 [], CV.ptr 2 [], CV.ptr 3 [], CV.int i64 p0, CV.int i64 p1, ((Blk.mem (CV.pure (Ty.arr 32 (Ty.int u8)) p2)) :: (Blk.mem (CV.pure (Ty.arr 8 (Ty.int u32)) p3)) :: (Blk.mem (CV.pure (Ty.arr 64 (Ty.int u32)) p4)) :: (Blk.mem (CV.pure (Ty.arr 128 (Ty.int u8)) p5)) :: []) => gd (shapeOK T 72 [2, 3, 4, 6, 8, 10] 0) (G p0 p1 p2 p3 p4 p5 k)
 | _, _, _, _, _, _, _ => none
theorem o_35_2_inv {R : Type} {G : Int → Int → List Int → List Int → List Int → List Int → (Ex → St → Option R) → Option R} {T : St} {k : Ex → St → Option R} {r : R} (h : o_35_2 G T k = some r) : ∃ p0 p1 p2 p3 p4 p5, T = T_35_2 p0 p1 p2 p3 p4 p5 ∧ G p0 p1 p2 p3 p4 p5 k = some r := by
 unfold o_35_2 at h
 split at h
 · obtain ⟨hs, h'⟩ := gd_some h
   refine ⟨_, _, _, _, _, _, (st_of (asg := [(2, _), (3, _), (4, _), (6, _), (8, _), (10, _)]) hs ⟨by assumption, by assumption, by assumption, by assumption, by assumption, by assumption, trivial⟩ (by assumption)).trans ?_, h'⟩
   kernel_rfl
 · cases h
noncomputable def T_35_3 (p0 : List Int) (p1 : Int) (p2 p3 : List Int) : St := St.mk ([jk, jk, CV.ptr 0 []] ++ (jl 8 ++ ([CV.ptr 1 []] ++ (jl 48 ++ ([CV.pure Zy35_1 p0, CV.int i64 p1] ++ (jl 10)))))) [Blk.mem (CV.pure Zy35_2 p2), Blk.mem (CV.pure Zy35_2 p3)] 0
noncomputable def X_35_3_0 (p2 p3 : List Int) : St := St.mk ([jk, jk, CV.ptr 0 []] ++ (jl 8 ++ ([CV.ptr 1 []] ++ (jl 60)))) [Blk.mem (CV.pure Zy35_2 p2), Blk.mem (CV.pure Zy35_2 p3)] 0
inductive Sp.E_35_3 where
 | e0 (p2 p3 : List Int)
noncomputable def Sp.B_35_3 {R : Type} (r : Option E_35_3) (k0 : List Int → List Int → Option R) : Option R := match r with
 | none => none
 | some (.e0 p2 p3) => k0 p2 p3
noncomputable def Sp.L_35_3 : Nat → List Int → Int → List Int → List Int → Option E_35_3
 | 0, _, _, _, _ => none
 | m + 1, p0, p1, p2, p3 => bif decide (p1 < 8) then gd (inB p1 8) (gd (sl3 (wrap i64 (4 * p1)) 32 32) (gd (inB 0 (32 - toNat (wrap i64 (4 * p1)))) (gd (decide (toNat (wrap i64 (4 * p1)) + (0 :Nat) < (32 :Nat)) && true) (gd (inB 1 (32 - toNat (wrap i64 (4 * p1)))) (gd (decide (toNat (wrap i64 (4 * p1)) + (1 :Nat) < (32 :Nat)) && true) (gd (inB 2 (32 - toNat (wrap i64 (4 * p1)))) (gd (decide (toNat (wrap i64 (4 * p1)) + (2 :Nat) < (32 :Nat)) && true) (gd (inB 3 (32 - toNat (wrap i64 (4 * p1)))) (gd (decide (toNat (wrap i64 (4 * p1)) + (3 :Nat) < (32 :Nat)) && true) (L_35_3 m p0 (wrap i64 (p1 + 1)) p2 (List.set (List.set (List.set (List.set p3 (toNat (wrap i64 (4 * p1)) + 0) (wrap u8 (Int.fdiv (getD p0 (toNat p1) 0) 16777216))) (toNat (wrap i64 (4 * p1)) + 1) (wrap u8 (Int.fdiv (getD p0 (toNat p1) 0) 65536))) (toNat (wrap i64 (4 * p1)) + 2) (wrap u8 (Int.fdiv (getD p0 (toNat p1) 0) 256))) (toNat (wrap i64 (4 * p1)) + 3) (wrap u8 (getD p0 (toNat p1) 0))))))))))))) else some (E_35_3.e0 p2 p3)
noncomputable def G_35_3 {R : Type} (p0 : List Int) (p1 : Int) (p2 p3 : List Int) (k : Ex → St → Option R) : Option R := B_35_3 (L_35_3 FU p0 p1 p2 p3) (fun p2 p3 => k (Ex.exit 4) (X_35_3_0 p2 p3))
noncomputable def o_35_3 {R : Type} (G : List Int → Int → List Int → List Int → (Ex → St → Option R) → Option R) : St → (Ex → St → Option R) → Option R := fun T k => match T.sl.getD 2 .junk, T.sl.getD 11 .junk, T.sl.getD 60 .junk, T.sl.getD 61 .junk, T.hp with
 | CV.ptr 0 [], CV.ptr 1 [], CV.pure (Ty.arr 8 (Ty.int u32)) p0, CV.int i64 p1, ((Blk.mem (CV.pure (Ty.arr 32 (Ty.int u8)) p2)) :: (Blk.mem (CV.pure (Ty.arr 32 (Ty.int u8)) p3)) :: []) => gd (shapeOK T 72 [2, 11, 60, 61] 0) (G p0 p1 p2 p3 k)
 | _, _, _, _, _ => none
theorem o_35_3_inv {R : Type} {G : List Int → Int → List Int → List Int → (Ex → St → Option R) → Option R} {T : St} {k : Ex → St → Option R} {r : R} (h : o_35_3 G T k = some r) : ∃ p0 p1 p2 p3, T = T_35_3 p0 p1 p2 p3 ∧ G p0 p1 p2 p3 k = some r := by
 unfold o_35_3 at h
 split at h
 · obtain ⟨hs, h'⟩ := gd_some h
   refine ⟨_, _, _, _, (st_of (asg := [(2, _), (11, _), (60, _), (61, _)]) hs ⟨by assumption, by assumption, by assumption, by assumption, trivial⟩ (by assumption)).trans ?_, h'⟩
   kernel_rfl
 · cases h
noncomputable def T_35_1 (p0 : List Int) (p1 : Int) (p2 p3 p4 p5 : List Int) : St := St.mk ([CV.pure (Ty.slice (Ty.int u8)) p0, jk, CV.ptr 0 [], CV.ptr 1 [], CV.ptr 2 [], jk, CV.ptr 3 [], jk, CV.int i64 p1] ++ (jl 63)) [Blk.mem (CV.pure Zy35_2 p2), Blk.mem (CV.pure Zy35_1 p3), Blk.mem (CV.pure Zy35_0 p4), Blk.mem (CV.pure Zy35_3 p5)] 0
noncomputable def X_35_1_0 (y7 : List Int) : St := St.mk ([jk, jk, CV.ptr 0 []] ++ (jl 69)) [Blk.mem (CV.pure Zy35_2 y7)] 0
inductive Sp.E_35_1 where
 | e0 (y7 : List Int)
noncomputable def Sp.B_35_1 {R : Type} (r : Option E_35_1) (k0 : List Int → Option R) : Option R := match r with
 | none => none
 | some (.e0 y7) => k0 y7
noncomputable def Sp.J_35_1 (p0 : List Int) (p1 : Int) (p2 p3 p4 p5 : List Int) : Option E_35_1 :=
 gd (sl3 (wrap i64 (p1 - 8)) 128 128) (gd (inB 0 (128 - toNat (wrap i64 (p1 - 8)))) (gd (decide (toNat (wrap i64 (p1 - 8)) + (0 :Nat) < (128 :Nat)) && true) (gd (inB 1 (128 - toNat (wrap i64 (p1 - 8)))) (gd (decide (toNat (wrap i64 (p1 - 8)) + (1 :Nat) < (128 :Nat)) && true) (gd (inB 2 (128 - toNat (wrap i64 (p1 - 8)))) (gd (decide (toNat (wrap i64 (p1 - 8)) + (2 :Nat) < (128 :Nat)) && true) (gd (inB 3 (128 - toNat (wrap i64 (p1 - 8)))) (gd (decide (toNat (wrap i64 (p1 - 8)) + (3 :Nat) < (128 :Nat)) && true) (gd (sl3 (wrap i64 (p1 - 4)) 128 128) (gd (inB 0 (128 - toNat (wrap i64 (p1 - 4)))) (gd (decide (toNat (wrap i64 (p1 - 4)) + (0 :Nat) < (128 :Nat)) && true) (gd (inB 1 (128 - toNat (wrap i64 (p1 - 4)))) (gd (decide (toNat (wrap i64 (p1 - 4)) + (1 :Nat) < (128 :Nat)) && true) (gd (inB 2 (128 - toNat (wrap i64 (p1 - 4)))) (gd (decide (toNat (wrap i64 (p1 - 4)) + (2 :Nat) < (128 :Nat)) && true) (gd (inB 3 (128 - toNat (wrap i64 (p1 - 4)))) (gd (decide (toNat (wrap i64 (p1 - 4)) + (3 :Nat) < (128 :Nat)) && true) (B_35_2 (L_35_2 4611686018427387904 p1 0 p2 p3 p4 (List.set (List.set (List.set (List.set (List.set (List.set (List.set (List.set p5 (toNat (wrap i64 (p1 - 8)) + 0) (wrap u8 (Int.fdiv (wrap u32 (Int.fdiv (wrap u64 (wrap u64 (↑(length p0) : Int) * 8)) 4294967296)) 16777216))) (toNat (wrap i64 (p1 - 8)) + 1) (wrap u8 (Int.fdiv (wrap u32 (Int.fdiv (wrap u64 (wrap u64 (↑(length p0) : Int) * 8)) 4294967296)) 65536))) (toNat (wrap i64 (p1 - 8)) + 2) (wrap u8 (Int.fdiv (wrap u32 (Int.fdiv (wrap u64 (wrap u64 (↑(length p0) : Int) * 8)) 4294967296)) 256))) (toNat (wrap i64 (p1 - 8)) + 3) (wrap u8 (wrap u32 (Int.fdiv (wrap u64 (wrap u64 (↑(length p0) : Int) * 8)) 4294967296)))) (toNat (wrap i64 (p1 - 4)) + 0) (wrap u8 (Int.fdiv (wrap u32 (wrap u64 (wrap u64 (↑(length p0) : Int) * 8))) 16777216))) (toNat (wrap i64 (p1 - 4)) + 1) (wrap u8 (Int.fdiv (wrap u32 (wrap u64 (wrap u64 (↑(length p0) : Int) * 8))) 65536))) (toNat (wrap i64 (p1 - 4)) + 2) (wrap u8 (Int.fdiv (wrap u32 (wrap u64 (wrap u64 (↑(length p0) : Int) * 8))) 256))) (toNat (wrap i64 (p1 - 4)) + 3) (wrap u8 (wrap u32 (wrap u64 (wrap u64 (↑(length p0) : Int) * 8)))))) fun y4 y5 => B_35_3 (L_35_3 4611686018427387904 y5 0 y4 (replicate 32 (0 :Int))) fun y6 y7 => some (E_35_1.e0 y7)))))))))))))))))))
noncomputable def G_35_1 {R : Type} (p0 : List Int) (p1 : Int) (p2 p3 p4 p5 : List Int) (k : Ex → St → Option R) : Option R := B_35_1 (J_35_1 p0 p1 p2 p3 p4 p5) (fun y7 => k Ex.ret (X_35_1_0 y7))
noncomputable def o_35_1 {R : Type} (G : List Int → Int → List Int → List Int → List Int → List Int → (Ex → St → Option R) → Option R) : St → (Ex → St → Option R) → Option R := fun T k => match T.sl.getD 0 .junk, T.sl.getD 2 .junk, T.sl.getD 3 .junk, T.sl.getD 4 .junk, T.sl.getD 6 .junk, T.sl.getD 8 .junk, T.hp with
 | CV.pure (Ty.slice (Ty.int u8)) p0, CV.ptr 0 [], CV.ptr 1 [], CV.ptr 2 [], CV.ptr 3 [], CV.int i64 p1, ((Blk.mem (CV.pure (Ty.arr 32 (Ty.int u8)) p2)) :: (Blk.mem (CV.pure (Ty.arr 8 (Ty.int u32)) p3)) :: (Blk.mem (CV.pure (Ty.arr 64 (Ty.int u32)) p4)) :: (Blk.mem (CV.pure (Ty.arr 128 (Ty.int u8)) p5)) :: []) => gd (shapeOK T 72 [0, 2, 3, 4, 6, 8] 0) (G p0 p1 p2 p3 p4 p5 k)
 | _, _, _, _, _, _, _ => none
theorem o_35_1_inv {R : Type} {G : List Int → Int → List Int → List Int → List Int → List Int → (Ex → St → Option R) → Option R} {T : St} {k : Ex → St → Option R} {r : R} (h : o_35_1 G T k = some r) : ∃ p0 p1 p2 p3 p4 p5, T = T_35_1 p0 p1 p2 p3 p4 p5 ∧ G p0 p1 p2 p3 p4 p5 k = some r := by
 unfold o_35_1 at h
 split at h
 · obtain ⟨hs, h'⟩ := gd_some h
   refine ⟨_, _, _, _, _, _, (st_of (asg := [(0, _), (2, _), (3, _), (4, _), (6, _), (8, _)]) hs ⟨by assumption, by assumption, by assumption, by assumption, by assumption, by assumption, trivial⟩ (by assumption)).trans ?_, h'⟩
   kernel_rfl
 · cases h
noncomputable def O_35_67_0 {R : Type} : St → (Ex → St → Option R) → Option R := fun T k => bif m_35_67_0_0 T then o_35_67_0_0 G_35_67_0_0 T k else bif m_35_67_0_1 T then o_35_67_0_1 G_35_67_0_1 T k else none
noncomputable def O_35_67_1 {R : Type} : St → (Ex → St → Option R) → Option R := fun T k => bif m_35_67_1_0 T then o_35_67_1_0 G_35_67_1_0 T k else bif m_35_67_1_1 T then o_35_67_1_1 G_35_67_1_1 T k else none
noncomputable def O_35_67_2 {R : Type} : St → (Ex → St → Option R) → Option R := fun T k => bif m_35_67_2_0 T then o_35_67_2_0 G_35_67_2_0 T k else bif m_35_67_2_1 T then o_35_67_2_1 G_35_67_2_1 T k else none
noncomputable def O_35_67_3 {R : Type} : St → (Ex → St → Option R) → Option R := fun T k => bif m_35_67_3_0 T then o_35_67_3_0 G_35_67_3_0 T k else bif m_35_67_3_1 T then o_35_67_3_1 G_35_67_3_1 T k else none
noncomputable def O_35_35_0 {R : Type} : St → (Ex → St → Option R) → Option R := fun T k => o_35_0 G_35_0 T k
noncomputable def O_35_35_2 {R : Type} : St → (Ex → St → Option R) → Option R := fun T k => o_35_2 G_35_2 T k
noncomputable def O_35_35_3 {R : Type} : St → (Ex → St → Option R) → Option R := fun T k => o_35_3 G_35_3 T k
noncomputable def O_35_35_1 {R : Type} : St → (Ex → St → Option R) → Option R := fun T k => o_35_1 G_35_1 T k
noncomputable def g_35_67 {R : Type} : List CV → List Blk → (CV → List Blk → Option R) → Option R := evFnL sm_35 FU (ovr noO (evFn sm_35 fns FU 0)) (ir67_t O_35_67_0 O_35_67_1 O_35_67_2 O_35_67_3) ir67
theorem body_35_67_0_0 {R : Type} (K0 : St → Option R) (K1 : Ex → St → Option R) (p0 : List Int) (p1 : Int) (p2 p3 p4 p5 : List Int) : evLB (evCodeL sm_35 FU (ovr noO (evFn sm_35 fns FU 0)) .nil ir67_b0) (St.norm ir67_v0) (T_35_67_0_0 p0 p1 p2 p3 p4 p5) K0 K1 =
 bif decide (p1 < 16) then gd (sl3 (wrap i64 (4 * p1)) (↑(length p0) : Int) (↑(length p0) : Int)) (gd (p_95 (drop (toNat (wrap i64 (4 * p1))) p0)) (gd (inB p1 64) (gd (decide (toNat p1 < 64) && true) (K0 (T_35_67_0_0 p0 (wrap i64 (p1 + 1)) p2 p3 p4 (List.set p5 (toNat p1) ((v_95 (drop (toNat (wrap i64 (4 * p1))) p0)).1))))))) else K1 (Ex.exit 0) (X_35_67_0_0_0 p2 p3 p4 p5) := by kernel_rfl
theorem Bgd_35_67_0_0 {R : Type} {c : Bool} {x : Option R} {y : Option E_35_67_0_0} {k0 : List Int → List Int → List Int → List Int → Option R} (h : x = B_35_67_0_0 y k0) : gd c x = B_35_67_0_0 (gd c y) k0 := by cases c; rfl; exact h
theorem Bcond_35_67_0_0 {R : Type} {c : Bool} {x x' : Option R} {y y' : Option E_35_67_0_0} {k0 : List Int → List Int → List Int → List Int → Option R} (h : x = B_35_67_0_0 y k0) (h' : x' = B_35_67_0_0 y' k0) : (bif c then x else x') = B_35_67_0_0 (bif c then y else y') k0 := by cases c; exact h'; exact h
theorem loop_35_67_0_0 {R : Type} (k : Ex → St → Option R) : ∀ (m : Nat) (p0 : List Int) (p1 : Int) (p2 : List Int) (p3 : List Int) (p4 : List Int) (p5 : List Int), evLoopN (evCodeL sm_35 FU (ovr noO (evFn sm_35 fns FU 0)) .nil ir67_b0) (St.norm ir67_v0) m (T_35_67_0_0 p0 p1 p2 p3 p4 p5) k = B_35_67_0_0 (L_35_67_0_0 m p0 p1 p2 p3 p4 p5) (fun p2 p3 p4 p5 => k (Ex.exit (0 : Nat)) (X_35_67_0_0_0 p2 p3 p4 p5))
 | 0, _, _, _, _, _, _ => rfl
 | m + 1, p0, p1, p2, p3, p4, p5 => by
   rw [evLoopN_succ, body_35_67_0_0, L_35_67_0_0]
   repeat' first | apply Bgd_35_67_0_0 | apply Bcond_35_67_0_0 | exact loop_35_67_0_0 k m _ _ _ _ _ _ | rfl
theorem ok_35_67_0_0 {R : Type} (T : St) (k : Ex → St → Option R) (r : R) (h0 : o_35_67_0_0 G_35_67_0_0 T k = some r) : evLoopN (evCode sm_35 FU (evFn sm_35 fns FU 0) ir67_b0) (St.norm ir67_v0) FU T k = some r := by
 obtain ⟨p0, p1, p2, p3, p4, p5, rfl, h⟩ := o_35_67_0_0_inv h0
 refine evLoopN_L (t := .nil) noO_ok trivial _ _ _ _ ?_
 rw [loop_35_67_0_0]
 exact h
theorem body_35_67_0_1 {R : Type} (K0 : St → Option R) (K1 : Ex → St → Option R) (p0 p1 p2 : Nat) (p3 : Int) (p4 p5 p6 p7 p8 : List Int) : evLB (evCodeL sm_35 FU (ovr noO (evFn sm_35 fns FU 0)) .nil ir67_b0) (St.norm ir67_v0) (T_35_67_0_1 p0 p1 p2 p3 p4 p5 p6 p7 p8) K0 K1 =
 bif decide (p3 < 16) then gd (sl3 (wrap i64 (4 * p3)) (↑p1 : Int) (↑p1 : Int)) (gd (decide (p0 + toNat (wrap i64 (4 * p3)) + (toNat (↑p1 : Int) - toNat (wrap i64 (4 * p3))) ≤ 128) && true && p_95 (take (toNat (↑p1 : Int) - toNat (wrap i64 (4 * p3))) (drop (p0 + toNat (wrap i64 (4 * p3))) p7))) (gd (inB p3 64) (gd (decide (toNat p3 < 64) && true) (K0 (T_35_67_0_1 p0 p1 p2 (wrap i64 (p3 + 1)) p4 p5 p6 p7 (List.set p8 (toNat p3) ((v_95 (take (toNat (↑p1 : Int) - toNat (wrap i64 (4 * p3))) (drop (p0 + toNat (wrap i64 (4 * p3))) p7))).1))))))) else K1 (Ex.exit 0) (X_35_67_0_1_0 p4 p5 p6 p7 p8) := by kernel_rfl
theorem Bgd_35_67_0_1 {R : Type} {c : Bool} {x : Option R} {y : Option E_35_67_0_1} {k0 : List Int → List Int → List Int → List Int → List Int → Option R} (h : x = B_35_67_0_1 y k0) : gd c x = B_35_67_0_1 (gd c y) k0 := by cases c; rfl; exact h
theorem Bcond_35_67_0_1 {R : Type} {c : Bool} {x x' : Option R} {y y' : Option E_35_67_0_1} {k0 : List Int → List Int → List Int → List Int → List Int → Option R} (h : x = B_35_67_0_1 y k0) (h' : x' = B_35_67_0_1 y' k0) : (bif c then x else x') = B_35_67_0_1 (bif c then y else y') k0 := by cases c; exact h'; exact h
theorem loop_35_67_0_1 {R : Type} (k : Ex → St → Option R) : ∀ (m : Nat) (p0 : Nat) (p1 : Nat) (p2 : Nat) (p3 : Int) (p4 : List Int) (p5 : List Int) (p6 : List Int) (p7 : List Int) (p8 : List Int), evLoopN (evCodeL sm_35 FU (ovr noO (evFn sm_35 fns FU 0)) .nil ir67_b0) (St.norm ir67_v0) m (T_35_67_0_1 p0 p1 p2 p3 p4 p5 p6 p7 p8) k = B_35_67_0_1 (L_35_67_0_1 m p0 p1 p2 p3 p4 p5 p6 p7 p8) (fun p4 p5 p6 p7 p8 => k (Ex.exit (0 : Nat)) (X_35_67_0_1_0 p4 p5 p6 p7 p8))
 | 0, _, _, _, _, _, _, _, _, _ => rfl
 | m + 1, p0, p1, p2, p3, p4, p5, p6, p7, p8 => by
   rw [evLoopN_succ, body_35_67_0_1, L_35_67_0_1]
   repeat' first | apply Bgd_35_67_0_1 | apply Bcond_35_67_0_1 | exact loop_35_67_0_1 k m _ _ _ _ _ _ _ _ _ | rfl
theorem ok_35_67_0_1 {R : Type} (T : St) (k : Ex → St → Option R) (r : R) (h0 : o_35_67_0_1 G_35_67_0_1 T k = some r) : evLoopN (evCode sm_35 FU (evFn sm_35 fns FU 0) ir67_b0) (St.norm ir67_v0) FU T k = some r := by
 obtain ⟨p0, p1, p2, p3, p4, p5, p6, p7, p8, rfl, h⟩ := o_35_67_0_1_inv h0
 refine evLoopN_L (t := .nil) noO_ok trivial _ _ _ _ ?_
 rw [loop_35_67_0_1]
 exact h
theorem OK_35_67_0 {R : Type} (T : St) (k : Ex → St → Option R) (r : R) (h : O_35_67_0 T k = some r) : evLoopN (evCode sm_35 FU (evFn sm_35 fns FU 0) ir67_b0) (St.norm ir67_v0) FU T k = some r := by
 unfold O_35_67_0 at h
 cases hm : m_35_67_0_0 T
 rotate_left
 · rw [hm, cond_true] at h; exact ok_35_67_0_0 T k r h
 rw [hm, cond_false] at h
 clear hm
 cases hm : m_35_67_0_1 T
 rotate_left
 · rw [hm, cond_true] at h; exact ok_35_67_0_1 T k r h
 rw [hm, cond_false] at h
 clear hm
 cases h
theorem body_35_67_1_0 {R : Type} (K0 : St → Option R) (K1 : Ex → St → Option R) (p0 : Int) (p1 p2 p3 p4 : List Int) : evLB (evCodeL sm_35 FU (ovr noO (evFn sm_35 fns FU 0)) .nil ir67_b1) (St.norm ir67_v1) (T_35_67_1_0 p0 p1 p2 p3 p4) K0 K1 =
 bif decide (p0 < 64) then gd (inB (wrap i64 (p0 - 15)) 64) (gd (decide (toNat (wrap i64 (p0 - 15)) < 64) && true) (gd (inB (wrap i64 (p0 - 2)) 64) (gd (decide (toNat (wrap i64 (p0 - 2)) < 64) && true) (gd (p_96 (getD p4 (toNat (wrap i64 (p0 - 15))) 0) 7) (gd (p_96 (getD p4 (toNat (wrap i64 (p0 - 15))) 0) 18) (gd (p_96 (getD p4 (toNat (wrap i64 (p0 - 2))) 0) 17) (gd (p_96 (getD p4 (toNat (wrap i64 (p0 - 2))) 0) 19) (gd (inB (wrap i64 (p0 - 7)) 64) (gd (decide (toNat (wrap i64 (p0 - 7)) < 64) && true) (gd (inB (wrap i64 (p0 - 16)) 64) (gd (decide (toNat (wrap i64 (p0 - 16)) < 64) && true) (gd (inB p0 64) (gd (decide (toNat p0 < 64) && true) (K0 (T_35_67_1_0 (wrap i64 (p0 + 1)) p1 p2 p3 (List.set p4 (toNat p0) (wrap u32 (wrap u32 (wrap u32 (Sp.xorI u32 (Sp.xorI u32 ((v_96 (getD p4 (toNat (wrap i64 (p0 - 2))) 0) 17).1) ((v_96 (getD p4 (toNat (wrap i64 (p0 - 2))) 0) 19).1)) (Int.fdiv (getD p4 (toNat (wrap i64 (p0 - 2))) 0) 1024) + getD p4 (toNat (wrap i64 (p0 - 7))) 0) + Sp.xorI u32 (Sp.xorI u32 ((v_96 (getD p4 (toNat (wrap i64 (p0 - 15))) 0) 7).1) ((v_96 (getD p4 (toNat (wrap i64 (p0 - 15))) 0) 18).1)) (Int.fdiv (getD p4 (toNat (wrap i64 (p0 - 15))) 0) 8)) + getD p4 (toNat (wrap i64 (p0 - 16))) 0)))))))))))))))))) else K1 (Ex.exit 2) (X_35_67_1_0_0 p1 p2 p3 p4) := by kernel_rfl
theorem Bgd_35_67_1_0 {R : Type} {c : Bool} {x : Option R} {y : Option E_35_67_1_0} {k0 : List Int → List Int → List Int → List Int → Option R} (h : x = B_35_67_1_0 y k0) : gd c x = B_35_67_1_0 (gd c y) k0 := by cases c; rfl; exact h
theorem Bcond_35_67_1_0 {R : Type} {c : Bool} {x x' : Option R} {y y' : Option E_35_67_1_0} {k0 : List Int → List Int → List Int → List Int → Option R} (h : x = B_35_67_1_0 y k0) (h' : x' = B_35_67_1_0 y' k0) : (bif c then x else x') = B_35_67_1_0 (bif c then y else y') k0 := by cases c; exact h'; exact h
theorem loop_35_67_1_0 {R : Type} (k : Ex → St → Option R) : ∀ (m : Nat) (p0 : Int) (p1 : List Int) (p2 : List Int) (p3 : List Int) (p4 : List Int), evLoopN (evCodeL sm_35 FU (ovr noO (evFn sm_35 fns FU 0)) .nil ir67_b1) (St.norm ir67_v1) m (T_35_67_1_0 p0 p1 p2 p3 p4) k = B_35_67_1_0 (L_35_67_1_0 m p0 p1 p2 p3 p4) (fun p1 p2 p3 p4 => k (Ex.exit (2 : Nat)) (X_35_67_1_0_0 p1 p2 p3 p4))
 | 0, _, _, _, _, _ => rfl
 | m + 1, p0, p1, p2, p3, p4 => by
   rw [evLoopN_succ, body_35_67_1_0, L_35_67_1_0]
   repeat' first | apply Bgd_35_67_1_0 | apply Bcond_35_67_1_0 | exact loop_35_67_1_0 k m _ _ _ _ _ | rfl
theorem ok_35_67_1_0 {R : Type} (T : St) (k : Ex → St → Option R) (r : R) (h0 : o_35_67_1_0 G_35_67_1_0 T k = some r) : evLoopN (evCode sm_35 FU (evFn sm_35 fns FU 0) ir67_b1) (St.norm ir67_v1) FU T k = some r := by
 obtain ⟨p0, p1, p2, p3, p4, rfl, h⟩ := o_35_67_1_0_inv h0
 refine evLoopN_L (t := .nil) noO_ok trivial _ _ _ _ ?_
 rw [loop_35_67_1_0]
 exact h
theorem body_35_67_1_1 {R : Type} (K0 : St → Option R) (K1 : Ex → St → Option R) (p0 : Int) (p1 p2 p3 p4 p5 : List Int) : evLB (evCodeL sm_35 FU (ovr noO (evFn sm_35 fns FU 0)) .nil ir67_b1) (St.norm ir67_v1) (T_35_67_1_1 p0 p1 p2 p3 p4 p5) K0 K1 =
 bif decide (p0 < 64) then gd (inB (wrap i64 (p0 - 15)) 64) (gd (decide (toNat (wrap i64 (p0 - 15)) < 64) && true) (gd (inB (wrap i64 (p0 - 2)) 64) (gd (decide (toNat (wrap i64 (p0 - 2)) < 64) && true) (gd (p_96 (getD p5 (toNat (wrap i64 (p0 - 15))) 0) 7) (gd (p_96 (getD p5 (toNat (wrap i64 (p0 - 15))) 0) 18) (gd (p_96 (getD p5 (toNat (wrap i64 (p0 - 2))) 0) 17) (gd (p_96 (getD p5 (toNat (wrap i64 (p0 - 2))) 0) 19) (gd (inB (wrap i64 (p0 - 7)) 64) (gd (decide (toNat (wrap i64 (p0 - 7)) < 64) && true) (gd (inB (wrap i64 (p0 - 16)) 64) (gd (decide (toNat (wrap i64 (p0 - 16)) < 64) && true) (gd (inB p0 64) (gd (decide (toNat p0 < 64) && true) (K0 (T_35_67_1_1 (wrap i64 (p0 + 1)) p1 p2 p3 p4 (List.set p5 (toNat p0) (wrap u32 (wrap u32 (wrap u32 (Sp.xorI u32 (Sp.xorI u32 ((v_96 (getD p5 (toNat (wrap i64 (p0 - 2))) 0) 17).1) ((v_96 (getD p5 (toNat (wrap i64 (p0 - 2))) 0) 19).1)) (Int.fdiv (getD p5 (toNat (wrap i64 (p0 - 2))) 0) 1024) + getD p5 (toNat (wrap i64 (p0 - 7))) 0) + Sp.xorI u32 (Sp.xorI u32 ((v_96 (getD p5 (toNat (wrap i64 (p0 - 15))) 0) 7).1) ((v_96 (getD p5 (toNat (wrap i64 (p0 - 15))) 0) 18).1)) (Int.fdiv (getD p5 (toNat (wrap i64 (p0 - 15))) 0) 8)) + getD p5 (toNat (wrap i64 (p0 - 16))) 0)))))))))))))))))) else K1 (Ex.exit 2) (X_35_67_1_1_0 p1 p2 p3 p4 p5) := by kernel_rfl
theorem Bgd_35_67_1_1 {R : Type} {c : Bool} {x : Option R} {y : Option E_35_67_1_1} {k0 : List Int → List Int → List Int → List Int → List Int → Option R} (h : x = B_35_67_1_1 y k0) : gd c x = B_35_67_1_1 (gd c y) k0 := by cases c; rfl; exact h
theorem Bcond_35_67_1_1 {R : Type} {c : Bool} {x x' : Option R} {y y' : Option E_35_67_1_1} {k0 : List Int → List Int → List Int → List Int → List Int → Option R} (h : x = B_35_67_1_1 y k0) (h' : x' = B_35_67_1_1 y' k0) : (bif c then x else x') = B_35_67_1_1 (bif c then y else y') k0 := by cases c; exact h'; exact h
theorem loop_35_67_1_1 {R : Type} (k : Ex → St → Option R) : ∀ (m : Nat) (p0 : Int) (p1 : List Int) (p2 : List Int) (p3 : List Int) (p4 : List Int) (p5 : List Int), evLoopN (evCodeL sm_35 FU (ovr noO (evFn sm_35 fns FU 0)) .nil ir67_b1) (St.norm ir67_v1) m (T_35_67_1_1 p0 p1 p2 p3 p4 p5) k = B_35_67_1_1 (L_35_67_1_1 m p0 p1 p2 p3 p4 p5) (fun p1 p2 p3 p4 p5 => k (Ex.exit (2 : Nat)) (X_35_67_1_1_0 p1 p2 p3 p4 p5))
 | 0, _, _, _, _, _, _ => rfl
 | m + 1, p0, p1, p2, p3, p4, p5 => by
   rw [evLoopN_succ, body_35_67_1_1, L_35_67_1_1]
   repeat' first | apply Bgd_35_67_1_1 | apply Bcond_35_67_1_1 | exact loop_35_67_1_1 k m _ _ _ _ _ _ | rfl
theorem ok_35_67_1_1 {R : Type} (T : St) (k : Ex → St → Option R) (r : R) (h0 : o_35_67_1_1 G_35_67_1_1 T k = some r) : evLoopN (evCode sm_35 FU (evFn sm_35 fns FU 0) ir67_b1) (St.norm ir67_v1) FU T k = some r := by
 obtain ⟨p0, p1, p2, p3, p4, p5, rfl, h⟩ := o_35_67_1_1_inv h0
 refine evLoopN_L (t := .nil) noO_ok trivial _ _ _ _ ?_
 rw [loop_35_67_1_1]
 exact h
theorem OK_35_67_1 {R : Type} (T : St) (k : Ex → St → Option R) (r : R) (h : O_35_67_1 T k = some r) : evLoopN (evCode sm_35 FU (evFn sm_35 fns FU 0) ir67_b1) (St.norm ir67_v1) FU T k = some r := by
 unfold O_35_67_1 at h
 cases hm : m_35_67_1_0 T
 rotate_left
 · rw [hm, cond_true] at h; exact ok_35_67_1_0 T k r h
 rw [hm, cond_false] at h
 clear hm
 cases hm : m_35_67_1_1 T
 rotate_left
 · rw [hm, cond_true] at h; exact ok_35_67_1_1 T k r h
 rw [hm, cond_false] at h
 clear hm
 cases h
theorem body_35_67_2_0 {R : Type} (K0 : St → Option R) (K1 : Ex → St → Option R) (p0 : Int) (p1 p2 p3 p4 p5 : List Int) : evLB (evCodeL sm_35 FU (ovr noO (evFn sm_35 fns FU 0)) .nil ir67_b2) (St.norm ir67_v2) (T_35_67_2_0 p0 p1 p2 p3 p4 p5) K0 K1 =
 bif decide (p0 < 64) then gd (p_96 (getD p5 4 0) 6) (gd (p_96 (getD p5 4 0) 11) (gd (p_96 (getD p5 4 0) 25) (gd (inB p0 64) (gd (decide (toNat p0 < 64) && true) (gd (inB p0 64) (gd (decide (toNat p0 < 64) && true) (gd (p_96 (getD p5 0 0) 2) (gd (p_96 (getD p5 0 0) 13) (gd (p_96 (getD p5 0 0) 22) (K0 (T_35_67_2_0 (wrap i64 (p0 + 1)) p1 p2 p3 p4 [wrap u32 (wrap u32 (wrap u32 (wrap u32 (wrap u32 (getD p5 7 0 + Sp.xorI u32 (Sp.xorI u32 ((v_96 (getD p5 4 0) 6).1) ((v_96 (getD p5 4 0) 11).1)) ((v_96 (getD p5 4 0) 25).1)) + Sp.xorI u32 (Sp.andI u32 (getD p5 4 0) (getD p5 5 0)) (Sp.andI u32 (Sp.xorI u32 4294967295 (getD p5 4 0)) (getD p5 6 0))) + getD p3 (toNat p0) 0) + getD p4 (toNat p0) 0) + wrap u32 (Sp.xorI u32 (Sp.xorI u32 ((v_96 (getD p5 0 0) 2).1) ((v_96 (getD p5 0 0) 13).1)) ((v_96 (getD p5 0 0) 22).1) + Sp.xorI u32 (Sp.xorI u32 (Sp.andI u32 (getD p5 0 0) (getD p5 1 0)) (Sp.andI u32 (getD p5 0 0) (getD p5 2 0))) (Sp.andI u32 (getD p5 1 0) (getD p5 2 0)))), getD p5 0 0, getD p5 1 0, getD p5 2 0, wrap u32 (getD p5 3 0 + wrap u32 (wrap u32 (wrap u32 (wrap u32 (getD p5 7 0 + Sp.xorI u32 (Sp.xorI u32 ((v_96 (getD p5 4 0) 6).1) ((v_96 (getD p5 4 0) 11).1)) ((v_96 (getD p5 4 0) 25).1)) + Sp.xorI u32 (Sp.andI u32 (getD p5 4 0) (getD p5 5 0)) (Sp.andI u32 (Sp.xorI u32 4294967295 (getD p5 4 0)) (getD p5 6 0))) + getD p3 (toNat p0) 0) + getD p4 (toNat p0) 0)), getD p5 4 0, getD p5 5 0, getD p5 6 0]))))))))))) else K1 (Ex.exit 4) (X_35_67_2_0_0 p1 p2 p3 p5) := by kernel_rfl
theorem Bgd_35_67_2_0 {R : Type} {c : Bool} {x : Option R} {y : Option E_35_67_2_0} {k0 : List Int → List Int → List Int → List Int → Option R} (h : x = B_35_67_2_0 y k0) : gd c x = B_35_67_2_0 (gd c y) k0 := by cases c; rfl; exact h
theorem Bcond_35_67_2_0 {R : Type} {c : Bool} {x x' : Option R} {y y' : Option E_35_67_2_0} {k0 : List Int → List Int → List Int → List Int → Option R} (h : x = B_35_67_2_0 y k0) (h' : x' = B_35_67_2_0 y' k0) : (bif c then x else x') = B_35_67_2_0 (bif c then y else y') k0 := by cases c; exact h'; exact h
theorem loop_35_67_2_0 {R : Type} (k : Ex → St → Option R) : ∀ (m : Nat) (p0 : Int) (p1 : List Int) (p2 : List Int) (p3 : List Int) (p4 : List Int) (p5 : List Int), evLoopN (evCodeL sm_35 FU (ovr noO (evFn sm_35 fns FU 0)) .nil ir67_b2) (St.norm ir67_v2) m (T_35_67_2_0 p0 p1 p2 p3 p4 p5) k = B_35_67_2_0 (L_35_67_2_0 m p0 p1 p2 p3 p4 p5) (fun p1 p2 p3 p5 => k (Ex.exit (4 : Nat)) (X_35_67_2_0_0 p1 p2 p3 p5))
 | 0, _, _, _, _, _, _ => rfl
 | m + 1, p0, p1, p2, p3, p4, p5 => by
   rw [evLoopN_succ, body_35_67_2_0, L_35_67_2_0]
   repeat' first | apply Bgd_35_67_2_0 | apply Bcond_35_67_2_0 | exact loop_35_67_2_0 k m _ _ _ _ _ _ | rfl
theorem ok_35_67_2_0 {R : Type} (T : St) (k : Ex → St → Option R) (r : R) (h0 : o_35_67_2_0 G_35_67_2_0 T k = some r) : evLoopN (evCode sm_35 FU (evFn sm_35 fns FU 0) ir67_b2) (St.norm ir67_v2) FU T k = some r := by
 obtain ⟨p0, p1, p2, p3, p4, p5, rfl, h⟩ := o_35_67_2_0_inv h0
 refine evLoopN_L (t := .nil) noO_ok trivial _ _ _ _ ?_
 rw [loop_35_67_2_0]
 exact h
theorem body_35_67_2_1 {R : Type} (K0 : St → Option R) (K1 : Ex → St → Option R) (p0 : Int) (p1 p2 p3 p4 p5 p6 : List Int) : evLB (evCodeL sm_35 FU (ovr noO (evFn sm_35 fns FU 0)) .nil ir67_b2) (St.norm ir67_v2) (T_35_67_2_1 p0 p1 p2 p3 p4 p5 p6) K0 K1 =
 bif decide (p0 < 64) then gd (p_96 (getD p6 4 0) 6) (gd (p_96 (getD p6 4 0) 11) (gd (p_96 (getD p6 4 0) 25) (gd (inB p0 64) (gd (decide (toNat p0 < 64) && true) (gd (inB p0 64) (gd (decide (toNat p0 < 64) && true) (gd (p_96 (getD p6 0 0) 2) (gd (p_96 (getD p6 0 0) 13) (gd (p_96 (getD p6 0 0) 22) (K0 (T_35_67_2_1 (wrap i64 (p0 + 1)) p1 p2 p3 p4 p5 [wrap u32 (wrap u32 (wrap u32 (wrap u32 (wrap u32 (getD p6 7 0 + Sp.xorI u32 (Sp.xorI u32 ((v_96 (getD p6 4 0) 6).1) ((v_96 (getD p6 4 0) 11).1)) ((v_96 (getD p6 4 0) 25).1)) + Sp.xorI u32 (Sp.andI u32 (getD p6 4 0) (getD p6 5 0)) (Sp.andI u32 (Sp.xorI u32 4294967295 (getD p6 4 0)) (getD p6 6 0))) + getD p3 (toNat p0) 0) + getD p5 (toNat p0) 0) + wrap u32 (Sp.xorI u32 (Sp.xorI u32 ((v_96 (getD p6 0 0) 2).1) ((v_96 (getD p6 0 0) 13).1)) ((v_96 (getD p6 0 0) 22).1) + Sp.xorI u32 (Sp.xorI u32 (Sp.andI u32 (getD p6 0 0) (getD p6 1 0)) (Sp.andI u32 (getD p6 0 0) (getD p6 2 0))) (Sp.andI u32 (getD p6 1 0) (getD p6 2 0)))), getD p6 0 0, getD p6 1 0, getD p6 2 0, wrap u32 (getD p6 3 0 + wrap u32 (wrap u32 (wrap u32 (wrap u32 (getD p6 7 0 + Sp.xorI u32 (Sp.xorI u32 ((v_96 (getD p6 4 0) 6).1) ((v_96 (getD p6 4 0) 11).1)) ((v_96 (getD p6 4 0) 25).1)) + Sp.xorI u32 (Sp.andI u32 (getD p6 4 0) (getD p6 5 0)) (Sp.andI u32 (Sp.xorI u32 4294967295 (getD p6 4 0)) (getD p6 6 0))) + getD p3 (toNat p0) 0) + getD p5 (toNat p0) 0)), getD p6 4 0, getD p6 5 0, getD p6 6 0]))))))))))) else K1 (Ex.exit 4) (X_35_67_2_1_0 p1 p2 p3 p4 p6) := by kernel_rfl
theorem Bgd_35_67_2_1 {R : Type} {c : Bool} {x : Option R} {y : Option E_35_67_2_1} {k0 : List Int → List Int → List Int → List Int → List Int → Option R} (h : x = B_35_67_2_1 y k0) : gd c x = B_35_67_2_1 (gd c y) k0 := by cases c; rfl; exact h
theorem Bcond_35_67_2_1 {R : Type} {c : Bool} {x x' : Option R} {y y' : Option E_35_67_2_1} {k0 : List Int → List Int → List Int → List Int → List Int → Option R} (h : x = B_35_67_2_1 y k0) (h' : x' = B_35_67_2_1 y' k0) : (bif c then x else x') = B_35_67_2_1 (bif c then y else y') k0 := by cases c; exact h'; exact h
theorem loop_35_67_2_1 {R : Type} (k : Ex → St → Option R) : ∀ (m : Nat) (p0 : Int) (p1 : List Int) (p2 : List Int) (p3 : List Int) (p4 : List Int) (p5 : List Int) (p6 : List Int), evLoopN (evCodeL sm_35 FU (ovr noO (evFn sm_35 fns FU 0)) .nil ir67_b2) (St.norm ir67_v2) m (T_35_67_2_1 p0 p1 p2 p3 p4 p5 p6) k = B_35_67_2_1 (L_35_67_2_1 m p0 p1 p2 p3 p4 p5 p6) (fun p1 p2 p3 p4 p6 => k (Ex.exit (4 : Nat)) (X_35_67_2_1_0 p1 p2 p3 p4 p6))
 | 0, _, _, _, _, _, _, _ => rfl
 | m + 1, p0, p1, p2, p3, p4, p5, p6 => by
   rw [evLoopN_succ, body_35_67_2_1, L_35_67_2_1]
   repeat' first | apply Bgd_35_67_2_1 | apply Bcond_35_67_2_1 | exact loop_35_67_2_1 k m _ _ _ _ _ _ _ | rfl
theorem ok_35_67_2_1 {R : Type} (T : St) (k : Ex → St → Option R) (r : R) (h0 : o_35_67_2_1 G_35_67_2_1 T k = some r) : evLoopN (evCode sm_35 FU (evFn sm_35 fns FU 0) ir67_b2) (St.norm ir67_v2) FU T k = some r := by
 obtain ⟨p0, p1, p2, p3, p4, p5, p6, rfl, h⟩ := o_35_67_2_1_inv h0
 refine evLoopN_L (t := .nil) noO_ok trivial _ _ _ _ ?_
 rw [loop_35_67_2_1]
 exact h
theorem OK_35_67_2 {R : Type} (T : St) (k : Ex → St → Option R) (r : R) (h : O_35_67_2 T k = some r) : evLoopN (evCode sm_35 FU (evFn sm_35 fns FU 0) ir67_b2) (St.norm ir67_v2) FU T k = some r := by
 unfold O_35_67_2 at h
 cases hm : m_35_67_2_0 T
 rotate_left
 · rw [hm, cond_true] at h; exact ok_35_67_2_0 T k r h
 rw [hm, cond_false] at h
 clear hm
 cases hm : m_35_67_2_1 T
 rotate_left
 · rw [hm, cond_true] at h; exact ok_35_67_2_1 T k r h
 rw [hm, cond_false] at h
 clear hm
 cases h
theorem body_35_67_3_0 {R : Type} (K0 : St → Option R) (K1 : Ex → St → Option R) (p0 : Int) (p1 p2 p3 p4 : List Int) : evLB (evCodeL sm_35 FU (ovr noO (evFn sm_35 fns FU 0)) .nil ir67_b3) (St.norm ir67_v3) (T_35_67_3_0 p0 p1 p2 p3 p4) K0 K1 =
 bif decide (p0 < 8) then gd (inB p0 8) (gd (decide (toNat p0 < 8) && true) (gd (inB p0 8) (gd (decide (toNat p0 < 8) && true) (gd (inB p0 8) (gd (decide (toNat p0 < 8) && true) (K0 (T_35_67_3_0 (wrap i64 (p0 + 1)) p1 (List.set p2 (toNat p0) (wrap u32 (getD p2 (toNat p0) 0 + getD p4 (toNat p0) 0))) p3 p4))))))) else K1 (Ex.exit 6) (X_35_67_3_0_0 p1 p2 p3) := by kernel_rfl
theorem Bgd_35_67_3_0 {R : Type} {c : Bool} {x : Option R} {y : Option E_35_67_3_0} {k0 : List Int → List Int → List Int → Option R} (h : x = B_35_67_3_0 y k0) : gd c x = B_35_67_3_0 (gd c y) k0 := by cases c; rfl; exact h
theorem Bcond_35_67_3_0 {R : Type} {c : Bool} {x x' : Option R} {y y' : Option E_35_67_3_0} {k0 : List Int → List Int → List Int → Option R} (h : x = B_35_67_3_0 y k0) (h' : x' = B_35_67_3_0 y' k0) : (bif c then x else x') = B_35_67_3_0 (bif c then y else y') k0 := by cases c; exact h'; exact h
theorem loop_35_67_3_0 {R : Type} (k : Ex → St → Option R) : ∀ (m : Nat) (p0 : Int) (p1 : List Int) (p2 : List Int) (p3 : List Int) (p4 : List Int), evLoopN (evCodeL sm_35 FU (ovr noO (evFn sm_35 fns FU 0)) .nil ir67_b3) (St.norm ir67_v3) m (T_35_67_3_0 p0 p1 p2 p3 p4) k = B_35_67_3_0 (L_35_67_3_0 m p0 p1 p2 p3 p4) (fun p1 p2 p3 => k (Ex.exit (6 : Nat)) (X_35_67_3_0_0 p1 p2 p3))
 | 0, _, _, _, _, _ => rfl
 | m + 1, p0, p1, p2, p3, p4 => by
   rw [evLoopN_succ, body_35_67_3_0, L_35_67_3_0]
   repeat' first | apply Bgd_35_67_3_0 | apply Bcond_35_67_3_0 | exact loop_35_67_3_0 k m _ _ _ _ _ | rfl
theorem ok_35_67_3_0 {R : Type} (T : St) (k : Ex → St → Option R) (r : R) (h0 : o_35_67_3_0 G_35_67_3_0 T k = some r) : evLoopN (evCode sm_35 FU (evFn sm_35 fns FU 0) ir67_b3) (St.norm ir67_v3) FU T k = some r := by
 obtain ⟨p0, p1, p2, p3, p4, rfl, h⟩ := o_35_67_3_0_inv h0
 refine evLoopN_L (t := .nil) noO_ok trivial _ _ _ _ ?_
 rw [loop_35_67_3_0]
 exact h
theorem body_35_67_3_1 {R : Type} (K0 : St → Option R) (K1 : Ex → St → Option R) (p0 : Int) (p1 p2 p3 p4 p5 : List Int) : evLB (evCodeL sm_35 FU (ovr noO (evFn sm_35 fns FU 0)) .nil ir67_b3) (St.norm ir67_v3) (T_35_67_3_1 p0 p1 p2 p3 p4 p5) K0 K1 =
 bif decide (p0 < 8) then gd (inB p0 8) (gd (decide (toNat p0 < 8) && true) (gd (inB p0 8) (gd (decide (toNat p0 < 8) && true) (gd (inB p0 8) (gd (decide (toNat p0 < 8) && true) (K0 (T_35_67_3_1 (wrap i64 (p0 + 1)) p1 (List.set p2 (toNat p0) (wrap u32 (getD p2 (toNat p0) 0 + getD p5 (toNat p0) 0))) p3 p4 p5))))))) else K1 (Ex.exit 6) (X_35_67_3_1_0 p1 p2 p3 p4) := by kernel_rfl
theorem Bgd_35_67_3_1 {R : Type} {c : Bool} {x : Option R} {y : Option E_35_67_3_1} {k0 : List Int → List Int → List Int → List Int → Option R} (h : x = B_35_67_3_1 y k0) : gd c x = B_35_67_3_1 (gd c y) k0 := by cases c; rfl; exact h
theorem Bcond_35_67_3_1 {R : Type} {c : Bool} {x x' : Option R} {y y' : Option E_35_67_3_1} {k0 : List Int → List Int → List Int → List Int → Option R} (h : x = B_35_67_3_1 y k0) (h' : x' = B_35_67_3_1 y' k0) : (bif c then x else x') = B_35_67_3_1 (bif c then y else y') k0 := by cases c; exact h'; exact h
theorem loop_35_67_3_1 {R : Type} (k : Ex → St → Option R) : ∀ (m : Nat) (p0 : Int) (p1 : List Int) (p2 : List Int) (p3 : List Int) (p4 : List Int) (p5 : List Int), evLoopN (evCodeL sm_35 FU (ovr noO (evFn sm_35 fns FU 0)) .nil ir67_b3) (St.norm ir67_v3) m (T_35_67_3_1 p0 p1 p2 p3 p4 p5) k = B_35_67_3_1 (L_35_67_3_1 m p0 p1 p2 p3 p4 p5) (fun p1 p2 p3 p4 => k (Ex.exit (6 : Nat)) (X_35_67_3_1_0 p1 p2 p3 p4))
 | 0, _, _, _, _, _, _ => rfl
 | m + 1, p0, p1, p2, p3, p4, p5 => by
   rw [evLoopN_succ, body_35_67_3_1, L_35_67_3_1]
   repeat' first | apply Bgd_35_67_3_1 | apply Bcond_35_67_3_1 | exact loop_35_67_3_1 k m _ _ _ _ _ _ | rfl
theorem ok_35_67_3_1 {R : Type} (T : St) (k : Ex → St → Option R) (r : R) (h0 : o_35_67_3_1 G_35_67_3_1 T k = some r) : evLoopN (evCode sm_35 FU (evFn sm_35 fns FU 0) ir67_b3) (St.norm ir67_v3) FU T k = some r := by
 obtain ⟨p0, p1, p2, p3, p4, p5, rfl, h⟩ := o_35_67_3_1_inv h0
 refine evLoopN_L (t := .nil) noO_ok trivial _ _ _ _ ?_
 rw [loop_35_67_3_1]
 exact h
theorem OK_35_67_3 {R : Type} (T : St) (k : Ex → St → Option R) (r : R) (h : O_35_67_3 T k = some r) : evLoopN (evCode sm_35 FU (evFn sm_35 fns FU 0) ir67_b3) (St.norm ir67_v3) FU T k = some r := by
 unfold O_35_67_3 at h
 cases hm : m_35_67_3_0 T
 rotate_left
 · rw [hm, cond_true] at h; exact ok_35_67_3_0 T k r h
 rw [hm, cond_false] at h
 clear hm
 cases hm : m_35_67_3_1 T
 rotate_left
 · rw [hm, cond_true] at h; exact ok_35_67_3_1 T k r h
 rw [hm, cond_false] at h
 clear hm
 cases h
theorem g_35_67_ok {R : Type} (args : List CV) (hp : List Blk) (k : CV → List Blk → Option R) (r : R) (h : g_35_67 args hp k = some r) : evFn sm_35 fns FU 1 67 args hp k = some r :=
 evFnL_sound (fn := ir67) (t := (ir67_t O_35_67_0 O_35_67_1 O_35_67_2 O_35_67_3)) (o := noO) rfl noO_ok (ir67_tok (fun T k r => OK_35_67_0 T k r) (fun T k r => OK_35_67_1 T k r) (fun T k r => OK_35_67_2 T k r) (fun T k r => OK_35_67_3 T k r)) h
theorem ov_35_35_ok {R : Type} : OvrOK (R := R) (fun f' => bif Nat.beq f' 67 then some (g_35_67) else none) (evFn sm_35 fns FU 1) := by
 intro f' g h args hp k r hg
 dsimp only at h
 by_cases h67 : f' = 67
 · subst h67
   injection h with h
   subst h
   exact evFn_le 0 (g_35_67_ok _ _ _ _ hg)
 rw [nbeq_ne h67, cond_false] at h
 cases h
theorem body_35_0 {R : Type} (K0 : St → Option R) (K1 : Ex → St → Option R) (p0 p1 p2 p3 p4 : List Int) : evLB (evCodeL sm_35 FU (ovr (fun f' => bif Nat.beq f' 67 then some (g_35_67) else none) (evFn sm_35 fns FU 1)) .nil ir35_b0) (St.norm ir35_v0) (T_35_0 p0 p1 p2 p3 p4) K0 K1 =
 bif decide ((↑(length p1) : Int) ≥ 64) then gd (sl3 0 64 (↑(length p1) : Int)) (B_35_67_0_0 (L_35_67_0_0 4611686018427387904 (take 64 (drop 0 p1)) 0 p2 p3 p4 (replicate 64 (0 :Int))) fun y19 y20 y21 y22 => B_35_67_1_0 (L_35_67_1_0 4611686018427387904 16 y19 y20 y21 y22) fun y23 y24 y25 y26 => B_35_67_2_0 (L_35_67_2_0 4611686018427387904 0 y23 y24 y25 y26 y24) fun y27 y28 y29 y30 => B_35_67_3_0 (L_35_67_3_0 4611686018427387904 0 y27 y28 y29 y30) fun y31 y32 y33 => gd (sl3 64 (↑(length p1) : Int) (↑(length p1) : Int)) (K0 (T_35_0 p0 (drop 64 p1) y31 y32 y33))) else K1 (Ex.exit 0) (X_35_0_0 p0 p1 p2 p3 p4) := by kernel_rfl
theorem Bgd_35_0 {R : Type} {c : Bool} {x : Option R} {y : Option E_35_0} {k0 : List Int → List Int → List Int → List Int → List Int → Option R} (h : x = B_35_0 y k0) : gd c x = B_35_0 (gd c y) k0 := by cases c; rfl; exact h
theorem Bcond_35_0 {R : Type} {c : Bool} {x x' : Option R} {y y' : Option E_35_0} {k0 : List Int → List Int → List Int → List Int → List Int → Option R} (h : x = B_35_0 y k0) (h' : x' = B_35_0 y' k0) : (bif c then x else x') = B_35_0 (bif c then y else y') k0 := by cases c; exact h'; exact h
theorem Bin_35_0_35_67_0_0 {R : Type} {r : Option E_35_67_0_0} {k0 : List Int → List Int → List Int → List Int → List Int → Option R} {f0 : List Int → List Int → List Int → List Int → Option R} {g0 : List Int → List Int → List Int → List Int → Option E_35_0} (h0 : ∀ z0 z1 z2 z3, f0 z0 z1 z2 z3 = B_35_0 (g0 z0 z1 z2 z3) k0) : B_35_67_0_0 r f0 = B_35_0 (B_35_67_0_0 r g0) k0 := by
 cases r with
 | none => rfl
 | some e => cases e with
   | e0 z0 z1 z2 z3 => exact h0 _ _ _ _
theorem Bin_35_0_35_67_1_0 {R : Type} {r : Option E_35_67_1_0} {k0 : List Int → List Int → List Int → List Int → List Int → Option R} {f0 : List Int → List Int → List Int → List Int → Option R} {g0 : List Int → List Int → List Int → List Int → Option E_35_0} (h0 : ∀ z0 z1 z2 z3, f0 z0 z1 z2 z3 = B_35_0 (g0 z0 z1 z2 z3) k0) : B_35_67_1_0 r f0 = B_35_0 (B_35_67_1_0 r g0) k0 := by
 cases r with
 | none => rfl
 | some e => cases e with
   | e0 z0 z1 z2 z3 => exact h0 _ _ _ _
theorem Bin_35_0_35_67_2_0 {R : Type} {r : Option E_35_67_2_0} {k0 : List Int → List Int → List Int → List Int → List Int → Option R} {f0 : List Int → List Int → List Int → List Int → Option R} {g0 : List Int → List Int → List Int → List Int → Option E_35_0} (h0 : ∀ z0 z1 z2 z3, f0 z0 z1 z2 z3 = B_35_0 (g0 z0 z1 z2 z3) k0) : B_35_67_2_0 r f0 = B_35_0 (B_35_67_2_0 r g0) k0 := by
 cases r with
 | none => rfl
 | some e => cases e with
   | e0 z0 z1 z2 z3 => exact h0 _ _ _ _
theorem Bin_35_0_35_67_3_0 {R : Type} {r : Option E_35_67_3_0} {k0 : List Int → List Int → List Int → List Int → List Int → Option R} {f0 : List Int → List Int → List Int → Option R} {g0 : List Int → List Int → List Int → Option E_35_0} (h0 : ∀ z0 z1 z2, f0 z0 z1 z2 = B_35_0 (g0 z0 z1 z2) k0) : B_35_67_3_0 r f0 = B_35_0 (B_35_67_3_0 r g0) k0 := by
 cases r with
 | none => rfl
 | some e => cases e with
   | e0 z0 z1 z2 => exact h0 _ _ _
theorem loop_35_0 {R : Type} (k : Ex → St → Option R) : ∀ (m : Nat) (p0 : List Int) (p1 : List Int) (p2 : List Int) (p3 : List Int) (p4 : List Int), evLoopN (evCodeL sm_35 FU (ovr (fun f' => bif Nat.beq f' 67 then some (g_35_67) else none) (evFn sm_35 fns FU 1)) .nil ir35_b0) (St.norm ir35_v0) m (T_35_0 p0 p1 p2 p3 p4) k = B_35_0 (L_35_0 m p0 p1 p2 p3 p4) (fun p0 p1 p2 p3 p4 => k (Ex.exit (0 : Nat)) (X_35_0_0 p0 p1 p2 p3 p4))
 | 0, _, _, _, _, _ => rfl
 | m + 1, p0, p1, p2, p3, p4 => by
   rw [evLoopN_succ, body_35_0, L_35_0]
   repeat' first | apply Bgd_35_0 | apply Bcond_35_0 | (apply Bin_35_0_35_67_0_0 <;> intros) | (apply Bin_35_0_35_67_1_0 <;> intros) | (apply Bin_35_0_35_67_2_0 <;> intros) | (apply Bin_35_0_35_67_3_0 <;> intros) | exact loop_35_0 k m _ _ _ _ _ | rfl
theorem ok_35_0 {R : Type} (T : St) (k : Ex → St → Option R) (r : R) (h0 : o_35_0 G_35_0 T k = some r) : evLoopN (evCode sm_35 FU (evFn sm_35 fns FU 1) ir35_b0) (St.norm ir35_v0) FU T k = some r := by
 obtain ⟨p0, p1, p2, p3, p4, rfl, h⟩ := o_35_0_inv h0
 refine evLoopN_L (t := .nil) ov_35_35_ok trivial _ _ _ _ ?_
 rw [loop_35_0]
 exact h
theorem OK_35_35_0 {R : Type} (T : St) (k : Ex → St → Option R) (r : R) (h : O_35_35_0 T k = some r) : evLoopN (evCode sm_35 FU (evFn sm_35 fns FU 1) ir35_b0) (St.norm ir35_v0) FU T k = some r := ok_35_0 T k r h
theorem body_35_2 {R : Type} (K0 : St → Option R) (K1 : Ex → St → Option R) (p0 p1 : Int) (p2 p3 p4 p5 : List Int) : evLB (evCodeL sm_35 FU (ovr (fun f' => bif Nat.beq f' 67 then some (g_35_67) else none) (evFn sm_35 fns FU 1)) .nil ir35_b2) (St.norm ir35_v2) (T_35_2 p0 p1 p2 p3 p4 p5) K0 K1 =
 bif decide (p1 < p0) then gd (sl3 p1 (wrap i64 (p1 + 64)) 128) (B_35_67_0_1 (L_35_67_0_1 4611686018427387904 (toNat p1) (toNat (wrap i64 (p1 + 64)) - toNat p1) (128 - toNat p1) 0 p2 p3 p4 p5 (replicate 64 (0 :Int))) fun y19 y20 y21 y22 y23 => B_35_67_1_1 (L_35_67_1_1 4611686018427387904 16 y19 y20 y21 y22 y23) fun y24 y25 y26 y27 y28 => B_35_67_2_1 (L_35_67_2_1 4611686018427387904 0 y24 y25 y26 y27 y28 y25) fun y29 y30 y31 y32 y33 => B_35_67_3_1 (L_35_67_3_1 4611686018427387904 0 y29 y30 y31 y32 y33) fun y34 y35 y36 y37 => K0 (T_35_2 p0 (wrap i64 (p1 + 64)) y34 y35 y36 y37)) else K1 (Ex.exit 2) (X_35_2_0 p2 p3) := by kernel_rfl
theorem Bgd_35_2 {R : Type} {c : Bool} {x : Option R} {y : Option E_35_2} {k0 : List Int → List Int → Option R} (h : x = B_35_2 y k0) : gd c x = B_35_2 (gd c y) k0 := by cases c; rfl; exact h
theorem Bcond_35_2 {R : Type} {c : Bool} {x x' : Option R} {y y' : Option E_35_2} {k0 : List Int → List Int → Option R} (h : x = B_35_2 y k0) (h' : x' = B_35_2 y' k0) : (bif c then x else x') = B_35_2 (bif c then y else y') k0 := by cases c; exact h'; exact h
theorem Bin_35_2_35_67_0_1 {R : Type} {r : Option E_35_67_0_1} {k0 : List Int → List Int → Option R} {f0 : List Int → List Int → List Int → List Int → List Int → Option R} {g0 : List Int → List Int → List Int → List Int → List Int → Option E_35_2} (h0 : ∀ z0 z1 z2 z3 z4, f0 z0 z1 z2 z3 z4 = B_35_2 (g0 z0 z1 z2 z3 z4) k0) : B_35_67_0_1 r f0 = B_35_2 (B_35_67_0_1 r g0) k0 := by
 cases r with
 | none => rfl
 | some e => cases e with
   | e0 z0 z1 z2 z3 z4 => exact h0 _ _ _ _ _
theorem Bin_35_2_35_67_1_1 {R : Type} {r : Option E_35_67_1_1} {k0 : List Int → List Int → Option R} {f0 : List Int → List Int → List Int → List Int → List Int → Option R} {g0 : List Int → List Int → List Int → List Int → List Int → Option E_35_2} (h0 : ∀ z0 z1 z2 z3 z4, f0 z0 z1 z2 z3 z4 = B_35_2 (g0 z0 z1 z2 z3 z4) k0) : B_35_67_1_1 r f0 = B_35_2 (B_35_67_1_1 r g0) k0 := by
 cases r with
 | none => rfl
 | some e => cases e with
   | e0 z0 z1 z2 z3 z4 => exact h0 _ _ _ _ _
theorem Bin_35_2_35_67_2_1 {R : Type} {r : Option E_35_67_2_1} {k0 : List Int → List Int → Option R} {f0 : List Int → List Int → List Int → List Int → List Int → Option R} {g0 : List Int → List Int → List Int → List Int → List Int → Option E_35_2} (h0 : ∀ z0 z1 z2 z3 z4, f0 z0 z1 z2 z3 z4 = B_35_2 (g0 z0 z1 z2 z3 z4) k0) : B_35_67_2_1 r f0 = B_35_2 (B_35_67_2_1 r g0) k0 := by
 cases r with
 | none => rfl
 | some e => cases e with
   | e0 z0 z1 z2 z3 z4 => exact h0 _ _ _ _ _
theorem Bin_35_2_35_67_3_1 {R : Type} {r : Option E_35_67_3_1} {k0 : List Int → List Int → Option R} {f0 : List Int → List Int → List Int → List Int → Option R} {g0 : List Int → List Int → List Int → List Int → Option E_35_2} (h0 : ∀ z0 z1 z2 z3, f0 z0 z1 z2 z3 = B_35_2 (g0 z0 z1 z2 z3) k0) : B_35_67_3_1 r f0 = B_35_2 (B_35_67_3_1 r g0) k0 := by
 cases r with
 | none => rfl
 | some e => cases e with
   | e0 z0 z1 z2 z3 => exact h0 _ _ _ _
theorem loop_35_2 {R : Type} (k : Ex → St → Option R) : ∀ (m : Nat) (p0 : Int) (p1 : Int) (p2 : List Int) (p3 : List Int) (p4 : List Int) (p5 : List Int), evLoopN (evCodeL sm_35 FU (ovr (fun f' => bif Nat.beq f' 67 then some (g_35_67) else none) (evFn sm_35 fns FU 1)) .nil ir35_b2) (St.norm ir35_v2) m (T_35_2 p0 p1 p2 p3 p4 p5) k = B_35_2 (L_35_2 m p0 p1 p2 p3 p4 p5) (fun p2 p3 => k (Ex.exit (2 : Nat)) (X_35_2_0 p2 p3))
 | 0, _, _, _, _, _, _ => rfl
 | m + 1, p0, p1, p2, p3, p4, p5 => by
   rw [evLoopN_succ, body_35_2, L_35_2]
   repeat' first | apply Bgd_35_2 | apply Bcond_35_2 | (apply Bin_35_2_35_67_0_1 <;> intros) | (apply Bin_35_2_35_67_1_1 <;> intros) | (apply Bin_35_2_35_67_2_1 <;> intros) | (apply Bin_35_2_35_67_3_1 <;> intros) | exact loop_35_2 k m _ _ _ _ _ _ | rfl
theorem ok_35_2 {R : Type} (T : St) (k : Ex → St → Option R) (r : R) (h0 : o_35_2 G_35_2 T k = some r) : evLoopN (evCode sm_35 FU (evFn sm_35 fns FU 1) ir35_b2) (St.norm ir35_v2) FU T k = some r := by
 obtain ⟨p0, p1, p2, p3, p4, p5, rfl, h⟩ := o_35_2_inv h0
 refine evLoopN_L (t := .nil) ov_35_35_ok trivial _ _ _ _ ?_
 rw [loop_35_2]
 exact h
theorem OK_35_35_2 {R : Type} (T : St) (k : Ex → St → Option R) (r : R) (h : O_35_35_2 T k = some r) : evLoopN (evCode sm_35 FU (evFn sm_35 fns FU 1) ir35_b2) (St.norm ir35_v2) FU T k = some r := ok_35_2 T k r h
theorem body_35_3 {R : Type} (K0 : St → Option R) (K1 : Ex → St → Option R) (p0 : List Int) (p1 : Int) (p2 p3 : List Int) : evLB (evCodeL sm_35 FU (ovr (fun f' => bif Nat.beq f' 67 then some (g_35_67) else none) (evFn sm_35 fns FU 1)) .nil ir35_b3) (St.norm ir35_v3) (T_35_3 p0 p1 p2 p3) K0 K1 =
 bif decide (p1 < 8) then gd (inB p1 8) (gd (sl3 (wrap i64 (4 * p1)) 32 32) (gd (inB 0 (32 - toNat (wrap i64 (4 * p1)))) (gd (decide (toNat (wrap i64 (4 * p1)) + (0 :Nat) < (32 :Nat)) && true) (gd (inB 1 (32 - toNat (wrap i64 (4 * p1)))) (gd (decide (toNat (wrap i64 (4 * p1)) + (1 :Nat) < (32 :Nat)) && true) (gd (inB 2 (32 - toNat (wrap i64 (4 * p1)))) (gd (decide (toNat (wrap i64 (4 * p1)) + (2 :Nat) < (32 :Nat)) && true) (gd (inB 3 (32 - toNat (wrap i64 (4 * p1)))) (gd (decide (toNat (wrap i64 (4 * p1)) + (3 :Nat) < (32 :Nat)) && true) (K0 (T_35_3 p0 (wrap i64 (p1 + 1)) p2 (List.set (List.set (List.set (List.set p3 (toNat (wrap i64 (4 * p1)) + 0) (wrap u8 (Int.fdiv (getD p0 (toNat p1) 0) 16777216))) (toNat (wrap i64 (4 * p1)) + 1) (wrap u8 (Int.fdiv (getD p0 (toNat p1) 0) 65536))) (toNat (wrap i64 (4 * p1)) + 2) (wrap u8 (Int.fdiv (getD p0 (toNat p1) 0) 256))) (toNat (wrap i64 (4 * p1)) + 3) (wrap u8 (getD p0 (toNat p1) 0)))))))))))))) else K1 (Ex.exit 4) (X_35_3_0 p2 p3) := by kernel_rfl
theorem Bgd_35_3 {R : Type} {c : Bool} {x : Option R} {y : Option E_35_3} {k0 : List Int → List Int → Option R} (h : x = B_35_3 y k0) : gd c x = B_35_3 (gd c y) k0 := by cases c; rfl; exact h
theorem Bcond_35_3 {R : Type} {c : Bool} {x x' : Option R} {y y' : Option E_35_3} {k0 : List Int → List Int → Option R} (h : x = B_35_3 y k0) (h' : x' = B_35_3 y' k0) : (bif c then x else x') = B_35_3 (bif c then y else y') k0 := by cases c; exact h'; exact h
theorem loop_35_3 {R : Type} (k : Ex → St → Option R) : ∀ (m : Nat) (p0 : List Int) (p1 : Int) (p2 : List Int) (p3 : List Int), evLoopN (evCodeL sm_35 FU (ovr (fun f' => bif Nat.beq f' 67 then some (g_35_67) else none) (evFn sm_35 fns FU 1)) .nil ir35_b3) (St.norm ir35_v3) m (T_35_3 p0 p1 p2 p3) k = B_35_3 (L_35_3 m p0 p1 p2 p3) (fun p2 p3 => k (Ex.exit (4 : Nat)) (X_35_3_0 p2 p3))
 | 0, _, _, _, _ => rfl
 | m + 1, p0, p1, p2, p3 => by
   rw [evLoopN_succ, body_35_3, L_35_3]
   repeat' first | apply Bgd_35_3 | apply Bcond_35_3 | exact loop_35_3 k m _ _ _ _ | rfl
theorem ok_35_3 {R : Type} (T : St) (k : Ex → St → Option R) (r : R) (h0 : o_35_3 G_35_3 T k = some r) : evLoopN (evCode sm_35 FU (evFn sm_35 fns FU 1) ir35_b3) (St.norm ir35_v3) FU T k = some r := by
 obtain ⟨p0, p1, p2, p3, rfl, h⟩ := o_35_3_inv h0
 refine evLoopN_L (t := .nil) ov_35_35_ok trivial _ _ _ _ ?_
 rw [loop_35_3]
 exact h
theorem OK_35_35_3 {R : Type} (T : St) (k : Ex → St → Option R) (r : R) (h : O_35_35_3 T k = some r) : evLoopN (evCode sm_35 FU (evFn sm_35 fns FU 1) ir35_b3) (St.norm ir35_v3) FU T k = some r := ok_35_3 T k r h
theorem body_35_1 {R : Type} (K1 : Ex → St → Option R) (p0 : List Int) (p1 : Int) (p2 p3 p4 p5 : List Int) : evJ (evCodeL sm_35 FU (ovr (fun f' => bif Nat.beq f' 67 then some (g_35_67) else none) (evFn sm_35 fns FU 1)) (ir35_bt1 O_35_35_2 O_35_35_3) ir35_b1) (T_35_1 p0 p1 p2 p3 p4 p5) K1 =
 gd (sl3 (wrap i64 (p1 - 8)) 128 128) (gd (inB 0 (128 - toNat (wrap i64 (p1 - 8)))) (gd (decide (toNat (wrap i64 (p1 - 8)) + (0 :Nat) < (128 :Nat)) && true) (gd (inB 1 (128 - toNat (wrap i64 (p1 - 8)))) (gd (decide (toNat (wrap i64 (p1 - 8)) + (1 :Nat) < (128 :Nat)) && true) (gd (inB 2 (128 - toNat (wrap i64 (p1 - 8)))) (gd (decide (toNat (wrap i64 (p1 - 8)) + (2 :Nat) < (128 :Nat)) && true) (gd (inB 3 (128 - toNat (wrap i64 (p1 - 8)))) (gd (decide (toNat (wrap i64 (p1 - 8)) + (3 :Nat) < (128 :Nat)) && true) (gd (sl3 (wrap i64 (p1 - 4)) 128 128) (gd (inB 0 (128 - toNat (wrap i64 (p1 - 4)))) (gd (decide (toNat (wrap i64 (p1 - 4)) + (0 :Nat) < (128 :Nat)) && true) (gd (inB 1 (128 - toNat (wrap i64 (p1 - 4)))) (gd (decide (toNat (wrap i64 (p1 - 4)) + (1 :Nat) < (128 :Nat)) && true) (gd (inB 2 (128 - toNat (wrap i64 (p1 - 4)))) (gd (decide (toNat (wrap i64 (p1 - 4)) + (2 :Nat) < (128 :Nat)) && true) (gd (inB 3 (128 - toNat (wrap i64 (p1 - 4)))) (gd (decide (toNat (wrap i64 (p1 - 4)) + (3 :Nat) < (128 :Nat)) && true) (B_35_2 (L_35_2 4611686018427387904 p1 0 p2 p3 p4 (List.set (List.set (List.set (List.set (List.set (List.set (List.set (List.set p5 (toNat (wrap i64 (p1 - 8)) + 0) (wrap u8 (Int.fdiv (wrap u32 (Int.fdiv (wrap u64 (wrap u64 (↑(length p0) : Int) * 8)) 4294967296)) 16777216))) (toNat (wrap i64 (p1 - 8)) + 1) (wrap u8 (Int.fdiv (wrap u32 (Int.fdiv (wrap u64 (wrap u64 (↑(length p0) : Int) * 8)) 4294967296)) 65536))) (toNat (wrap i64 (p1 - 8)) + 2) (wrap u8 (Int.fdiv (wrap u32 (Int.fdiv (wrap u64 (wrap u64 (↑(length p0) : Int) * 8)) 4294967296)) 256))) (toNat (wrap i64 (p1 - 8)) + 3) (wrap u8 (wrap u32 (Int.fdiv (wrap u64 (wrap u64 (↑(length p0) : Int) * 8)) 4294967296)))) (toNat (wrap i64 (p1 - 4)) + 0) (wrap u8 (Int.fdiv (wrap u32 (wrap u64 (wrap u64 (↑(length p0) : Int) * 8))) 16777216))) (toNat (wrap i64 (p1 - 4)) + 1) (wrap u8 (Int.fdiv (wrap u32 (wrap u64 (wrap u64 (↑(length p0) : Int) * 8))) 65536))) (toNat (wrap i64 (p1 - 4)) + 2) (wrap u8 (Int.fdiv (wrap u32 (wrap u64 (wrap u64 (↑(length p0) : Int) * 8))) 256))) (toNat (wrap i64 (p1 - 4)) + 3) (wrap u8 (wrap u32 (wrap u64 (wrap u64 (↑(length p0) : Int) * 8)))))) fun y4 y5 => B_35_3 (L_35_3 4611686018427387904 y5 0 y4 (replicate 32 (0 :Int))) fun y6 y7 => K1 Ex.ret (X_35_1_0 y7))))))))))))))))))) := by kernel_rfl
theorem Bgd_35_1 {R : Type} {c : Bool} {x : Option R} {y : Option E_35_1} {k0 : List Int → Option R} (h : x = B_35_1 y k0) : gd c x = B_35_1 (gd c y) k0 := by cases c; rfl; exact h
theorem Bcond_35_1 {R : Type} {c : Bool} {x x' : Option R} {y y' : Option E_35_1} {k0 : List Int → Option R} (h : x = B_35_1 y k0) (h' : x' = B_35_1 y' k0) : (bif c then x else x') = B_35_1 (bif c then y else y') k0 := by cases c; exact h'; exact h
theorem Bin_35_1_35_2 {R : Type} {r : Option E_35_2} {k0 : List Int → Option R} {f0 : List Int → List Int → Option R} {g0 : List Int → List Int → Option E_35_1} (h0 : ∀ z0 z1, f0 z0 z1 = B_35_1 (g0 z0 z1) k0) : B_35_2 r f0 = B_35_1 (B_35_2 r g0) k0 := by
 cases r with
 | none => rfl
 | some e => cases e with
   | e0 z0 z1 => exact h0 _ _
theorem Bin_35_1_35_3 {R : Type} {r : Option E_35_3} {k0 : List Int → Option R} {f0 : List Int → List Int → Option R} {g0 : List Int → List Int → Option E_35_1} (h0 : ∀ z0 z1, f0 z0 z1 = B_35_1 (g0 z0 z1) k0) : B_35_3 r f0 = B_35_1 (B_35_3 r g0) k0 := by
 cases r with
 | none => rfl
 | some e => cases e with
   | e0 z0 z1 => exact h0 _ _
theorem loop_35_1 {R : Type} (k : Ex → St → Option R) (p0 : List Int) (p1 : Int) (p2 p3 p4 p5 : List Int) : evJ (evCodeL sm_35 FU (ovr (fun f' => bif Nat.beq f' 67 then some (g_35_67) else none) (evFn sm_35 fns FU 1)) (ir35_bt1 O_35_35_2 O_35_35_3) ir35_b1) (T_35_1 p0 p1 p2 p3 p4 p5) k = B_35_1 (J_35_1 p0 p1 p2 p3 p4 p5) (fun y7 => k Ex.ret (X_35_1_0 y7)) := by
 rw [body_35_1, J_35_1]
 repeat' first | apply Bgd_35_1 | apply Bcond_35_1 | (apply Bin_35_1_35_2 <;> intros) | (apply Bin_35_1_35_3 <;> intros) | rfl
theorem ok_35_1 {R : Type} (T : St) (k : Ex → St → Option R) (r : R) (h0 : o_35_1 G_35_1 T k = some r) : evCode sm_35 FU (evFn sm_35 fns FU 1) ir35_b1 T k = some r := by
 obtain ⟨p0, p1, p2, p3, p4, p5, rfl, h⟩ := o_35_1_inv h0
 refine bodyL_sound (t := (ir35_bt1 O_35_35_2 O_35_35_3)) ov_35_35_ok (ir35_bt1ok (fun T k r => OK_35_35_2 T k r) (fun T k r => OK_35_35_3 T k r)) (((show ∀ (b : St → (Ex → St → Option R) → Option R) (T : St) (k : Ex → St → Option R), b T k = evJ b T k from fun _ _ _ => rfl) _ _ _).trans ((loop_35_1 k p0 p1 p2 p3 p4 p5).trans h))
theorem OK_35_35_1 {R : Type} (T : St) (k : Ex → St → Option R) (r : R) (h : O_35_35_1 T k = some r) : evCode sm_35 FU (evFn sm_35 fns FU 1) ir35_b1 T k = some r := ok_35_1 T k r h
noncomputable def F_35 (a0 : (List Int)) : Option ((List Int) × Unit) :=
 gd p_66 (B_35_0 (L_35_0 4611686018427387904 a0 a0 (replicate 32 (0 :Int)) [1779033703, 3144134277, 1013904242, 2773480762, 1359893119, 2600822924, 528734635, 1541459225] (v_66.1)) fun y7 y8 y9 y10 y11 => gd (inB (↑(Nat.min (length y8) 128) : Int) 128) (gd (decide (toNat (↑(Nat.min (length y8) 128) : Int) < 128) && true) (bif decide (wrap i64 ((↑(Nat.min (length y8) 128) : Int) + 9) > 64) then B_35_1 (J_35_1 y7 128 y9 y10 y11 (List.set (over (replicate 128 (0 :Int)) 0 (take 128 y8)) (toNat (↑(Nat.min (length y8) 128) : Int)) 128)) fun y12 => some (y12, PUnit.unit) else B_35_1 (J_35_1 y7 64 y9 y10 y11 (List.set (over (replicate 128 (0 :Int)) 0 (take 128 y8)) (toNat (↑(Nat.min (length y8) 128) : Int)) 128)) fun y13 => some (y13, PUnit.unit))))
theorem fn_35 (a0 : (List Int)) : evFnL sm_35 FU (ovr (fun f' => bif Nat.beq f' 67 then some (g_35_67) else none) (evFn sm_35 fns FU 1)) (ir35_t O_35_35_0 O_35_35_1) ir35 (ofH [(.slice (.int .u8))] (a0, ())) [] (pureK [(.arr 32 (.int .u8))]) = F_35 a0 := by kernel_rfl
noncomputable def Sp.p_35 (a0 : (List Int)) : Bool := (F_35 a0).isSome
noncomputable def Sp.v_35 (a0 : (List Int)) : (List Int) × Unit := (F_35 a0).getD (dfH [(.arr 32 (.int .u8))])
noncomputable def s_35 : Summ := shN [(.slice (.int .u8))] [(.arr 32 (.int .u8))] (fun x => p_35 x.1) (fun x => v_35 x.1)
theorem pv_35 (a0 : (List Int)) {y : (List Int) × Unit} (h : F_35 a0 = some y) : p_35 a0 = true ∧ v_35 a0 = y := ⟨by rw [p_35, h]; rfl, by rw [v_35, h]; rfl⟩
theorem run_35 (x : HDen [(.slice (.int .u8))]) (y : HDen [(.arr 32 (.int .u8))]) (h : F_35 x.1 = some y) : evFn sm_35 fns FU 2 35 (ofH [(.slice (.int .u8))] x) [] (pureK [(.arr 32 (.int .u8))]) = some y :=
 evFnL_sound (fn := ir35) (t := (ir35_t O_35_35_0 O_35_35_1)) (o := (fun f' => bif Nat.beq f' 67 then some (g_35_67) else none)) rfl ov_35_35_ok (ir35_tok (fun T k r => OK_35_35_0 T k r) (fun T k r => OK_35_35_1 T k r)) ((fn_35 _).trans h)
end
noncomputable section
abbrev Zt43_0 : Type := List (List Int)
abbrev Zy43_1 : Ty := (Ty.slice (Ty.slice (Ty.int u32)))
abbrev Zy43_2 : Ty := (Ty.slice (Ty.int u32))
abbrev s43_77 : Summ := growS (.int .u32) 42 4
noncomputable def sm_43 : Nat → Option Summ := fun f => bif Nat.beq f 77 then some s43_77 else none
noncomputable def T_43_0 (p0 : Zt43_0) (p1 : Int) (p2 : Zt43_0) (p3 p4 : Int) : St := St.mk ([CV.pure Zy43_1 p0, jk, jk, CV.int i64 p1, jk, jk, jk, jk, jk, CV.pure Zy43_1 p2, CV.int i64 p3, CV.int i64 p4] ++ (jl 24)) [] 0
noncomputable def X_43_0_0 (p0 : Zt43_0) (p1 : Int) : St := St.mk ([CV.pure Zy43_1 p0, jk, jk, CV.int i64 p1] ++ (jl 32)) [] 0
inductive Sp.E_43_0 where
 | e0 (p0 : List (List Int)) (p1 : Int)
noncomputable def Sp.B_43_0 {R : Type} (r : Option E_43_0) (k0 : Zt43_0 → Int → Option R) : Option R := match r with
 | none => none
 | some (.e0 p0 p1) => k0 p0 p1
noncomputable def Sp.L_43_0 : Nat → List (List Int) → Int → List (List Int) → Int → Int → Option E_43_0
 | 0, _, _, _, _, _ => none
 | m + 1, p0, p1, p2, p3, p4 => bif decide (p4 < p3) then gd (inB p4 (length p2)) (bif decide (wrap i64 (p1 + (↑(length (getD p2 (toNat p4) (Ty.dflt (Ty.slice (Ty.int u32))))) : Int)) < 0) then none else L_43_0 m p0 (wrap i64 (p1 + (↑(length (getD p2 (toNat p4) (Ty.dflt (Ty.slice (Ty.int u32))))) : Int))) p2 p3 (wrap i64 (p4 + 1))) else some (E_43_0.e0 p0 p1)
noncomputable def G_43_0 {R : Type} (p0 : Zt43_0) (p1 : Int) (p2 : Zt43_0) (p3 p4 : Int) (k : Ex → St → Option R) : Option R := B_43_0 (L_43_0 FU p0 p1 p2 p3 p4) (fun p0 p1 => k (Ex.exit 0) (X_43_0_0 p0 p1))
noncomputable def o_43_0 {R : Type} (G : Zt43_0 → Int → Zt43_0 → Int → Int → (Ex → St → Option R) → Option R) : St → (Ex → St → Option R) → Option R := fun T k => match T.sl.getD 0 .junk, T.sl.getD 3 .junk, T.sl.getD 9 .junk, T.sl.getD 10 .junk, T.sl.getD 11 .junk, T.hp with
 | CV.pure (Ty.slice (Ty.slice (Ty.int u32))) p0, CV.int i64 p1, CV.pure (Ty.slice (Ty.slice (Ty.int u32))) p2, CV.int i64 p3, CV.int i64 p4, [] => gd (shapeOK T 36 [0, 3, 9, 10, 11] 0) (G p0 p1 p2 p3 p4 k)
 | _, _, _, _, _, _ => none
theorem o_43_0_inv {R : Type} {G : Zt43_0 → Int → Zt43_0 → Int → Int → (Ex → St → Option R) → Option R} {T : St} {k : Ex → St → Option R} {r : R} (h : o_43_0 G T k = some r) : ∃ p0 p1 p2 p3 p4, T = T_43_0 p0 p1 p2 p3 p4 ∧ G p0 p1 p2 p3 p4 k = some r := by
 unfold o_43_0 at h
 split at h
 · obtain ⟨hs, h'⟩ := gd_some h
   refine ⟨_, _, _, _, _, (st_of (asg := [(0, _), (3, _), (9, _), (10, _), (11, _)]) hs ⟨by assumption, by assumption, by assumption, by assumption, by assumption, trivial⟩ (by assumption)).trans ?_, h'⟩
   kernel_rfl
 · cases h
noncomputable def T_43_1 (p0 : Zt43_0) (p1 p2 : Int) (p3 : List Int) : St := St.mk (jl 6 ++ ([CV.whole 0] ++ (jl 18 ++ ([CV.pure Zy43_1 p0, CV.int i64 p1, CV.int i64 p2] ++ (jl 8))))) [Blk.vec 42 (Ty.int u32) p3] 0
noncomputable def X_43_1_0 (p3 : List Int) : St := St.mk (jl 6 ++ ([CV.whole 0] ++ (jl 29))) [Blk.vec 42 (Ty.int u32) p3] 0
inductive Sp.E_43_1 where
 | e0 (p3 : List Int)
noncomputable def Sp.B_43_1 {R : Type} (r : Option E_43_1) (k0 : List Int → Option R) : Option R := match r with
 | none => none
 | some (.e0 p3) => k0 p3
noncomputable def Sp.L_43_1 : Nat → List (List Int) → Int → Int → List Int → Option E_43_1
 | 0, _, _, _, _ => none
 | m + 1, p0, p1, p2, p3 => bif decide (p2 < p1) then gd (inB p2 (length p0)) (gd (room (length p3 + length (getD p0 (toNat p2) (Ty.dflt (Ty.slice (Ty.int u32))))) 4) (L_43_1 m p0 p1 (wrap i64 (p2 + 1)) (p3 ++ getD p0 (toNat p2) (Ty.dflt (Ty.slice (Ty.int u32)))))) else some (E_43_1.e0 p3)
noncomputable def G_43_1 {R : Type} (p0 : Zt43_0) (p1 p2 : Int) (p3 : List Int) (k : Ex → St → Option R) : Option R := B_43_1 (L_43_1 FU p0 p1 p2 p3) (fun p3 => k (Ex.exit 2) (X_43_1_0 p3))
noncomputable def o_43_1 {R : Type} (G : Zt43_0 → Int → Int → List Int → (Ex → St → Option R) → Option R) : St → (Ex → St → Option R) → Option R := fun T k => match T.sl.getD 6 .junk, T.sl.getD 25 .junk, T.sl.getD 26 .junk, T.sl.getD 27 .junk, T.hp with
 | CV.whole 0, CV.pure (Ty.slice (Ty.slice (Ty.int u32))) p0, CV.int i64 p1, CV.int i64 p2, ((Blk.vec 42 (Ty.int u32) p3) :: []) => gd (shapeOK T 36 [6, 25, 26, 27] 0) (G p0 p1 p2 p3 k)
 | _, _, _, _, _ => none
theorem o_43_1_inv {R : Type} {G : Zt43_0 → Int → Int → List Int → (Ex → St → Option R) → Option R} {T : St} {k : Ex → St → Option R} {r : R} (h : o_43_1 G T k = some r) : ∃ p0 p1 p2 p3, T = T_43_1 p0 p1 p2 p3 ∧ G p0 p1 p2 p3 k = some r := by
 unfold o_43_1 at h
 split at h
 · obtain ⟨hs, h'⟩ := gd_some h
   refine ⟨_, _, _, _, (st_of (asg := [(6, _), (25, _), (26, _), (27, _)]) hs ⟨by assumption, by assumption, by assumption, by assumption, trivial⟩ (by assumption)).trans ?_, h'⟩
   kernel_rfl
 · cases h
noncomputable def O_43_43_0 {R : Type} : St → (Ex → St → Option R) → Option R := fun T k => o_43_0 G_43_0 T k
noncomputable def O_43_43_1 {R : Type} : St → (Ex → St → Option R) → Option R := fun T k => o_43_1 G_43_1 T k
theorem body_43_0 {R : Type} (K0 : St → Option R) (K1 : Ex → St → Option R) (p0 : Zt43_0) (p1 : Int) (p2 : Zt43_0) (p3 p4 : Int) : evLB (evCodeL sm_43 FU (ovr noO (evFn sm_43 fns FU 0)) .nil ir43_b0) (St.norm ir43_v0) (T_43_0 p0 p1 p2 p3 p4) K0 K1 =
 bif decide (p4 < p3) then gd (inB p4 (length p2)) (bif decide (wrap i64 (p1 + (↑(length (getD p2 (toNat p4) (Ty.dflt Zy43_2))) : Int)) < 0) then none else K0 (T_43_0 p0 (wrap i64 (p1 + (↑(length (getD p2 (toNat p4) (Ty.dflt Zy43_2))) : Int))) p2 p3 (wrap i64 (p4 + 1)))) else K1 (Ex.exit 0) (X_43_0_0 p0 p1) := by kernel_rfl
theorem Bgd_43_0 {R : Type} {c : Bool} {x : Option R} {y : Option E_43_0} {k0 : Zt43_0 → Int → Option R} (h : x = B_43_0 y k0) : gd c x = B_43_0 (gd c y) k0 := by cases c; rfl; exact h
theorem Bcond_43_0 {R : Type} {c : Bool} {x x' : Option R} {y y' : Option E_43_0} {k0 : Zt43_0 → Int → Option R} (h : x = B_43_0 y k0) (h' : x' = B_43_0 y' k0) : (bif c then x else x') = B_43_0 (bif c then y else y') k0 := by cases c; exact h'; exact h
theorem loop_43_0 {R : Type} (k : Ex → St → Option R) : ∀ (m : Nat) (p0 : Zt43_0) (p1 : Int) (p2 : Zt43_0) (p3 : Int) (p4 : Int), evLoopN (evCodeL sm_43 FU (ovr noO (evFn sm_43 fns FU 0)) .nil ir43_b0) (St.norm ir43_v0) m (T_43_0 p0 p1 p2 p3 p4) k = B_43_0 (L_43_0 m p0 p1 p2 p3 p4) (fun p0 p1 => k (Ex.exit (0 : Nat)) (X_43_0_0 p0 p1))
 | 0, _, _, _, _, _ => rfl
 | m + 1, p0, p1, p2, p3, p4 => by
   rw [evLoopN_succ, body_43_0, L_43_0]
   repeat' first | apply Bgd_43_0 | apply Bcond_43_0 | exact loop_43_0 k m _ _ _ _ _ | rfl
theorem ok_43_0 {R : Type} (T : St) (k : Ex → St → Option R) (r : R) (h0 : o_43_0 G_43_0 T k = some r) : evLoopN (evCode sm_43 FU (evFn sm_43 fns FU 0) ir43_b0) (St.norm ir43_v0) FU T k = some r := by
 obtain ⟨p0, p1, p2, p3, p4, rfl, h⟩ := o_43_0_inv h0
 refine evLoopN_L (t := .nil) noO_ok trivial _ _ _ _ ?_
 rw [loop_43_0]
 exact h
theorem OK_43_43_0 {R : Type} (T : St) (k : Ex → St → Option R) (r : R) (h : O_43_43_0 T k = some r) : evLoopN (evCode sm_43 FU (evFn sm_43 fns FU 0) ir43_b0) (St.norm ir43_v0) FU T k = some r := ok_43_0 T k r h
theorem body_43_1 {R : Type} (K0 : St → Option R) (K1 : Ex → St → Option R) (p0 : Zt43_0) (p1 p2 : Int) (p3 : List Int) : evLB (evCodeL sm_43 FU (ovr noO (evFn sm_43 fns FU 0)) .nil ir43_b1) (St.norm ir43_v1) (T_43_1 p0 p1 p2 p3) K0 K1 =
 bif decide (p2 < p1) then gd (inB p2 (length p0)) (gd (room (length p3 + length (getD p0 (toNat p2) (Ty.dflt Zy43_2))) 4) (K0 (T_43_1 p0 p1 (wrap i64 (p2 + 1)) (p3 ++ getD p0 (toNat p2) (Ty.dflt Zy43_2))))) else K1 (Ex.exit 2) (X_43_1_0 p3) := by kernel_rfl
theorem Bgd_43_1 {R : Type} {c : Bool} {x : Option R} {y : Option E_43_1} {k0 : List Int → Option R} (h : x = B_43_1 y k0) : gd c x = B_43_1 (gd c y) k0 := by cases c; rfl; exact h
theorem Bcond_43_1 {R : Type} {c : Bool} {x x' : Option R} {y y' : Option E_43_1} {k0 : List Int → Option R} (h : x = B_43_1 y k0) (h' : x' = B_43_1 y' k0) : (bif c then x else x') = B_43_1 (bif c then y else y') k0 := by cases c; exact h'; exact h
theorem loop_43_1 {R : Type} (k : Ex → St → Option R) : ∀ (m : Nat) (p0 : Zt43_0) (p1 : Int) (p2 : Int) (p3 : List Int), evLoopN (evCodeL sm_43 FU (ovr noO (evFn sm_43 fns FU 0)) .nil ir43_b1) (St.norm ir43_v1) m (T_43_1 p0 p1 p2 p3) k = B_43_1 (L_43_1 m p0 p1 p2 p3) (fun p3 => k (Ex.exit (2 : Nat)) (X_43_1_0 p3))
 | 0, _, _, _, _ => rfl
 | m + 1, p0, p1, p2, p3 => by
   rw [evLoopN_succ, body_43_1, L_43_1]
   repeat' first | apply Bgd_43_1 | apply Bcond_43_1 | exact loop_43_1 k m _ _ _ _ | rfl
theorem ok_43_1 {R : Type} (T : St) (k : Ex → St → Option R) (r : R) (h0 : o_43_1 G_43_1 T k = some r) : evLoopN (evCode sm_43 FU (evFn sm_43 fns FU 0) ir43_b1) (St.norm ir43_v1) FU T k = some r := by
 obtain ⟨p0, p1, p2, p3, rfl, h⟩ := o_43_1_inv h0
 refine evLoopN_L (t := .nil) noO_ok trivial _ _ _ _ ?_
 rw [loop_43_1]
 exact h
theorem OK_43_43_1 {R : Type} (T : St) (k : Ex → St → Option R) (r : R) (h : O_43_43_1 T k = some r) : evLoopN (evCode sm_43 FU (evFn sm_43 fns FU 0) ir43_b1) (St.norm ir43_v1) FU T k = some r := ok_43_1 T k r h
noncomputable def F_43 (a0 : (List (List Int))) : Option ((List Int) × Unit) :=
 B_43_0 (L_43_0 4611686018427387904 a0 0 a0 (↑(length a0) : Int) 0) fun y3 y4 => gd (decide (0 ≤ y4) && room (toNat y4) 4) (B_43_1 (L_43_1 4611686018427387904 y3 (↑(length y3) : Int) 0 []) fun y5 => some (y5, PUnit.unit))
theorem fn_43 (a0 : (List (List Int))) : evFnL sm_43 FU (ovr noO (evFn sm_43 fns FU 0)) (ir43_t O_43_43_0 O_43_43_1) ir43 (ofH [(.slice (.slice (.int .u32)))] (a0, ())) [] (pureK [(.slice (.int .u32))]) = F_43 a0 := by kernel_rfl
noncomputable def Sp.p_43 (a0 : (List (List Int))) : Bool := (F_43 a0).isSome
noncomputable def Sp.v_43 (a0 : (List (List Int))) : (List Int) × Unit := (F_43 a0).getD (dfH [(.slice (.int .u32))])
noncomputable def s_43 : Summ := shS [(.slice (.slice (.int .u32)))] [(.slice (.int .u32))] (fun x => p_43 x.1) (fun x => v_43 x.1)
theorem pv_43 (a0 : (List (List Int))) {y : (List Int) × Unit} (h : F_43 a0 = some y) : p_43 a0 = true ∧ v_43 a0 = y := ⟨by rw [p_43, h]; rfl, by rw [v_43, h]; rfl⟩
theorem run_43 (x : HDen [(.slice (.slice (.int .u32)))]) (y : HDen [(.slice (.int .u32))]) (h : F_43 x.1 = some y) : evFn sm_43 fns FU 1 43 (ofH [(.slice (.slice (.int .u32)))] x) [] (pureK [(.slice (.int .u32))]) = some y :=
 evFnL_sound (fn := ir43) (t := (ir43_t O_43_43_0 O_43_43_1)) (o := noO) rfl noO_ok (ir43_tok (fun T k r => OK_43_43_0 T k r) (fun T k r => OK_43_43_1 T k r)) ((fn_43 _).trans h)
end
noncomputable section
abbrev Zy69_0 : Ty := (Ty.arr (32 : Nat) (Ty.int u8))
noncomputable def sm_69 : Nat → Option Summ := fun f => none
noncomputable def T_69_1 (p0 : Int) (p1 : List Int) (p2 : Int) (p3 : List Int) (p4 : Int) (p5 : List Int) : St := St.mk ([jk, jk, jk, CV.whole 0, CV.int i64 p0, jk, jk, jk, jk, CV.pure Zy69_0 p1, CV.int i64 p2] ++ (jl 8 ++ ([CV.pure (Ty.arr 2 (Ty.int i64)) p3, CV.int i64 p4] ++ (jl 22)))) [Blk.vec 3 (Ty.int i64) p5] 0
noncomputable def X_69_1_0 (p0 : Int) (p1 : List Int) (p2 : Int) (p5 : List Int) : St := St.mk ([jk, jk, jk, CV.whole 0, CV.int i64 p0, jk, jk, jk, jk, CV.pure Zy69_0 p1, CV.int i64 p2] ++ (jl 32)) [Blk.vec 3 (Ty.int i64) p5] 0
inductive Sp.E_69_1 where
 | e0 (p0 : Int) (p1 : List Int) (p2 : Int) (p5 : List Int)
noncomputable def Sp.B_69_1 {R : Type} (r : Option E_69_1) (k0 : Int → List Int → Int → List Int → Option R) : Option R := match r with
 | none => none
 | some (.e0 p0 p1 p2 p5) => k0 p0 p1 p2 p5
noncomputable def Sp.L_69_1 : Nat → Int → List Int → Int → List Int → Int → List Int → Option E_69_1
 | 0, _, _, _, _, _, _ => none
 | m + 1, p0, p1, p2, p3, p4, p5 => bif decide (p4 < 2) then gd (inB p4 2) (gd (room (length p5 + 1) 8) (L_69_1 m (wrap i64 (p0 + wrap i64 (15 - getD p3 (toNat p4) 0))) p1 p2 p3 (wrap i64 (p4 + 1)) (p5 ++ [getD p3 (toNat p4) 0]))) else some (E_69_1.e0 p0 p1 p2 p5)
noncomputable def G_69_1 {R : Type} (p0 : Int) (p1 : List Int) (p2 : Int) (p3 : List Int) (p4 : Int) (p5 : List Int) (k : Ex → St → Option R) : Option R := B_69_1 (L_69_1 FU p0 p1 p2 p3 p4 p5) (fun p0 p1 p2 p5 => k (Ex.exit 2) (X_69_1_0 p0 p1 p2 p5))
noncomputable def o_69_1 {R : Type} (G : Int → List Int → Int → List Int → Int → List Int → (Ex → St → Option R) → Option R) : St → (Ex → St → Option R) → Option R := fun T k => match T.sl.getD 3 .junk, T.sl.getD 4 .junk, T.sl.getD 9 .junk, T.sl.getD 10 .junk, T.sl.getD 19 .junk, T.sl.getD 20 .junk, T.hp with
 | CV.whole 0, CV.int i64 p0, CV.pure (Ty.arr 32 (Ty.int u8)) p1, CV.int i64 p2, CV.pure (Ty.arr 2 (Ty.int i64)) p3, CV.int i64 p4, ((Blk.vec 3 (Ty.int i64) p5) :: []) => gd (shapeOK T 43 [3, 4, 9, 10, 19, 20] 0) (G p0 p1 p2 p3 p4 p5 k)
 | _, _, _, _, _, _, _ => none
theorem o_69_1_inv {R : Type} {G : Int → List Int → Int → List Int → Int → List Int → (Ex → St → Option R) → Option R} {T : St} {k : Ex → St → Option R} {r : R} (h : o_69_1 G T k = some r) : ∃ p0 p1 p2 p3 p4 p5, T = T_69_1 p0 p1 p2 p3 p4 p5 ∧ G p0 p1 p2 p3 p4 p5 k = some r := by
 unfold o_69_1 at h
 split at h
 · obtain ⟨hs, h'⟩ := gd_some h
   refine ⟨_, _, _, _, _, _, (st_of (asg := [(3, _), (4, _), (9, _), (10, _), (19, _), (20, _)]) hs ⟨by assumption, by assumption, by assumption, by assumption, by assumption, by assumption, trivial⟩ (by assumption)).trans ?_, h'⟩
   kernel_rfl
 · cases h
noncomputable def T_69_0 (p0 : Int) (p1 : List Int) (p2 : Int) (p3 : List Int) : St := St.mk ([jk, jk, jk, CV.whole 0, CV.int i64 p0, jk, jk, jk, jk, CV.pure Zy69_0 p1, CV.int i64 p2] ++ (jl 32)) [Blk.vec 3 (Ty.int i64) p3] 0
noncomputable def X_69_0_0 (p0 : Int) (p3 : List Int) : St := St.mk ([jk, jk, jk, CV.whole 0, CV.int i64 p0] ++ (jl 38)) [Blk.vec 3 (Ty.int i64) p3] 0
inductive Sp.E_69_0 where
 | e0 (p0 : Int) (p3 : List Int)
noncomputable def Sp.B_69_0 {R : Type} (r : Option E_69_0) (k0 : Int → List Int → Option R) : Option R := match r with
 | none => none
 | some (.e0 p0 p3) => k0 p0 p3
noncomputable def Sp.L_69_0 : Nat → Int → List Int → Int → List Int → Option E_69_0
 | 0, _, _, _, _ => none
 | m + 1, p0, p1, p2, p3 => bif decide (p2 < 32) then gd (inB p2 32) (B_69_1 (L_69_1 4611686018427387904 p0 p1 p2 [wrap i64 (Int.fdiv (getD p1 (toNat p2) 0) 16), wrap i64 (Sp.andI u8 (getD p1 (toNat p2) 0) 15)] 0 p3) fun y4 y5 y6 y7 => L_69_0 m y4 y5 (wrap i64 (y6 + 1)) y7) else some (E_69_0.e0 p0 p3)
noncomputable def G_69_0 {R : Type} (p0 : Int) (p1 : List Int) (p2 : Int) (p3 : List Int) (k : Ex → St → Option R) : Option R := B_69_0 (L_69_0 FU p0 p1 p2 p3) (fun p0 p3 => k (Ex.exit 0) (X_69_0_0 p0 p3))
noncomputable def o_69_0 {R : Type} (G : Int → List Int → Int → List Int → (Ex → St → Option R) → Option R) : St → (Ex → St → Option R) → Option R := fun T k => match T.sl.getD 3 .junk, T.sl.getD 4 .junk, T.sl.getD 9 .junk, T.sl.getD 10 .junk, T.hp with
 | CV.whole 0, CV.int i64 p0, CV.pure (Ty.arr 32 (Ty.int u8)) p1, CV.int i64 p2, ((Blk.vec 3 (Ty.int i64) p3) :: []) => gd (shapeOK T 43 [3, 4, 9, 10] 0) (G p0 p1 p2 p3 k)
 | _, _, _, _, _ => none
theorem o_69_0_inv {R : Type} {G : Int → List Int → Int → List Int → (Ex → St → Option R) → Option R} {T : St} {k : Ex → St → Option R} {r : R} (h : o_69_0 G T k = some r) : ∃ p0 p1 p2 p3, T = T_69_0 p0 p1 p2 p3 ∧ G p0 p1 p2 p3 k = some r := by
 unfold o_69_0 at h
 split at h
 · obtain ⟨hs, h'⟩ := gd_some h
   refine ⟨_, _, _, _, (st_of (asg := [(3, _), (4, _), (9, _), (10, _)]) hs ⟨by assumption, by assumption, by assumption, by assumption, trivial⟩ (by assumption)).trans ?_, h'⟩
   kernel_rfl
 · cases h
noncomputable def O_69_69_1 {R : Type} : St → (Ex → St → Option R) → Option R := fun T k => o_69_1 G_69_1 T k
noncomputable def O_69_69_0 {R : Type} : St → (Ex → St → Option R) → Option R := fun T k => o_69_0 G_69_0 T k
theorem body_69_1 {R : Type} (K0 : St → Option R) (K1 : Ex → St → Option R) (p0 : Int) (p1 : List Int) (p2 : Int) (p3 : List Int) (p4 : Int) (p5 : List Int) : evLB (evCodeL sm_69 FU (ovr noO (evFn sm_69 fns FU 0)) .nil ir69_b1) (St.norm ir69_v1) (T_69_1 p0 p1 p2 p3 p4 p5) K0 K1 =
 bif decide (p4 < 2) then gd (inB p4 2) (gd (room (length p5 + 1) 8) (K0 (T_69_1 (wrap i64 (p0 + wrap i64 (15 - getD p3 (toNat p4) 0))) p1 p2 p3 (wrap i64 (p4 + 1)) (p5 ++ [getD p3 (toNat p4) 0])))) else K1 (Ex.exit 2) (X_69_1_0 p0 p1 p2 p5) := by kernel_rfl
theorem Bgd_69_1 {R : Type} {c : Bool} {x : Option R} {y : Option E_69_1} {k0 : Int → List Int → Int → List Int → Option R} (h : x = B_69_1 y k0) : gd c x = B_69_1 (gd c y) k0 := by cases c; rfl; exact h
theorem Bcond_69_1 {R : Type} {c : Bool} {x x' : Option R} {y y' : Option E_69_1} {k0 : Int → List Int → Int → List Int → Option R} (h : x = B_69_1 y k0) (h' : x' = B_69_1 y' k0) : (bif c then x else x') = B_69_1 (bif c then y else y') k0 := by cases c; exact h'; exact h
theorem loop_69_1 {R : Type} (k : Ex → St → Option R) : ∀ (m : Nat) (p0 : Int) (p1 : List Int) (p2 : Int) (p3 : List Int) (p4 : Int) (p5 : List Int), evLoopN (evCodeL sm_69 FU (ovr noO (evFn sm_69 fns FU 0)) .nil ir69_b1) (St.norm ir69_v1) m (T_69_1 p0 p1 p2 p3 p4 p5) k = B_69_1 (L_69_1 m p0 p1 p2 p3 p4 p5) (fun p0 p1 p2 p5 => k (Ex.exit (2 : Nat)) (X_69_1_0 p0 p1 p2 p5))
 | 0, _, _, _, _, _, _ => rfl
 | m + 1, p0, p1, p2, p3, p4, p5 => by
   rw [evLoopN_succ, body_69_1, L_69_1]
   repeat' first | apply Bgd_69_1 | apply Bcond_69_1 | exact loop_69_1 k m _ _ _ _ _ _ | rfl
theorem ok_69_1 {R : Type} (T : St) (k : Ex → St → Option R) (r : R) (h0 : o_69_1 G_69_1 T k = some r) : evLoopN (evCode sm_69 FU (evFn sm_69 fns FU 0) ir69_b1) (St.norm ir69_v1) FU T k = some r := by
 obtain ⟨p0, p1, p2, p3, p4, p5, rfl, h⟩ := o_69_1_inv h0
 refine evLoopN_L (t := .nil) noO_ok trivial _ _ _ _ ?_
 rw [loop_69_1]
 exact h
theorem OK_69_69_1 {R : Type} (T : St) (k : Ex → St → Option R) (r : R) (h : O_69_69_1 T k = some r) : evLoopN (evCode sm_69 FU (evFn sm_69 fns FU 0) ir69_b1) (St.norm ir69_v1) FU T k = some r := ok_69_1 T k r h
theorem body_69_0 {R : Type} (K0 : St → Option R) (K1 : Ex → St → Option R) (p0 : Int) (p1 : List Int) (p2 : Int) (p3 : List Int) : evLB (evCodeL sm_69 FU (ovr noO (evFn sm_69 fns FU 0)) (ir69_bt0 O_69_69_1) ir69_b0) (St.norm ir69_v0) (T_69_0 p0 p1 p2 p3) K0 K1 =
 bif decide (p2 < 32) then gd (inB p2 32) (B_69_1 (L_69_1 4611686018427387904 p0 p1 p2 [wrap i64 (Int.fdiv (getD p1 (toNat p2) 0) 16), wrap i64 (Sp.andI u8 (getD p1 (toNat p2) 0) 15)] 0 p3) fun y4 y5 y6 y7 => K0 (T_69_0 y4 y5 (wrap i64 (y6 + 1)) y7)) else K1 (Ex.exit 0) (X_69_0_0 p0 p3) := by kernel_rfl
theorem Bgd_69_0 {R : Type} {c : Bool} {x : Option R} {y : Option E_69_0} {k0 : Int → List Int → Option R} (h : x = B_69_0 y k0) : gd c x = B_69_0 (gd c y) k0 := by cases c; rfl; exact h
theorem Bcond_69_0 {R : Type} {c : Bool} {x x' : Option R} {y y' : Option E_69_0} {k0 : Int → List Int → Option R} (h : x = B_69_0 y k0) (h' : x' = B_69_0 y' k0) : (bif c then x else x') = B_69_0 (bif c then y else y') k0 := by cases c; exact h'; exact h
theorem Bin_69_0_69_1 {R : Type} {r : Option E_69_1} {k0 : Int → List Int → Option R} {f0 : Int → List Int → Int → List Int → Option R} {g0 : Int → List Int → Int → List Int → Option E_69_0} (h0 : ∀ z0 z1 z2 z3, f0 z0 z1 z2 z3 = B_69_0 (g0 z0 z1 z2 z3) k0) : B_69_1 r f0 = B_69_0 (B_69_1 r g0) k0 := by
 cases r with
 | none => rfl
 | some e => cases e with
   | e0 z0 z1 z2 z3 => exact h0 _ _ _ _
theorem loop_69_0 {R : Type} (k : Ex → St → Option R) : ∀ (m : Nat) (p0 : Int) (p1 : List Int) (p2 : Int) (p3 : List Int), evLoopN (evCodeL sm_69 FU (ovr noO (evFn sm_69 fns FU 0)) (ir69_bt0 O_69_69_1) ir69_b0) (St.norm ir69_v0) m (T_69_0 p0 p1 p2 p3) k = B_69_0 (L_69_0 m p0 p1 p2 p3) (fun p0 p3 => k (Ex.exit (0 : Nat)) (X_69_0_0 p0 p3))
 | 0, _, _, _, _ => rfl
 | m + 1, p0, p1, p2, p3 => by
   rw [evLoopN_succ, body_69_0, L_69_0]
   repeat' first | apply Bgd_69_0 | apply Bcond_69_0 | (apply Bin_69_0_69_1 <;> intros) | exact loop_69_0 k m _ _ _ _ | rfl
theorem ok_69_0 {R : Type} (T : St) (k : Ex → St → Option R) (r : R) (h0 : o_69_0 G_69_0 T k = some r) : evLoopN (evCode sm_69 FU (evFn sm_69 fns FU 0) ir69_b0) (St.norm ir69_v0) FU T k = some r := by
 obtain ⟨p0, p1, p2, p3, rfl, h⟩ := o_69_0_inv h0
 refine evLoopN_L (t := (ir69_bt0 O_69_69_1)) noO_ok (ir69_bt0ok (fun T k r => OK_69_69_1 T k r)) _ _ _ _ ?_
 rw [loop_69_0]
 exact h
theorem OK_69_69_0 {R : Type} (T : St) (k : Ex → St → Option R) (r : R) (h : O_69_69_0 T k = some r) : evLoopN (evCode sm_69 FU (evFn sm_69 fns FU 0) ir69_b0) (St.norm ir69_v0) FU T k = some r := ok_69_0 T k r h
noncomputable def F_69 (a0 : (List Int)) : Option ((List Int) × Unit) :=
 B_69_0 (L_69_0 4611686018427387904 0 a0 0 []) fun y2 y3 => gd (room (length y3 + 3) 8) (some (y3 ++ [Int.fdiv y2 256, Sp.andI i64 (Int.fdiv y2 16) 15, Sp.andI i64 y2 15], PUnit.unit))
theorem fn_69 (a0 : (List Int)) : evFnL sm_69 FU (ovr noO (evFn sm_69 fns FU 0)) (ir69_t O_69_69_0) ir69 (ofH [(.arr 32 (.int .u8))] (a0, ())) [] (pureK [(.slice (.int .i64))]) = F_69 a0 := by kernel_rfl
noncomputable def Sp.p_69 (a0 : (List Int)) : Bool := (F_69 a0).isSome
noncomputable def Sp.v_69 (a0 : (List Int)) : (List Int) × Unit := (F_69 a0).getD (dfH [(.slice (.int .i64))])
noncomputable def s_69 : Summ := shS [(.arr 32 (.int .u8))] [(.slice (.int .i64))] (fun x => p_69 x.1) (fun x => v_69 x.1)
theorem pv_69 (a0 : (List Int)) {y : (List Int) × Unit} (h : F_69 a0 = some y) : p_69 a0 = true ∧ v_69 a0 = y := ⟨by rw [p_69, h]; rfl, by rw [v_69, h]; rfl⟩
theorem run_69 (x : HDen [(.arr 32 (.int .u8))]) (y : HDen [(.slice (.int .i64))]) (h : F_69 x.1 = some y) : evFn sm_69 fns FU 1 69 (ofH [(.arr 32 (.int .u8))] x) [] (pureK [(.slice (.int .i64))]) = some y :=
 evFnL_sound (fn := ir69) (t := (ir69_t O_69_69_0)) (o := noO) rfl noO_ok (ir69_tok (fun T k r => OK_69_69_0 T k r)) ((fn_69 _).trans h)
end
noncomputable section
noncomputable def sm_70 : Nat → Option Summ := fun f => bif Nat.beq f 35 then some s_35 else none
noncomputable def T_70_0 (p0 p1 : Int) (p2 p3 : List Int) : St := St.mk ([jk, jk, CV.int i64 p0, CV.ptr 0 [], jk, jk, CV.ptr 1 [], CV.int i64 p1] ++ (jl 13)) [Blk.mem (CV.pure (Ty.arr 32 (Ty.int u8)) p2), Blk.mem (CV.pure (Ty.arr 32 (Ty.int u8)) p3)] 0
noncomputable def X_70_0_0 (p2 p3 : List Int) : St := St.mk ([jk, jk, jk, CV.ptr 0 [], jk, jk, CV.ptr 1 []] ++ (jl 14)) [Blk.mem (CV.pure (Ty.arr 32 (Ty.int u8)) p2), Blk.mem (CV.pure (Ty.arr 32 (Ty.int u8)) p3)] 0
inductive Sp.E_70_0 where
 | e0 (p2 p3 : List Int)
noncomputable def Sp.B_70_0 {R : Type} (r : Option E_70_0) (k0 : List Int → List Int → Option R) : Option R := match r with
 | none => none
 | some (.e0 p2 p3) => k0 p2 p3
noncomputable def Sp.L_70_0 : Nat → Int → Int → List Int → List Int → Option E_70_0
 | 0, _, _, _, _ => none
 | m + 1, p0, p1, p2, p3 => bif decide (p1 < p0) then gd (room (1 + length (take 32 (drop 0 p2))) 1) (gd (p_35 ([wrap u8 p1] ++ take 32 (drop 0 p2))) (L_70_0 m p0 (wrap i64 (p1 + 1)) ((v_35 ([wrap u8 p1] ++ take 32 (drop 0 p2))).1) p3)) else some (E_70_0.e0 p2 p3)
noncomputable def G_70_0 {R : Type} (p0 p1 : Int) (p2 p3 : List Int) (k : Ex → St → Option R) : Option R := B_70_0 (L_70_0 FU p0 p1 p2 p3) (fun p2 p3 => k (Ex.exit 0) (X_70_0_0 p2 p3))
noncomputable def o_70_0 {R : Type} (G : Int → Int → List Int → List Int → (Ex → St → Option R) → Option R) : St → (Ex → St → Option R) → Option R := fun T k => match T.sl.getD 2 .junk, T.sl.getD 3 .junk, T.sl.getD 6 .junk, T.sl.getD 7 .junk, T.hp with
 | CV.int i64 p0, CV.ptr 0 [], CV.ptr 1 [], CV.int i64 p1, ((Blk.mem (CV.pure (Ty.arr 32 (Ty.int u8)) p2)) :: (Blk.mem (CV.pure (Ty.arr 32 (Ty.int u8)) p3)) :: []) => gd (shapeOK T 21 [2, 3, 6, 7] 0) (G p0 p1 p2 p3 k)
 | _, _, _, _, _ => none
theorem o_70_0_inv {R : Type} {G : Int → Int → List Int → List Int → (Ex → St → Option R) → Option R} {T : St} {k : Ex → St → Option R} {r : R} (h : o_70_0 G T k = some r) : ∃ p0 p1 p2 p3, T = T_70_0 p0 p1 p2 p3 ∧ G p0 p1 p2 p3 k = some r := by
 unfold o_70_0 at h
 split at h
 · obtain ⟨hs, h'⟩ := gd_some h
   refine ⟨_, _, _, _, (st_of (asg := [(2, _), (3, _), (6, _), (7, _)]) hs ⟨by assumption, by assumption, by assumption, by assumption, trivial⟩ (by assumption)).trans ?_, h'⟩
   kernel_rfl
 · cases h
noncomputable def O_70_70_0 {R : Type} : St → (Ex → St → Option R) → Option R := fun T k => o_70_0 G_70_0 T k
theorem body_70_0 {R : Type} (K0 : St → Option R) (K1 : Ex → St → Option R) (p0 p1 : Int) (p2 p3 : List Int) : evLB (evCodeL sm_70 FU (ovr noO (evFn sm_70 fns FU 0)) .nil ir70_b0) (St.norm ir70_v0) (T_70_0 p0 p1 p2 p3) K0 K1 =
 bif decide (p1 < p0) then gd (room (1 + length (take 32 (drop 0 p2))) 1) (gd (p_35 ([wrap u8 p1] ++ take 32 (drop 0 p2))) (K0 (T_70_0 p0 (wrap i64 (p1 + 1)) ((v_35 ([wrap u8 p1] ++ take 32 (drop 0 p2))).1) p3))) else K1 (Ex.exit 0) (X_70_0_0 p2 p3) := by kernel_rfl
theorem Bgd_70_0 {R : Type} {c : Bool} {x : Option R} {y : Option E_70_0} {k0 : List Int → List Int → Option R} (h : x = B_70_0 y k0) : gd c x = B_70_0 (gd c y) k0 := by cases c; rfl; exact h
theorem Bcond_70_0 {R : Type} {c : Bool} {x x' : Option R} {y y' : Option E_70_0} {k0 : List Int → List Int → Option R} (h : x = B_70_0 y k0) (h' : x' = B_70_0 y' k0) : (bif c then x else x') = B_70_0 (bif c then y else y') k0 := by cases c; exact h'; exact h
theorem loop_70_0 {R : Type} (k : Ex → St → Option R) : ∀ (m : Nat) (p0 : Int) (p1 : Int) (p2 : List Int) (p3 : List Int), evLoopN (evCodeL sm_70 FU (ovr noO (evFn sm_70 fns FU 0)) .nil ir70_b0) (St.norm ir70_v0) m (T_70_0 p0 p1 p2 p3) k = B_70_0 (L_70_0 m p0 p1 p2 p3) (fun p2 p3 => k (Ex.exit (0 : Nat)) (X_70_0_0 p2 p3))
 | 0, _, _, _, _ => rfl
 | m + 1, p0, p1, p2, p3 => by
   rw [evLoopN_succ, body_70_0, L_70_0]
   repeat' first | apply Bgd_70_0 | apply Bcond_70_0 | exact loop_70_0 k m _ _ _ _ | rfl
theorem ok_70_0 {R : Type} (T : St) (k : Ex → St → Option R) (r : R) (h0 : o_70_0 G_70_0 T k = some r) : evLoopN (evCode sm_70 FU (evFn sm_70 fns FU 0) ir70_b0) (St.norm ir70_v0) FU T k = some r := by
 obtain ⟨p0, p1, p2, p3, rfl, h⟩ := o_70_0_inv h0
 refine evLoopN_L (t := .nil) noO_ok trivial _ _ _ _ ?_
 rw [loop_70_0]
 exact h
theorem OK_70_70_0 {R : Type} (T : St) (k : Ex → St → Option R) (r : R) (h : O_70_70_0 T k = some r) : evLoopN (evCode sm_70 FU (evFn sm_70 fns FU 0) ir70_b0) (St.norm ir70_v0) FU T k = some r := ok_70_0 T k r h
noncomputable def F_70 (a0 : (List Int)) (a1 a2 : Int) : Option ((List Int) × Unit) :=
 B_70_0 (L_70_0 4611686018427387904 a2 a1 a0 (replicate 32 (0 :Int))) fun y2 y3 => some (y2, PUnit.unit)
theorem fn_70 (a0 : (List Int)) (a1 a2 : Int) : evFnL sm_70 FU (ovr noO (evFn sm_70 fns FU 0)) (ir70_t O_70_70_0) ir70 (ofH [(.arr 32 (.int .u8)), (.int .i64), (.int .i64)] (a0, a1, a2, ())) [] (pureK [(.arr 32 (.int .u8))]) = F_70 a0 a1 a2 := by kernel_rfl
noncomputable def Sp.p_70 (a0 : (List Int)) (a1 a2 : Int) : Bool := (F_70 a0 a1 a2).isSome
noncomputable def Sp.v_70 (a0 : (List Int)) (a1 a2 : Int) : (List Int) × Unit := (F_70 a0 a1 a2).getD (dfH [(.arr 32 (.int .u8))])
noncomputable def s_70 : Summ := shN [(.arr 32 (.int .u8)), (.int .i64), (.int .i64)] [(.arr 32 (.int .u8))] (fun x => p_70 x.1 x.2.1 x.2.2.1) (fun x => v_70 x.1 x.2.1 x.2.2.1)
theorem pv_70 (a0 : (List Int)) (a1 a2 : Int) {y : (List Int) × Unit} (h : F_70 a0 a1 a2 = some y) : p_70 a0 a1 a2 = true ∧ v_70 a0 a1 a2 = y := ⟨by rw [p_70, h]; rfl, by rw [v_70, h]; rfl⟩
theorem run_70 (x : HDen [(.arr 32 (.int .u8)), (.int .i64), (.int .i64)]) (y : HDen [(.arr 32 (.int .u8))]) (h : F_70 x.1 x.2.1 x.2.2.1 = some y) : evFn sm_70 fns FU 1 70 (ofH [(.arr 32 (.int .u8)), (.int .i64), (.int .i64)] x) [] (pureK [(.arr 32 (.int .u8))]) = some y :=
 evFnL_sound (fn := ir70) (t := (ir70_t O_70_70_0)) (o := noO) rfl noO_ok (ir70_tok (fun T k r => OK_70_70_0 T k r)) ((fn_70 _ _ _).trans h)
end
noncomputable section
noncomputable def sm_73 : Nat → Option Summ := fun f => bif Nat.beq f 35 then some s_35 else none
noncomputable def F_73 (a0 a1 : (List Int)) : Option ((List Int) × Unit) :=
 gd (room (1 + length (take 32 (drop 0 a0))) 1) (gd (room (length ([255] ++ take 32 (drop 0 a0)) + length (take 32 (drop 0 a1))) 1) (gd (p_35 ([255] ++ take 32 (drop 0 a0) ++ take 32 (drop 0 a1))) (some ((v_35 ([255] ++ take 32 (drop 0 a0) ++ take 32 (drop 0 a1))).1, PUnit.unit))))
theorem fn_73 (a0 a1 : (List Int)) : evFnL sm_73 FU (ovr noO (evFn sm_73 fns FU 0)) .nil ir73 (ofH [(.arr 32 (.int .u8)), (.arr 32 (.int .u8))] (a0, a1, ())) [] (pureK [(.arr 32 (.int .u8))]) = F_73 a0 a1 := by kernel_rfl
noncomputable def Sp.p_73 (a0 a1 : (List Int)) : Bool := (F_73 a0 a1).isSome
noncomputable def Sp.v_73 (a0 a1 : (List Int)) : (List Int) × Unit := (F_73 a0 a1).getD (dfH [(.arr 32 (.int .u8))])
noncomputable def s_73 : Summ := shN [(.arr 32 (.int .u8)), (.arr 32 (.int .u8))] [(.arr 32 (.int .u8))] (fun x => p_73 x.1 x.2.1) (fun x => v_73 x.1 x.2.1)
theorem pv_73 (a0 a1 : (List Int)) {y : (List Int) × Unit} (h : F_73 a0 a1 = some y) : p_73 a0 a1 = true ∧ v_73 a0 a1 = y := ⟨by rw [p_73, h]; rfl, by rw [v_73, h]; rfl⟩
theorem run_73 (x : HDen [(.arr 32 (.int .u8)), (.arr 32 (.int .u8))]) (y : HDen [(.arr 32 (.int .u8))]) (h : F_73 x.1 x.2.1 = some y) : evFn sm_73 fns FU 1 73 (ofH [(.arr 32 (.int .u8)), (.arr 32 (.int .u8))] x) [] (pureK [(.arr 32 (.int .u8))]) = some y :=
 evFnL_sound (fn := ir73) (t := .nil) (o := noO) rfl noO_ok trivial ((fn_73 _ _).trans h)
end
noncomputable section
noncomputable def sm_78 : Nat → Option Summ := fun f => none
noncomputable def F_78 (a0 : (Int × ((List (List Int)) × ((List (List Int)) × Unit)))) : Option (Bool × Unit) :=
 bif decide (a0.1 ≥ 0) then bif decide (a0.1 < 4) then bif (↑(length (a0.2.1)) : Int) == 67 then some ((↑(length (a0.2.2.1)) : Int) == 2, PUnit.unit) else some (false, PUnit.unit) else some (false, PUnit.unit) else some (false, PUnit.unit)
theorem fn_78 (a0 : (Int × ((List (List Int)) × ((List (List Int)) × Unit)))) : evFnL sm_78 FU (ovr noO (evFn sm_78 fns FU 0)) .nil ir78 (ofH [(.pair (.int .i64) (.pair (.slice (.arr 32 (.int .u8))) (.pair (.slice (.arr 32 (.int .u8))) .unit)))] (a0, ())) [] (pureK [.bool]) = F_78 a0 := by kernel_rfl
noncomputable def Sp.p_78 (a0 : (Int × ((List (List Int)) × ((List (List Int)) × Unit)))) : Bool := (F_78 a0).isSome
noncomputable def Sp.v_78 (a0 : (Int × ((List (List Int)) × ((List (List Int)) × Unit)))) : Bool × Unit := (F_78 a0).getD (dfH [.bool])
noncomputable def s_78 : Summ := shN [(.pair (.int .i64) (.pair (.slice (.arr 32 (.int .u8))) (.pair (.slice (.arr 32 (.int .u8))) .unit)))] [.bool] (fun x => p_78 x.1) (fun x => v_78 x.1)
theorem pv_78 (a0 : (Int × ((List (List Int)) × ((List (List Int)) × Unit)))) {y : Bool × Unit} (h : F_78 a0 = some y) : p_78 a0 = true ∧ v_78 a0 = y := ⟨by rw [p_78, h]; rfl, by rw [v_78, h]; rfl⟩
theorem run_78 (x : HDen [(.pair (.int .i64) (.pair (.slice (.arr 32 (.int .u8))) (.pair (.slice (.arr 32 (.int .u8))) .unit)))]) (y : HDen [.bool]) (h : F_78 x.1 = some y) : evFn sm_78 fns FU 1 78 (ofH [(.pair (.int .i64) (.pair (.slice (.arr 32 (.int .u8))) (.pair (.slice (.arr 32 (.int .u8))) .unit)))] x) [] (pureK [.bool]) = some y :=
 evFnL_sound (fn := ir78) (t := .nil) (o := noO) rfl noO_ok trivial ((fn_78 _).trans h)
end
noncomputable section
noncomputable def sm_79 : Nat → Option Summ := fun f => bif Nat.beq f 35 then some s_35 else none
noncomputable def T_79_0 (p0 : List (List Int)) (p1 p2 : Int) (p3 p4 : List Int) : St := St.mk ([jk, jk, CV.ptr 0 [], CV.whole 1, jk, jk, CV.pure (Ty.slice (Ty.arr 32 (Ty.int u8))) p0, CV.int i64 p1, CV.int i64 p2] ++ (jl 9)) [Blk.mem (CV.pure (Ty.arr 32 (Ty.int u8)) p3), Blk.vec 5 (Ty.int u8) p4] 0
noncomputable def X_79_0_0 (p3 p4 : List Int) : St := St.mk ([jk, jk, CV.ptr 0 [], CV.whole 1] ++ (jl 14)) [Blk.mem (CV.pure (Ty.arr 32 (Ty.int u8)) p3), Blk.vec 5 (Ty.int u8) p4] 0
inductive Sp.E_79_0 where
 | e0 (p3 p4 : List Int)
noncomputable def Sp.B_79_0 {R : Type} (r : Option E_79_0) (k0 : List Int → List Int → Option R) : Option R := match r with
 | none => none
 | some (.e0 p3 p4) => k0 p3 p4
noncomputable def Sp.L_79_0 : Nat → List (List Int) → Int → Int → List Int → List Int → Option E_79_0
 | 0, _, _, _, _, _ => none
 | m + 1, p0, p1, p2, p3, p4 => bif decide (p2 < p1) then gd (inB p2 (length p0)) (gd (room (length p4 + length (take 32 (drop 0 (getD p0 (toNat p2) (Ty.dflt (Ty.arr 32 (Ty.int u8))))))) 1) (L_79_0 m p0 p1 (wrap i64 (p2 + 1)) p3 (p4 ++ take 32 (drop 0 (getD p0 (toNat p2) (Ty.dflt (Ty.arr 32 (Ty.int u8)))))))) else some (E_79_0.e0 p3 p4)
noncomputable def G_79_0 {R : Type} (p0 : List (List Int)) (p1 p2 : Int) (p3 p4 : List Int) (k : Ex → St → Option R) : Option R := B_79_0 (L_79_0 FU p0 p1 p2 p3 p4) (fun p3 p4 => k (Ex.exit 0) (X_79_0_0 p3 p4))
noncomputable def o_79_0 {R : Type} (G : List (List Int) → Int → Int → List Int → List Int → (Ex → St → Option R) → Option R) : St → (Ex → St → Option R) → Option R := fun T k => match T.sl.getD 2 .junk, T.sl.getD 3 .junk, T.sl.getD 6 .junk, T.sl.getD 7 .junk, T.sl.getD 8 .junk, T.hp with
 | CV.ptr 0 [], CV.whole 1, CV.pure (Ty.slice (Ty.arr 32 (Ty.int u8))) p0, CV.int i64 p1, CV.int i64 p2, ((Blk.mem (CV.pure (Ty.arr 32 (Ty.int u8)) p3)) :: (Blk.vec 5 (Ty.int u8) p4) :: []) => gd (shapeOK T 18 [2, 3, 6, 7, 8] 0) (G p0 p1 p2 p3 p4 k)
 | _, _, _, _, _, _ => none
theorem o_79_0_inv {R : Type} {G : List (List Int) → Int → Int → List Int → List Int → (Ex → St → Option R) → Option R} {T : St} {k : Ex → St → Option R} {r : R} (h : o_79_0 G T k = some r) : ∃ p0 p1 p2 p3 p4, T = T_79_0 p0 p1 p2 p3 p4 ∧ G p0 p1 p2 p3 p4 k = some r := by
 unfold o_79_0 at h
 split at h
 · obtain ⟨hs, h'⟩ := gd_some h
   refine ⟨_, _, _, _, _, (st_of (asg := [(2, _), (3, _), (6, _), (7, _), (8, _)]) hs ⟨by assumption, by assumption, by assumption, by assumption, by assumption, trivial⟩ (by assumption)).trans ?_, h'⟩
   kernel_rfl
 · cases h
noncomputable def O_79_79_0 {R : Type} : St → (Ex → St → Option R) → Option R := fun T k => o_79_0 G_79_0 T k
theorem body_79_0 {R : Type} (K0 : St → Option R) (K1 : Ex → St → Option R) (p0 : List (List Int)) (p1 p2 : Int) (p3 p4 : List Int) : evLB (evCodeL sm_79 FU (ovr noO (evFn sm_79 fns FU 0)) .nil ir79_b0) (St.norm ir79_v0) (T_79_0 p0 p1 p2 p3 p4) K0 K1 =
 bif decide (p2 < p1) then gd (inB p2 (length p0)) (gd (room (length p4 + length (take 32 (drop 0 (getD p0 (toNat p2) (Ty.dflt (Ty.arr 32 (Ty.int u8))))))) 1) (K0 (T_79_0 p0 p1 (wrap i64 (p2 + 1)) p3 (p4 ++ take 32 (drop 0 (getD p0 (toNat p2) (Ty.dflt (Ty.arr 32 (Ty.int u8))))))))) else K1 (Ex.exit 0) (X_79_0_0 p3 p4) := by kernel_rfl
theorem Bgd_79_0 {R : Type} {c : Bool} {x : Option R} {y : Option E_79_0} {k0 : List Int → List Int → Option R} (h : x = B_79_0 y k0) : gd c x = B_79_0 (gd c y) k0 := by cases c; rfl; exact h
theorem Bcond_79_0 {R : Type} {c : Bool} {x x' : Option R} {y y' : Option E_79_0} {k0 : List Int → List Int → Option R} (h : x = B_79_0 y k0) (h' : x' = B_79_0 y' k0) : (bif c then x else x') = B_79_0 (bif c then y else y') k0 := by cases c; exact h'; exact h
theorem loop_79_0 {R : Type} (k : Ex → St → Option R) : ∀ (m : Nat) (p0 : List (List Int)) (p1 : Int) (p2 : Int) (p3 : List Int) (p4 : List Int), evLoopN (evCodeL sm_79 FU (ovr noO (evFn sm_79 fns FU 0)) .nil ir79_b0) (St.norm ir79_v0) m (T_79_0 p0 p1 p2 p3 p4) k = B_79_0 (L_79_0 m p0 p1 p2 p3 p4) (fun p3 p4 => k (Ex.exit (0 : Nat)) (X_79_0_0 p3 p4))
 | 0, _, _, _, _, _ => rfl
 | m + 1, p0, p1, p2, p3, p4 => by
   rw [evLoopN_succ, body_79_0, L_79_0]
   repeat' first | apply Bgd_79_0 | apply Bcond_79_0 | exact loop_79_0 k m _ _ _ _ _ | rfl
theorem ok_79_0 {R : Type} (T : St) (k : Ex → St → Option R) (r : R) (h0 : o_79_0 G_79_0 T k = some r) : evLoopN (evCode sm_79 FU (evFn sm_79 fns FU 0) ir79_b0) (St.norm ir79_v0) FU T k = some r := by
 obtain ⟨p0, p1, p2, p3, p4, rfl, h⟩ := o_79_0_inv h0
 refine evLoopN_L (t := .nil) noO_ok trivial _ _ _ _ ?_
 rw [loop_79_0]
 exact h
theorem OK_79_79_0 {R : Type} (T : St) (k : Ex → St → Option R) (r : R) (h : O_79_79_0 T k = some r) : evLoopN (evCode sm_79 FU (evFn sm_79 fns FU 0) ir79_b0) (St.norm ir79_v0) FU T k = some r := ok_79_0 T k r h
noncomputable def F_79 (a0 : (List (List Int))) : Option ((List Int) × Unit) :=
 B_79_0 (L_79_0 4611686018427387904 a0 (↑(length a0) : Int) 0 (replicate 32 (0 :Int)) []) fun y2 y3 => gd (p_35 y3) (some ((v_35 y3).1, PUnit.unit))
theorem fn_79 (a0 : (List (List Int))) : evFnL sm_79 FU (ovr noO (evFn sm_79 fns FU 0)) (ir79_t O_79_79_0) ir79 (ofH [(.slice (.arr 32 (.int .u8)))] (a0, ())) [] (pureK [(.arr 32 (.int .u8))]) = F_79 a0 := by kernel_rfl
noncomputable def Sp.p_79 (a0 : (List (List Int))) : Bool := (F_79 a0).isSome
noncomputable def Sp.v_79 (a0 : (List (List Int))) : (List Int) × Unit := (F_79 a0).getD (dfH [(.arr 32 (.int .u8))])
noncomputable def s_79 : Summ := shN [(.slice (.arr 32 (.int .u8)))] [(.arr 32 (.int .u8))] (fun x => p_79 x.1) (fun x => v_79 x.1)
theorem pv_79 (a0 : (List (List Int))) {y : (List Int) × Unit} (h : F_79 a0 = some y) : p_79 a0 = true ∧ v_79 a0 = y := ⟨by rw [p_79, h]; rfl, by rw [v_79, h]; rfl⟩
theorem run_79 (x : HDen [(.slice (.arr 32 (.int .u8)))]) (y : HDen [(.arr 32 (.int .u8))]) (h : F_79 x.1 = some y) : evFn sm_79 fns FU 1 79 (ofH [(.slice (.arr 32 (.int .u8)))] x) [] (pureK [(.arr 32 (.int .u8))]) = some y :=
 evFnL_sound (fn := ir79) (t := (ir79_t O_79_79_0)) (o := noO) rfl noO_ok (ir79_tok (fun T k r => OK_79_79_0 T k r)) ((fn_79 _).trans h)
end
noncomputable section
abbrev Zt45_0 : Type := Int × List (List Int) × List (List Int) × Unit
abbrev Zy45_1 : Ty := (Ty.arr (32 : Nat) (Ty.int u8))
abbrev Zy45_2 : Ty := (Ty.pair (Ty.int i64) (Ty.pair (Ty.slice (Ty.arr (32 : Nat) (Ty.int u8))) (Ty.pair (Ty.slice (Ty.arr (32 : Nat) (Ty.int u8))) Ty.unit)))
abbrev Zy45_3 : Ty := (.pair (.int .i64) (.pair (.slice (.arr 32 (.int .u8))) (.pair (.slice (.arr 32 (.int .u8))) .unit)))
abbrev Zt45_4 : Type := List (List Int)
noncomputable def sm_45 : Nat → Option Summ := fun f => bif Nat.beq f 69 then some s_69 else bif Nat.beq f 70 then some s_70 else bif Nat.beq f 73 then some s_73 else bif Nat.beq f 78 then some s_78 else bif Nat.beq f 79 then some s_79 else none
noncomputable def T_45_0 (p0 : List Int) (p1 p2 : Int) (p3 : List Int) (p4 : Zt45_0) (p5 : Zt45_4) : St := St.mk ([jk, jk, jk, CV.ptr 0 [], jk, CV.ptr 1 [], jk, CV.whole 2] ++ (jl 9 ++ ([CV.pure (Ty.slice (Ty.int i64)) p0, CV.int i64 p1, CV.int i64 p2] ++ (jl 41)))) [Blk.mem (CV.pure Zy45_1 p3), Blk.mem (CV.pure Zy45_2 p4), Blk.vec 27 Zy45_1 p5] 0
noncomputable def X_45_0_0 (p3 : List Int) (p4 : Zt45_0) (p5 : Zt45_4) : St := St.mk ([jk, jk, jk, CV.ptr 0 [], jk, CV.ptr 1 [], jk, CV.whole 2] ++ (jl 53)) [Blk.mem (CV.pure Zy45_1 p3), Blk.mem (CV.pure Zy45_2 p4), Blk.vec 27 Zy45_1 p5] 0
inductive Sp.E_45_0 where
 | e0 (p3 : List Int) (p4 : Zt45_0) (p5 : Zt45_4)
noncomputable def Sp.B_45_0 {R : Type} (r : Option E_45_0) (k0 : List Int → Zt45_0 → Zt45_4 → Option R) : Option R := match r with
 | none => none
 | some (.e0 p3 p4 p5) => k0 p3 p4 p5
noncomputable def Sp.L_45_0 : Nat → List Int → Int → Int → List Int → (Int × List (List Int) × List (List Int) × Unit) → List (List Int) → Option E_45_0
 | 0, _, _, _, _, _, _ => none
 | m + 1, p0, p1, p2, p3, p4, p5 => bif decide (p2 < p1) then gd (inB p2 (length p0)) (gd (inB p2 (length (p4.2.1))) (gd (p_70 (getD (p4.2.1) (toNat p2) (Ty.dflt (Ty.arr 32 (Ty.int u8)))) (getD p0 (toNat p2) 0) 15) (gd (room (length p5 + 1) 32) (L_45_0 m p0 p1 (wrap i64 (p2 + 1)) p3 p4 (p5 ++ [(v_70 (getD (p4.2.1) (toNat p2) (Ty.dflt (Ty.arr 32 (Ty.int u8)))) (getD p0 (toNat p2) 0) 15).1]))))) else some (E_45_0.e0 p3 p4 p5)
noncomputable def G_45_0 {R : Type} (p0 : List Int) (p1 p2 : Int) (p3 : List Int) (p4 : Zt45_0) (p5 : Zt45_4) (k : Ex → St → Option R) : Option R := B_45_0 (L_45_0 FU p0 p1 p2 p3 p4 p5) (fun p3 p4 p5 => k (Ex.exit 0) (X_45_0_0 p3 p4 p5))
noncomputable def o_45_0 {R : Type} (G : List Int → Int → Int → List Int → Zt45_0 → Zt45_4 → (Ex → St → Option R) → Option R) : St → (Ex → St → Option R) → Option R := fun T k => match T.sl.getD 3 .junk, T.sl.getD 5 .junk, T.sl.getD 7 .junk, T.sl.getD 17 .junk, T.sl.getD 18 .junk, T.sl.getD 19 .junk, T.hp with
 | CV.ptr 0 [], CV.ptr 1 [], CV.whole 2, CV.pure (Ty.slice (Ty.int i64)) p0, CV.int i64 p1, CV.int i64 p2, ((Blk.mem (CV.pure (Ty.arr 32 (Ty.int u8)) p3)) :: (Blk.mem (CV.pure (Ty.pair (Ty.int i64) (Ty.pair (Ty.slice (Ty.arr 32 (Ty.int u8))) (Ty.pair (Ty.slice (Ty.arr 32 (Ty.int u8))) Ty.unit))) p4)) :: (Blk.vec 27 (Ty.arr 32 (Ty.int u8)) p5) :: []) => gd (shapeOK T 61 [3, 5, 7, 17, 18, 19] 0) (G p0 p1 p2 p3 p4 p5 k)
 | _, _, _, _, _, _, _ => none
theorem o_45_0_inv {R : Type} {G : List Int → Int → Int → List Int → Zt45_0 → Zt45_4 → (Ex → St → Option R) → Option R} {T : St} {k : Ex → St → Option R} {r : R} (h : o_45_0 G T k = some r) : ∃ p0 p1 p2 p3 p4 p5, T = T_45_0 p0 p1 p2 p3 p4 p5 ∧ G p0 p1 p2 p3 p4 p5 k = some r := by
 unfold o_45_0 at h
 split at h
 · obtain ⟨hs, h'⟩ := gd_some h
   refine ⟨_, _, _, _, _, _, (st_of (asg := [(3, _), (5, _), (7, _), (17, _), (18, _), (19, _)]) hs ⟨by assumption, by assumption, by assumption, by assumption, by assumption, by assumption, trivial⟩ (by assumption)).trans ?_, h'⟩
   kernel_rfl
 · cases h
noncomputable def T_45_1 (p0 : Zt45_4) (p1 p2 : Int) (p3 : List Int) (p4 : Zt45_0) (p5 : List Int) : St := St.mk ([jk, jk, jk, CV.ptr 0 [], jk, CV.ptr 1 [], jk, jk, jk, jk, CV.ptr 2 []] ++ (jl 27 ++ ([CV.pure (Ty.slice (Ty.arr 32 (Ty.int u8))) p0, CV.int i64 p1, CV.int i64 p2] ++ (jl 20)))) [Blk.mem (CV.pure Zy45_1 p3), Blk.mem (CV.pure Zy45_2 p4), Blk.mem (CV.pure Zy45_1 p5)] 0
noncomputable def X_45_1_0 (p3 p5 : List Int) : St := St.mk ([jk, jk, jk, CV.ptr 0 []] ++ (jl 6 ++ ([CV.ptr 1 []] ++ (jl 50)))) [Blk.mem (CV.pure Zy45_1 p3), Blk.mem (CV.pure Zy45_1 p5)] 0
inductive Sp.E_45_1 where
 | e0 (p3 p5 : List Int)
noncomputable def Sp.B_45_1 {R : Type} (r : Option E_45_1) (k0 : List Int → List Int → Option R) : Option R := match r with
 | none => none
 | some (.e0 p3 p5) => k0 p3 p5
noncomputable def Sp.L_45_1 : Nat → List (List Int) → Int → Int → List Int → (Int × List (List Int) × List (List Int) × Unit) → List Int → Option E_45_1
 | 0, _, _, _, _, _, _ => none
 | m + 1, p0, p1, p2, p3, p4, p5 => bif decide (p2 < p1) then gd (inB p2 (length p0)) (gd (decide (0 ≤ p2)) (bif Sp.andI i64 (Int.fdiv (p4.1) (2 ^ Nat.min (toNat p2) 64)) (1 :Int) == (1 :Int) then gd (p_73 (getD p0 (toNat p2) (Ty.dflt (Ty.arr 32 (Ty.int u8)))) p5) (L_45_1 m p0 p1 (wrap i64 (p2 + 1)) p3 p4 ((v_73 (getD p0 (toNat p2) (Ty.dflt (Ty.arr 32 (Ty.int u8)))) p5).1)) else gd (p_73 p5 (getD p0 (toNat p2) (Ty.dflt (Ty.arr 32 (Ty.int u8))))) (L_45_1 m p0 p1 (wrap i64 (p2 + 1)) p3 p4 ((v_73 p5 (getD p0 (toNat p2) (Ty.dflt (Ty.arr 32 (Ty.int u8))))).1)))) else some (E_45_1.e0 p3 p5)
noncomputable def G_45_1 {R : Type} (p0 : Zt45_4) (p1 p2 : Int) (p3 : List Int) (p4 : Zt45_0) (p5 : List Int) (k : Ex → St → Option R) : Option R := B_45_1 (L_45_1 FU p0 p1 p2 p3 p4 p5) (fun p3 p5 => k (Ex.exit 2) (X_45_1_0 p3 p5))
noncomputable def o_45_1 {R : Type} (G : Zt45_4 → Int → Int → List Int → Zt45_0 → List Int → (Ex → St → Option R) → Option R) : St → (Ex → St → Option R) → Option R := fun T k => match T.sl.getD 3 .junk, T.sl.getD 5 .junk, T.sl.getD 10 .junk, T.sl.getD 38 .junk, T.sl.getD 39 .junk, T.sl.getD 40 .junk, T.hp with
 | CV.ptr 0 [], CV.ptr 1 [], CV.ptr 2 [], CV.pure (Ty.slice (Ty.arr 32 (Ty.int u8))) p0, CV.int i64 p1, CV.int i64 p2, ((Blk.mem (CV.pure (Ty.arr 32 (Ty.int u8)) p3)) :: (Blk.mem (CV.pure (Ty.pair (Ty.int i64) (Ty.pair (Ty.slice (Ty.arr 32 (Ty.int u8))) (Ty.pair (Ty.slice (Ty.arr 32 (Ty.int u8))) Ty.unit))) p4)) :: (Blk.mem (CV.pure (Ty.arr 32 (Ty.int u8)) p5)) :: []) => gd (shapeOK T 61 [3, 5, 10, 38, 39, 40] 0) (G p0 p1 p2 p3 p4 p5 k)
 | _, _, _, _, _, _, _ => none
theorem o_45_1_inv {R : Type} {G : Zt45_4 → Int → Int → List Int → Zt45_0 → List Int → (Ex → St → Option R) → Option R} {T : St} {k : Ex → St → Option R} {r : R} (h : o_45_1 G T k = some r) : ∃ p0 p1 p2 p3 p4 p5, T = T_45_1 p0 p1 p2 p3 p4 p5 ∧ G p0 p1 p2 p3 p4 p5 k = some r := by
 unfold o_45_1 at h
 split at h
 · obtain ⟨hs, h'⟩ := gd_some h
   refine ⟨_, _, _, _, _, _, (st_of (asg := [(3, _), (5, _), (10, _), (38, _), (39, _), (40, _)]) hs ⟨by assumption, by assumption, by assumption, by assumption, by assumption, by assumption, trivial⟩ (by assumption)).trans ?_, h'⟩
   kernel_rfl
 · cases h
noncomputable def O_45_45_0 {R : Type} : St → (Ex → St → Option R) → Option R := fun T k => o_45_0 G_45_0 T k
noncomputable def O_45_45_1 {R : Type} : St → (Ex → St → Option R) → Option R := fun T k => o_45_1 G_45_1 T k
theorem body_45_0 {R : Type} (K0 : St → Option R) (K1 : Ex → St → Option R) (p0 : List Int) (p1 p2 : Int) (p3 : List Int) (p4 : Zt45_0) (p5 : Zt45_4) : evLB (evCodeL sm_45 FU (ovr noO (evFn sm_45 fns FU 0)) .nil ir45_b0) (St.norm ir45_v0) (T_45_0 p0 p1 p2 p3 p4 p5) K0 K1 =
 bif decide (p2 < p1) then gd (inB p2 (length p0)) (gd (inB p2 (length (p4.2.1))) (gd (p_70 (getD (p4.2.1) (toNat p2) (Ty.dflt Zy45_1)) (getD p0 (toNat p2) 0) 15) (gd (room (length p5 + 1) 32) (K0 (T_45_0 p0 p1 (wrap i64 (p2 + 1)) p3 p4 (p5 ++ [(v_70 (getD (p4.2.1) (toNat p2) (Ty.dflt Zy45_1)) (getD p0 (toNat p2) 0) 15).1])))))) else K1 (Ex.exit 0) (X_45_0_0 p3 p4 p5) := by kernel_rfl
theorem Bgd_45_0 {R : Type} {c : Bool} {x : Option R} {y : Option E_45_0} {k0 : List Int → Zt45_0 → Zt45_4 → Option R} (h : x = B_45_0 y k0) : gd c x = B_45_0 (gd c y) k0 := by cases c; rfl; exact h
theorem Bcond_45_0 {R : Type} {c : Bool} {x x' : Option R} {y y' : Option E_45_0} {k0 : List Int → Zt45_0 → Zt45_4 → Option R} (h : x = B_45_0 y k0) (h' : x' = B_45_0 y' k0) : (bif c then x else x') = B_45_0 (bif c then y else y') k0 := by cases c; exact h'; exact h
theorem loop_45_0 {R : Type} (k : Ex → St → Option R) : ∀ (m : Nat) (p0 : List Int) (p1 : Int) (p2 : Int) (p3 : List Int) (p4 : Zt45_0) (p5 : Zt45_4), evLoopN (evCodeL sm_45 FU (ovr noO (evFn sm_45 fns FU 0)) .nil ir45_b0) (St.norm ir45_v0) m (T_45_0 p0 p1 p2 p3 p4 p5) k = B_45_0 (L_45_0 m p0 p1 p2 p3 p4 p5) (fun p3 p4 p5 => k (Ex.exit (0 : Nat)) (X_45_0_0 p3 p4 p5))
 | 0, _, _, _, _, _, _ => rfl
 | m + 1, p0, p1, p2, p3, p4, p5 => by
   rw [evLoopN_succ, body_45_0, L_45_0]
   repeat' first | apply Bgd_45_0 | apply Bcond_45_0 | exact loop_45_0 k m _ _ _ _ _ _ | rfl
theorem ok_45_0 {R : Type} (T : St) (k : Ex → St → Option R) (r : R) (h0 : o_45_0 G_45_0 T k = some r) : evLoopN (evCode sm_45 FU (evFn sm_45 fns FU 0) ir45_b0) (St.norm ir45_v0) FU T k = some r := by
 obtain ⟨p0, p1, p2, p3, p4, p5, rfl, h⟩ := o_45_0_inv h0
 refine evLoopN_L (t := .nil) noO_ok trivial _ _ _ _ ?_
 rw [loop_45_0]
 exact h
theorem OK_45_45_0 {R : Type} (T : St) (k : Ex → St → Option R) (r : R) (h : O_45_45_0 T k = some r) : evLoopN (evCode sm_45 FU (evFn sm_45 fns FU 0) ir45_b0) (St.norm ir45_v0) FU T k = some r := ok_45_0 T k r h
theorem body_45_1 {R : Type} (K0 : St → Option R) (K1 : Ex → St → Option R) (p0 : Zt45_4) (p1 p2 : Int) (p3 : List Int) (p4 : Zt45_0) (p5 : List Int) : evLB (evCodeL sm_45 FU (ovr noO (evFn sm_45 fns FU 0)) .nil ir45_b1) (St.norm ir45_v1) (T_45_1 p0 p1 p2 p3 p4 p5) K0 K1 =
 bif decide (p2 < p1) then gd (inB p2 (length p0)) (gd (decide (0 ≤ p2)) (bif Sp.andI i64 (Int.fdiv (p4.1) (2 ^ Nat.min (toNat p2) 64)) (1 :Int) == (1 :Int) then gd (p_73 (getD p0 (toNat p2) (Ty.dflt Zy45_1)) p5) (K0 (T_45_1 p0 p1 (wrap i64 (p2 + 1)) p3 p4 ((v_73 (getD p0 (toNat p2) (Ty.dflt Zy45_1)) p5).1))) else gd (p_73 p5 (getD p0 (toNat p2) (Ty.dflt Zy45_1))) (K0 (T_45_1 p0 p1 (wrap i64 (p2 + 1)) p3 p4 ((v_73 p5 (getD p0 (toNat p2) (Ty.dflt Zy45_1))).1))))) else K1 (Ex.exit 2) (X_45_1_0 p3 p5) := by kernel_rfl
theorem Bgd_45_1 {R : Type} {c : Bool} {x : Option R} {y : Option E_45_1} {k0 : List Int → List Int → Option R} (h : x = B_45_1 y k0) : gd c x = B_45_1 (gd c y) k0 := by cases c; rfl; exact h
theorem Bcond_45_1 {R : Type} {c : Bool} {x x' : Option R} {y y' : Option E_45_1} {k0 : List Int → List Int → Option R} (h : x = B_45_1 y k0) (h' : x' = B_45_1 y' k0) : (bif c then x else x') = B_45_1 (bif c then y else y') k0 := by cases c; exact h'; exact h
theorem loop_45_1 {R : Type} (k : Ex → St → Option R) : ∀ (m : Nat) (p0 : Zt45_4) (p1 : Int) (p2 : Int) (p3 : List Int) (p4 : Zt45_0) (p5 : List Int), evLoopN (evCodeL sm_45 FU (ovr noO (evFn sm_45 fns FU 0)) .nil ir45_b1) (St.norm ir45_v1) m (T_45_1 p0 p1 p2 p3 p4 p5) k = B_45_1 (L_45_1 m p0 p1 p2 p3 p4 p5) (fun p3 p5 => k (Ex.exit (2 : Nat)) (X_45_1_0 p3 p5))
 | 0, _, _, _, _, _, _ => rfl
 | m + 1, p0, p1, p2, p3, p4, p5 => by
   rw [evLoopN_succ, body_45_1, L_45_1]
   repeat' first | apply Bgd_45_1 | apply Bcond_45_1 | exact loop_45_1 k m _ _ _ _ _ _ | rfl
theorem ok_45_1 {R : Type} (T : St) (k : Ex → St → Option R) (r : R) (h0 : o_45_1 G_45_1 T k = some r) : evLoopN (evCode sm_45 FU (evFn sm_45 fns FU 0) ir45_b1) (St.norm ir45_v1) FU T k = some r := by
 obtain ⟨p0, p1, p2, p3, p4, p5, rfl, h⟩ := o_45_1_inv h0
 refine evLoopN_L (t := .nil) noO_ok trivial _ _ _ _ ?_
 rw [loop_45_1]
 exact h
theorem OK_45_45_1 {R : Type} (T : St) (k : Ex → St → Option R) (r : R) (h : O_45_45_1 T k = some r) : evLoopN (evCode sm_45 FU (evFn sm_45 fns FU 0) ir45_b1) (St.norm ir45_v1) FU T k = some r := ok_45_1 T k r h
noncomputable def F_45 (a0 a1 : (List Int)) (a2 : (Int × ((List (List Int)) × ((List (List Int)) × Unit)))) : Option (Bool × Unit) :=
 gd (p_78 a2) (bif !(v_78 a2).1 then some (false, PUnit.unit) else gd (p_69 a1) (B_45_0 (L_45_0 4611686018427387904 ((v_69 a1).1) (↑(length ((v_69 a1).1)) : Int) 0 a0 a2 []) fun y5 y6 y7 => gd (p_79 y7) (B_45_1 (L_45_1 4611686018427387904 (y6.2.2.1) (↑(length (y6.2.2.1)) : Int) 0 y5 y6 ((v_79 y7).1)) fun y8 y9 => some (Ty.beq (Ty.arr 32 (Ty.int u8)) y9 y8, PUnit.unit))))
theorem fn_45 (a0 a1 : (List Int)) (a2 : (Int × ((List (List Int)) × ((List (List Int)) × Unit)))) : evFnL sm_45 FU (ovr noO (evFn sm_45 fns FU 0)) (ir45_t O_45_45_0 O_45_45_1) ir45 (ofH [(.arr 32 (.int .u8)), (.arr 32 (.int .u8)), Zy45_3] (a0, a1, a2, ())) [] (pureK [.bool]) = F_45 a0 a1 a2 := by kernel_rfl
noncomputable def Sp.p_45 (a0 a1 : (List Int)) (a2 : (Int × ((List (List Int)) × ((List (List Int)) × Unit)))) : Bool := (F_45 a0 a1 a2).isSome
noncomputable def Sp.v_45 (a0 a1 : (List Int)) (a2 : (Int × ((List (List Int)) × ((List (List Int)) × Unit)))) : Bool × Unit := (F_45 a0 a1 a2).getD (dfH [.bool])
noncomputable def s_45 : Summ := shN [(.arr 32 (.int .u8)), (.arr 32 (.int .u8)), Zy45_3] [.bool] (fun x => p_45 x.1 x.2.1 x.2.2.1) (fun x => v_45 x.1 x.2.1 x.2.2.1)
theorem pv_45 (a0 a1 : (List Int)) (a2 : (Int × ((List (List Int)) × ((List (List Int)) × Unit)))) {y : Bool × Unit} (h : F_45 a0 a1 a2 = some y) : p_45 a0 a1 a2 = true ∧ v_45 a0 a1 a2 = y := ⟨by rw [p_45, h]; rfl, by rw [v_45, h]; rfl⟩
theorem run_45 (x : HDen [(.arr 32 (.int .u8)), (.arr 32 (.int .u8)), Zy45_3]) (y : HDen [.bool]) (h : F_45 x.1 x.2.1 x.2.2.1 = some y) : evFn sm_45 fns FU 1 45 (ofH [(.arr 32 (.int .u8)), (.arr 32 (.int .u8)), Zy45_3] x) [] (pureK [.bool]) = some y :=
 evFnL_sound (fn := ir45) (t := (ir45_t O_45_45_0 O_45_45_1)) (o := noO) rfl noO_ok (ir45_tok (fun T k r => OK_45_45_0 T k r) (fun T k r => OK_45_45_1 T k r)) ((fn_45 _ _ _).trans h)
end
noncomputable section
noncomputable def sm_13 : Nat → Option Summ := fun f => bif Nat.beq f 14 then some s_14 else bif Nat.beq f 35 then some s_35 else bif Nat.beq f 42 then some s_42 else bif Nat.beq f 43 then some s_43 else bif Nat.beq f 44 then some s_44 else bif Nat.beq f 45 then some s_45 else none
noncomputable def F_13 (a0 : (((List Int) × ((List Int) × (Int × Unit))) × ((List Int) × Unit))) (a1 : Int) : Option (Bool × Unit) :=
 gd (p_14 a0 a1) (bif !(v_14 a0 a1).2.1 then some (false, PUnit.unit) else gd (p_42 a0 a1) (gd (sl3 1 3 (↑(length ((v_42 a0 a1).1)) : Int)) (gd (sl3 564 (wrap i64 (564 + (v_14 a0 a1).1.2.1)) (↑(length ((v_42 a0 a1).1)) : Int)) (gd (p_43 [take 2 (drop 1 ((v_42 a0 a1).1)), take (toNat (wrap i64 (564 + (v_14 a0 a1).1.2.1)) - 564) (drop 564 ((v_42 a0 a1).1))]) (gd (p_44 ((v_43 [take 2 (drop 1 ((v_42 a0 a1).1)), take (toNat (wrap i64 (564 + (v_14 a0 a1).1.2.1)) - 564) (drop 564 ((v_42 a0 a1).1))]).1)) (gd (p_35 ((v_44 ((v_43 [take 2 (drop 1 ((v_42 a0 a1).1)), take (toNat (wrap i64 (564 + (v_14 a0 a1).1.2.1)) - 564) (drop 564 ((v_42 a0 a1).1))]).1)).1)) (bif Ty.beq (Ty.arr 32 (Ty.int u8)) ((v_35 ((v_44 ((v_43 [take 2 (drop 1 ((v_42 a0 a1).1)), take (toNat (wrap i64 (564 + (v_14 a0 a1).1.2.1)) - 564) (drop 564 ((v_42 a0 a1).1))]).1)).1)).1) ((v_14 a0 a1).1.2.2.1) then gd (p_45 (a0.2.1) ((v_14 a0 a1).1.2.2.1) ((v_14 a0 a1).1.2.2.2.1)) (some ((v_45 (a0.2.1) ((v_14 a0 a1).1.2.2.1) ((v_14 a0 a1).1.2.2.2.1)).1, PUnit.unit)) else some (false, PUnit.unit))))))))
theorem fn_13 (a0 : (((List Int) × ((List Int) × (Int × Unit))) × ((List Int) × Unit))) (a1 : Int) : evFnL sm_13 FU (ovr noO (evFn sm_13 fns FU 0)) .nil ir13 (ofH [(.pair (.pair (.slice (.int .u32)) (.pair (.slice (.int .i64)) (.pair (.int .i64) .unit))) (.pair (.arr 32 (.int .u8)) .unit)), (.int .i64)] (a0, a1, ())) [] (pureK [.bool]) = F_13 a0 a1 := by kernel_rfl
noncomputable def Sp.p_13 (a0 : (((List Int) × ((List Int) × (Int × Unit))) × ((List Int) × Unit))) (a1 : Int) : Bool := (F_13 a0 a1).isSome
noncomputable def Sp.v_13 (a0 : (((List Int) × ((List Int) × (Int × Unit))) × ((List Int) × Unit))) (a1 : Int) : Bool × Unit := (F_13 a0 a1).getD (dfH [.bool])
noncomputable def s_13 : Summ := shN [(.pair (.pair (.slice (.int .u32)) (.pair (.slice (.int .i64)) (.pair (.int .i64) .unit))) (.pair (.arr 32 (.int .u8)) .unit)), (.int .i64)] [.bool] (fun x => p_13 x.1 x.2.1) (fun x => v_13 x.1 x.2.1)
theorem pv_13 (a0 : (((List Int) × ((List Int) × (Int × Unit))) × ((List Int) × Unit))) (a1 : Int) {y : Bool × Unit} (h : F_13 a0 a1 = some y) : p_13 a0 a1 = true ∧ v_13 a0 a1 = y := ⟨by rw [p_13, h]; rfl, by rw [v_13, h]; rfl⟩
theorem run_13 (x : HDen [(.pair (.pair (.slice (.int .u32)) (.pair (.slice (.int .i64)) (.pair (.int .i64) .unit))) (.pair (.arr 32 (.int .u8)) .unit)), (.int .i64)]) (y : HDen [.bool]) (h : F_13 x.1 x.2.1 = some y) : evFn sm_13 fns FU 1 13 (ofH [(.pair (.pair (.slice (.int .u32)) (.pair (.slice (.int .i64)) (.pair (.int .i64) .unit))) (.pair (.arr 32 (.int .u8)) .unit)), (.int .i64)] x) [] (pureK [.bool]) = some y :=
 evFnL_sound (fn := ir13) (t := .nil) (o := noO) rfl noO_ok trivial ((fn_13 _ _).trans h)
end
noncomputable section
noncomputable def sm_51 : Nat → Option Summ := fun f => bif Nat.beq f 42 then some s_42 else none
noncomputable def F_51 (a0 : (((List Int) × ((List Int) × (Int × Unit))) × ((List Int) × Unit))) (a1 : Int) : Option (Bool × Unit) :=
 gd (p_42 a0 a1) (gd (inB 0 (length ((v_42 a0 a1).1))) (some (getD ((v_42 a0 a1).1) 0 (0 :Int) == (0 :Int), PUnit.unit)))
theorem fn_51 (a0 : (((List Int) × ((List Int) × (Int × Unit))) × ((List Int) × Unit))) (a1 : Int) : evFnL sm_51 FU (ovr noO (evFn sm_51 fns FU 0)) .nil ir51 (ofH [(.pair (.pair (.slice (.int .u32)) (.pair (.slice (.int .i64)) (.pair (.int .i64) .unit))) (.pair (.arr 32 (.int .u8)) .unit)), (.int .i64)] (a0, a1, ())) [] (pureK [.bool]) = F_51 a0 a1 := by kernel_rfl
noncomputable def Sp.p_51 (a0 : (((List Int) × ((List Int) × (Int × Unit))) × ((List Int) × Unit))) (a1 : Int) : Bool := (F_51 a0 a1).isSome
noncomputable def Sp.v_51 (a0 : (((List Int) × ((List Int) × (Int × Unit))) × ((List Int) × Unit))) (a1 : Int) : Bool × Unit := (F_51 a0 a1).getD (dfH [.bool])
noncomputable def s_51 : Summ := shN [(.pair (.pair (.slice (.int .u32)) (.pair (.slice (.int .i64)) (.pair (.int .i64) .unit))) (.pair (.arr 32 (.int .u8)) .unit)), (.int .i64)] [.bool] (fun x => p_51 x.1 x.2.1) (fun x => v_51 x.1 x.2.1)
theorem pv_51 (a0 : (((List Int) × ((List Int) × (Int × Unit))) × ((List Int) × Unit))) (a1 : Int) {y : Bool × Unit} (h : F_51 a0 a1 = some y) : p_51 a0 a1 = true ∧ v_51 a0 a1 = y := ⟨by rw [p_51, h]; rfl, by rw [v_51, h]; rfl⟩
theorem run_51 (x : HDen [(.pair (.pair (.slice (.int .u32)) (.pair (.slice (.int .i64)) (.pair (.int .i64) .unit))) (.pair (.arr 32 (.int .u8)) .unit)), (.int .i64)]) (y : HDen [.bool]) (h : F_51 x.1 x.2.1 = some y) : evFn sm_51 fns FU 1 51 (ofH [(.pair (.pair (.slice (.int .u32)) (.pair (.slice (.int .i64)) (.pair (.int .i64) .unit))) (.pair (.arr 32 (.int .u8)) .unit)), (.int .i64)] x) [] (pureK [.bool]) = some y :=
 evFnL_sound (fn := ir51) (t := .nil) (o := noO) rfl noO_ok trivial ((fn_51 _ _).trans h)
end
noncomputable section
abbrev Zy17_0 : Ty := (.pair (.pair (.slice (.int .u32)) (.pair (.slice (.int .i64)) (.pair (.int .i64) .unit))) (.pair (.arr 32 (.int .u8)) .unit))
abbrev Zt17_1 : Type := (List Int × List Int × Int × Unit) × List Int × Unit
noncomputable def sm_17 : Nat → Option Summ := fun f => bif Nat.beq f 12 then some s_12 else bif Nat.beq f 13 then some s_13 else bif Nat.beq f 14 then some s_14 else bif Nat.beq f 51 then some s_51 else none
noncomputable def T_17_0 (p0 p1 p2 : Int) (p3 : Zt17_1) : St := St.mk ([jk, CV.ptr 0 [], jk, jk, CV.int i64 p0, CV.int i64 p1] ++ (jl 6 ++ ([CV.int i64 p2] ++ (jl 32)))) [Blk.mem (CV.pure (Ty.pair (Ty.pair (Ty.slice (Ty.int u32)) (Ty.pair (Ty.slice (Ty.int i64)) (Ty.pair (Ty.int i64) Ty.unit))) (Ty.pair (Ty.arr 32 (Ty.int u8)) Ty.unit)) p3)] 0
noncomputable def X_17_0_0 (p0 p1 : Int) : St := St.mk ([jk, jk, jk, jk, CV.int i64 p0, CV.int i64 p1] ++ (jl 39)) [] 0
inductive Sp.E_17_0 where
 | e0 (p0 p1 : Int)
noncomputable def Sp.B_17_0 {R : Type} (r : Option E_17_0) (k0 : Int → Int → Option R) : Option R := match r with
 | none => none
 | some (.e0 p0 p1) => k0 p0 p1
noncomputable def Sp.L_17_0 : Nat → Int → Int → Int → ((List Int × List Int × Int × Unit) × List Int × Unit) → Option E_17_0
 | 0, _, _, _, _ => none
 | m + 1, p0, p1, p2, p3 => bif decide (p2 < 2) then gd (p_14 p3 p2) (bif (v_14 p3 p2).2.1 then bif decide ((v_14 p3 p2).1.1 > p1) then gd (p_51 p3 p2) (bif (v_51 p3 p2).1 then gd (p_13 p3 p2) (bif (v_13 p3 p2).1 then L_17_0 m p2 ((v_14 p3 p2).1.1) (wrap i64 (p2 + 1)) p3 else L_17_0 m p0 p1 (wrap i64 (p2 + 1)) p3) else L_17_0 m p0 p1 (wrap i64 (p2 + 1)) p3) else L_17_0 m p0 p1 (wrap i64 (p2 + 1)) p3 else L_17_0 m p0 p1 (wrap i64 (p2 + 1)) p3) else some (E_17_0.e0 p0 p1)
noncomputable def G_17_0 {R : Type} (p0 p1 p2 : Int) (p3 : Zt17_1) (k : Ex → St → Option R) : Option R := B_17_0 (L_17_0 FU p0 p1 p2 p3) (fun p0 p1 => k (Ex.exit 0) (X_17_0_0 p0 p1))
noncomputable def o_17_0 {R : Type} (G : Int → Int → Int → Zt17_1 → (Ex → St → Option R) → Option R) : St → (Ex → St → Option R) → Option R := fun T k => match T.sl.getD 1 .junk, T.sl.getD 4 .junk, T.sl.getD 5 .junk, T.sl.getD 12 .junk, T.hp with
 | CV.ptr 0 [], CV.int i64 p0, CV.int i64 p1, CV.int i64 p2, ((Blk.mem (CV.pure (Ty.pair (Ty.pair (Ty.slice (Ty.int u32)) (Ty.pair (Ty.slice (Ty.int i64)) (Ty.pair (Ty.int i64) Ty.unit))) (Ty.pair (Ty.arr 32 (Ty.int u8)) Ty.unit)) p3)) :: []) => gd (shapeOK T 45 [1, 4, 5, 12] 0) (G p0 p1 p2 p3 k)
 | _, _, _, _, _ => none
theorem o_17_0_inv {R : Type} {G : Int → Int → Int → Zt17_1 → (Ex → St → Option R) → Option R} {T : St} {k : Ex → St → Option R} {r : R} (h : o_17_0 G T k = some r) : ∃ p0 p1 p2 p3, T = T_17_0 p0 p1 p2 p3 ∧ G p0 p1 p2 p3 k = some r := by
 unfold o_17_0 at h
 split at h
 · obtain ⟨hs, h'⟩ := gd_some h
   refine ⟨_, _, _, _, (st_of (asg := [(1, _), (4, _), (5, _), (12, _)]) hs ⟨by assumption, by assumption, by assumption, by assumption, trivial⟩ (by assumption)).trans ?_, h'⟩
   kernel_rfl
 · cases h
noncomputable def O_17_17_0 {R : Type} : St → (Ex → St → Option R) → Option R := fun T k => o_17_0 G_17_0 T k
theorem body_17_0 {R : Type} (K0 : St → Option R) (K1 : Ex → St → Option R) (p0 p1 p2 : Int) (p3 : Zt17_1) : evLB (evCodeL sm_17 FU (ovr noO (evFn sm_17 fns FU 0)) .nil ir17_b0) (St.norm ir17_v0) (T_17_0 p0 p1 p2 p3) K0 K1 =
 bif decide (p2 < 2) then gd (p_14 p3 p2) (bif (v_14 p3 p2).2.1 then bif decide ((v_14 p3 p2).1.1 > p1) then gd (p_51 p3 p2) (bif (v_51 p3 p2).1 then gd (p_13 p3 p2) (bif (v_13 p3 p2).1 then K0 (T_17_0 p2 ((v_14 p3 p2).1.1) (wrap i64 (p2 + 1)) p3) else K0 (T_17_0 p0 p1 (wrap i64 (p2 + 1)) p3)) else K0 (T_17_0 p0 p1 (wrap i64 (p2 + 1)) p3)) else K0 (T_17_0 p0 p1 (wrap i64 (p2 + 1)) p3) else K0 (T_17_0 p0 p1 (wrap i64 (p2 + 1)) p3)) else K1 (Ex.exit 0) (X_17_0_0 p0 p1) := by kernel_rfl
theorem Bgd_17_0 {R : Type} {c : Bool} {x : Option R} {y : Option E_17_0} {k0 : Int → Int → Option R} (h : x = B_17_0 y k0) : gd c x = B_17_0 (gd c y) k0 := by cases c; rfl; exact h
theorem Bcond_17_0 {R : Type} {c : Bool} {x x' : Option R} {y y' : Option E_17_0} {k0 : Int → Int → Option R} (h : x = B_17_0 y k0) (h' : x' = B_17_0 y' k0) : (bif c then x else x') = B_17_0 (bif c then y else y') k0 := by cases c; exact h'; exact h
theorem loop_17_0 {R : Type} (k : Ex → St → Option R) : ∀ (m : Nat) (p0 : Int) (p1 : Int) (p2 : Int) (p3 : Zt17_1), evLoopN (evCodeL sm_17 FU (ovr noO (evFn sm_17 fns FU 0)) .nil ir17_b0) (St.norm ir17_v0) m (T_17_0 p0 p1 p2 p3) k = B_17_0 (L_17_0 m p0 p1 p2 p3) (fun p0 p1 => k (Ex.exit (0 : Nat)) (X_17_0_0 p0 p1))
 | 0, _, _, _, _ => rfl
 | m + 1, p0, p1, p2, p3 => by
   rw [evLoopN_succ, body_17_0, L_17_0]
   repeat' first | apply Bgd_17_0 | apply Bcond_17_0 | exact loop_17_0 k m _ _ _ _ | rfl
theorem ok_17_0 {R : Type} (T : St) (k : Ex → St → Option R) (r : R) (h0 : o_17_0 G_17_0 T k = some r) : evLoopN (evCode sm_17 FU (evFn sm_17 fns FU 0) ir17_b0) (St.norm ir17_v0) FU T k = some r := by
 obtain ⟨p0, p1, p2, p3, rfl, h⟩ := o_17_0_inv h0
 refine evLoopN_L (t := .nil) noO_ok trivial _ _ _ _ ?_
 rw [loop_17_0]
 exact h
theorem OK_17_17_0 {R : Type} (T : St) (k : Ex → St → Option R) (r : R) (h : O_17_17_0 T k = some r) : evLoopN (evCode sm_17 FU (evFn sm_17 fns FU 0) ir17_b0) (St.norm ir17_v0) FU T k = some r := ok_17_0 T k r h
noncomputable def F_17 (a0 : (((List Int) × ((List Int) × (Int × Unit))) × ((List Int) × Unit))) : Option (Int × Int × Unit) :=
 gd (p_12 a0) (bif !(v_12 a0).1 then some (0, 1, PUnit.unit) else B_17_0 (L_17_0 4611686018427387904 0 0 0 a0) fun y2 y3 => bif y3 == 0 then some (0, 7, PUnit.unit) else some (y2, 0, PUnit.unit))
theorem fn_17 (a0 : (((List Int) × ((List Int) × (Int × Unit))) × ((List Int) × Unit))) : evFnL sm_17 FU (ovr noO (evFn sm_17 fns FU 0)) (ir17_t O_17_17_0) ir17 (ofH [Zy17_0] (a0, ())) [] (pureK [(.int .i64), (.int .i64)]) = F_17 a0 := by kernel_rfl
noncomputable def Sp.p_17 (a0 : (((List Int) × ((List Int) × (Int × Unit))) × ((List Int) × Unit))) : Bool := (F_17 a0).isSome
noncomputable def Sp.v_17 (a0 : (((List Int) × ((List Int) × (Int × Unit))) × ((List Int) × Unit))) : Int × Int × Unit := (F_17 a0).getD (dfH [(.int .i64), (.int .i64)])
noncomputable def s_17 : Summ := shN [Zy17_0] [(.int .i64), (.int .i64)] (fun x => p_17 x.1) (fun x => v_17 x.1)
theorem pv_17 (a0 : (((List Int) × ((List Int) × (Int × Unit))) × ((List Int) × Unit))) {y : Int × Int × Unit} (h : F_17 a0 = some y) : p_17 a0 = true ∧ v_17 a0 = y := ⟨by rw [p_17, h]; rfl, by rw [v_17, h]; rfl⟩
theorem run_17 (x : HDen [Zy17_0]) (y : HDen [(.int .i64), (.int .i64)]) (h : F_17 x.1 = some y) : evFn sm_17 fns FU 1 17 (ofH [Zy17_0] x) [] (pureK [(.int .i64), (.int .i64)]) = some y :=
 evFnL_sound (fn := ir17) (t := (ir17_t O_17_17_0)) (o := noO) rfl noO_ok (ir17_tok (fun T k r => OK_17_17_0 T k r)) ((fn_17 _).trans h)
end
noncomputable section
noncomputable def sm_107 : Nat → Option Summ := fun f => none
noncomputable def F_107 (a0 a1 : Int) : Option (Int × Int × Unit) :=
 some (wrap u32 (Int.fdiv (wrap u64 (wrap u64 a0 * wrap u64 a1)) 4294967296), wrap u32 (wrap u64 (wrap u64 a0 * wrap u64 a1)), PUnit.unit)
theorem fn_107 (a0 a1 : Int) : evFnL sm_107 FU (ovr noO (evFn sm_107 fns FU 0)) .nil ir107 (ofH [(.int .u32), (.int .u32)] (a0, a1, ())) [] (pureK [(.int .u32), (.int .u32)]) = F_107 a0 a1 := by kernel_rfl
noncomputable def Sp.p_107 (a0 a1 : Int) : Bool := (F_107 a0 a1).isSome
noncomputable def Sp.v_107 (a0 a1 : Int) : Int × Int × Unit := (F_107 a0 a1).getD (dfH [(.int .u32), (.int .u32)])
noncomputable def s_107 : Summ := shN [(.int .u32), (.int .u32)] [(.int .u32), (.int .u32)] (fun x => p_107 x.1 x.2.1) (fun x => v_107 x.1 x.2.1)
theorem run_107 (x y : HDen [(.int .u32), (.int .u32)]) (h : F_107 x.1 x.2.1 = some y) : evFn sm_107 fns FU 1 107 (ofH [(.int .u32), (.int .u32)] x) [] (pureK [(.int .u32), (.int .u32)]) = some y :=
 evFnL_sound (fn := ir107) (t := .nil) (o := noO) rfl noO_ok trivial ((fn_107 _ _).trans h)
end
noncomputable section
noncomputable def sm_108 : Nat → Option Summ := fun f => none
noncomputable def F_108 (a0 a1 : Int) : Option (Int × Int × Unit) :=
 some (wrap u64 (wrap u64 (wrap u64 (Int.fdiv a0 4294967296 * Int.fdiv a1 4294967296) + Int.fdiv (wrap u64 (wrap u64 (Int.fdiv a0 4294967296 * Sp.andI u64 a1 4294967295) + Int.fdiv (wrap u64 (Sp.andI u64 a0 4294967295 * Sp.andI u64 a1 4294967295)) 4294967296)) 4294967296) + Int.fdiv (wrap u64 (Sp.andI u64 (wrap u64 (wrap u64 (Int.fdiv a0 4294967296 * Sp.andI u64 a1 4294967295) + Int.fdiv (wrap u64 (Sp.andI u64 a0 4294967295 * Sp.andI u64 a1 4294967295)) 4294967296)) 4294967295 + wrap u64 (Sp.andI u64 a0 4294967295 * Int.fdiv a1 4294967296))) 4294967296), wrap u64 (a0 * a1), PUnit.unit)
theorem fn_108 (a0 a1 : Int) : evFnL sm_108 FU (ovr noO (evFn sm_108 fns FU 0)) .nil ir108 (ofH [(.int .u64), (.int .u64)] (a0, a1, ())) [] (pureK [(.int .u64), (.int .u64)]) = F_108 a0 a1 := by kernel_rfl
noncomputable def Sp.p_108 (a0 a1 : Int) : Bool := (F_108 a0 a1).isSome
noncomputable def Sp.v_108 (a0 a1 : Int) : Int × Int × Unit := (F_108 a0 a1).getD (dfH [(.int .u64), (.int .u64)])
noncomputable def s_108 : Summ := shN [(.int .u64), (.int .u64)] [(.int .u64), (.int .u64)] (fun x => p_108 x.1 x.2.1) (fun x => v_108 x.1 x.2.1)
theorem run_108 (x y : HDen [(.int .u64), (.int .u64)]) (h : F_108 x.1 x.2.1 = some y) : evFn sm_108 fns FU 1 108 (ofH [(.int .u64), (.int .u64)] x) [] (pureK [(.int .u64), (.int .u64)]) = some y :=
 evFnL_sound (fn := ir108) (t := .nil) (o := noO) rfl noO_ok trivial ((fn_108 _ _).trans h)
end
noncomputable section
noncomputable def sm_102 : Nat → Option Summ := fun f => bif Nat.beq f 107 then some s_107 else bif Nat.beq f 108 then some s_108 else none
noncomputable def F_102 (a0 a1 : Int) : Option (Int × Int × Unit) :=
 gd (p_108 a0 a1) (some ((v_108 a0 a1).1, (v_108 a0 a1).2.1, PUnit.unit))
theorem fn_102 (a0 a1 : Int) : evFnL sm_102 FU (ovr noO (evFn sm_102 fns FU 0)) .nil ir102 (ofH [(.int .u64), (.int .u64)] (a0, a1, ())) [] (pureK [(.int .u64), (.int .u64)]) = F_102 a0 a1 := by kernel_rfl
noncomputable def Sp.p_102 (a0 a1 : Int) : Bool := (F_102 a0 a1).isSome
noncomputable def Sp.v_102 (a0 a1 : Int) : Int × Int × Unit := (F_102 a0 a1).getD (dfH [(.int .u64), (.int .u64)])
noncomputable def s_102 : Summ := shN [(.int .u64), (.int .u64)] [(.int .u64), (.int .u64)] (fun x => p_102 x.1 x.2.1) (fun x => v_102 x.1 x.2.1)
theorem run_102 (x y : HDen [(.int .u64), (.int .u64)]) (h : F_102 x.1 x.2.1 = some y) : evFn sm_102 fns FU 1 102 (ofH [(.int .u64), (.int .u64)] x) [] (pureK [(.int .u64), (.int .u64)]) = some y :=
 evFnL_sound (fn := ir102) (t := .nil) (o := noO) rfl noO_ok trivial ((fn_102 _ _).trans h)
end
end Go.Ev
