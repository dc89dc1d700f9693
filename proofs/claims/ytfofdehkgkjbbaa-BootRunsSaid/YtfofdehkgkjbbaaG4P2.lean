/- Helpers: functions of the program as Lean functions, and what they compute. No condition. -/
import Derived.Test.YtfofdehkgkjbbaaE4P2
import Derived.Test.YtfofdehkgkjbbaaG4P0
import Derived.Test.YtfofdehkgkjbbaaG4P1
set_option maxRecDepth 10000
set_option linter.unusedVariables false
set_option linter.unusedSimpArgs false
namespace Go.Ev
open Go
set_option maxRecDepth 100000
set_option maxHeartbeats 4000000
set_option linter.unusedVariables false
noncomputable section
abbrev Zy58_0 : Ty := (Ty.arr (32 : Nat) (Ty.int IntKind.u8))

noncomputable def sm_58 : Nat → Option Summ := fun f => none
noncomputable def T_58_1 (p0 : List Int) (p1 : Int) (p2 : Int) (p3 : List Int) (p4 : List Int) : St := St.mk ([CV.pure (Ty.slice (Ty.int IntKind.u32)) p0, jk, CV.ptr (0 : Nat) [], CV.ptr (1 : Nat) [], CV.int IntKind.i64 p1, CV.int IntKind.i64 p2] ++ (jl 23)) [Blk.mem (CV.pure Zy58_0 p3), Blk.mem (CV.pure Zy58_0 p4)] (0 : Nat)
noncomputable def X_58_1_0 (p0 : List Int) (p1 : Int) (p3 : List Int) (p4 : List Int) : St := St.mk ([CV.pure (Ty.slice (Ty.int IntKind.u32)) p0, jk, CV.ptr (0 : Nat) [], CV.ptr (1 : Nat) [], CV.int IntKind.i64 p1] ++ (jl 24)) [Blk.mem (CV.pure Zy58_0 p3), Blk.mem (CV.pure Zy58_0 p4)] (0 : Nat)
inductive Sp.E_58_1 where
  | e0 (p0 : List Int) (p1 : Int) (p3 : List Int) (p4 : List Int)
noncomputable def Sp.B_58_1 {R : Type} (r : Option Sp.E_58_1) (k0 : (List Int) → (Int) → (List Int) → (List Int) → Option R) : Option R := match r with
  | none => none
  | some (.e0 p0 p1 p3 p4) => k0 p0 p1 p3 p4
noncomputable def Sp.L_58_1 : Nat → (List Int) → (Int) → (Int) → (List Int) → (List Int) → Option Sp.E_58_1
  | 0, _, _, _, _, _ => none
  | m + 1, p0, p1, p2, p3, p4 => bif decide (p2 < (4 : Int)) then gd (inB p1 (List.length p0)) (gd (decide ((0 : Int) ≤ IntKind.wrap IntKind.i64 ((24 : Int) - IntKind.wrap IntKind.i64 ((8 : Int) * p2)))) (gd (inB (IntKind.wrap IntKind.i64 (IntKind.wrap IntKind.i64 ((4 : Int) * p1) + p2)) (32 : Nat)) (gd (decide (Int.toNat (IntKind.wrap IntKind.i64 (IntKind.wrap IntKind.i64 ((4 : Int) * p1) + p2)) < (32 : Nat)) && true) (Sp.L_58_1 m p0 p1 (IntKind.wrap IntKind.i64 (p2 + (1 : Int))) p3 (List.set p4 (Int.toNat (IntKind.wrap IntKind.i64 (IntKind.wrap IntKind.i64 ((4 : Int) * p1) + p2))) (IntKind.wrap IntKind.u8 (Int.fdiv (List.getD p0 (Int.toNat p1) (0 : Int)) ((2 : Int) ^ Nat.min (Int.toNat (IntKind.wrap IntKind.i64 ((24 : Int) - IntKind.wrap IntKind.i64 ((8 : Int) * p2)))) (32 : Nat))))))))) else some (Sp.E_58_1.e0 p0 p1 p3 p4)
noncomputable def G_58_1 {R : Type} (p0 : List Int) (p1 : Int) (p2 : Int) (p3 : List Int) (p4 : List Int) (k : Ex → St → Option R) : Option R := Sp.B_58_1 (Sp.L_58_1 FU p0 p1 p2 p3 p4) (fun p0 p1 p3 p4 => k (Ex.exit (2 : Nat)) (X_58_1_0 p0 p1 p3 p4))
noncomputable def o_58_1 {R : Type} (G : (List Int) → (Int) → (Int) → (List Int) → (List Int) → (Ex → St → Option R) → Option R) : St → (Ex → St → Option R) → Option R := fun T k => match T.sl.getD 0 .junk, T.sl.getD 2 .junk, T.sl.getD 3 .junk, T.sl.getD 4 .junk, T.sl.getD 5 .junk, T.hp with
  | CV.pure (Ty.slice (Ty.int IntKind.u32)) p0, CV.ptr (0 : Nat) [], CV.ptr (1 : Nat) [], CV.int IntKind.i64 p1, CV.int IntKind.i64 p2, ((Blk.mem (CV.pure (Ty.arr (32 : Nat) (Ty.int IntKind.u8)) p3)) :: (Blk.mem (CV.pure (Ty.arr (32 : Nat) (Ty.int IntKind.u8)) p4)) :: []) => gd (shapeOK T 29 [0, 2, 3, 4, 5] (0 : Nat)) (G p0 p1 p2 p3 p4 k)
  | _, _, _, _, _, _ => none
theorem o_58_1_inv {R : Type} {G : (List Int) → (Int) → (Int) → (List Int) → (List Int) → (Ex → St → Option R) → Option R} {T : St} {k : Ex → St → Option R} {r : R} (h : o_58_1 G T k = some r) : ∃ p0 p1 p2 p3 p4, T = T_58_1 p0 p1 p2 p3 p4 ∧ G p0 p1 p2 p3 p4 k = some r := by
  unfold o_58_1 at h
  split at h
  · obtain ⟨hs, h'⟩ := gd_some h
    refine ⟨_, _, _, _, _, (st_of (asg := [(0, _), (2, _), (3, _), (4, _), (5, _)]) hs ⟨by assumption, by assumption, by assumption, by assumption, by assumption, trivial⟩ (by assumption)).trans ?_, h'⟩
    kernel_rfl
  · cases h
noncomputable def T_58_0 (p0 : List Int) (p1 : Int) (p2 : List Int) (p3 : List Int) : St := St.mk ([CV.pure (Ty.slice (Ty.int IntKind.u32)) p0, jk, CV.ptr (0 : Nat) [], CV.ptr (1 : Nat) [], CV.int IntKind.i64 p1] ++ (jl 24)) [Blk.mem (CV.pure Zy58_0 p2), Blk.mem (CV.pure Zy58_0 p3)] (0 : Nat)
noncomputable def X_58_0_0 (p2 : List Int) (p3 : List Int) : St := St.mk ([jk, jk, CV.ptr (0 : Nat) [], CV.ptr (1 : Nat) []] ++ (jl 25)) [Blk.mem (CV.pure Zy58_0 p2), Blk.mem (CV.pure Zy58_0 p3)] (0 : Nat)
inductive Sp.E_58_0 where
  | e0 (p2 : List Int) (p3 : List Int)
noncomputable def Sp.B_58_0 {R : Type} (r : Option Sp.E_58_0) (k0 : (List Int) → (List Int) → Option R) : Option R := match r with
  | none => none
  | some (.e0 p2 p3) => k0 p2 p3
noncomputable def Sp.L_58_0 : Nat → (List Int) → (Int) → (List Int) → (List Int) → Option Sp.E_58_0
  | 0, _, _, _, _ => none
  | m + 1, p0, p1, p2, p3 => bif decide (p1 < (8 : Int)) then Sp.B_58_1 (Sp.L_58_1 (4611686018427387904 : Nat) p0 p1 (0 : Int) p2 p3) fun y4 y5 y6 y7 => Sp.L_58_0 m y4 (IntKind.wrap IntKind.i64 (y5 + (1 : Int))) y6 y7 else some (Sp.E_58_0.e0 p2 p3)
noncomputable def G_58_0 {R : Type} (p0 : List Int) (p1 : Int) (p2 : List Int) (p3 : List Int) (k : Ex → St → Option R) : Option R := Sp.B_58_0 (Sp.L_58_0 FU p0 p1 p2 p3) (fun p2 p3 => k (Ex.exit (0 : Nat)) (X_58_0_0 p2 p3))
noncomputable def o_58_0 {R : Type} (G : (List Int) → (Int) → (List Int) → (List Int) → (Ex → St → Option R) → Option R) : St → (Ex → St → Option R) → Option R := fun T k => match T.sl.getD 0 .junk, T.sl.getD 2 .junk, T.sl.getD 3 .junk, T.sl.getD 4 .junk, T.hp with
  | CV.pure (Ty.slice (Ty.int IntKind.u32)) p0, CV.ptr (0 : Nat) [], CV.ptr (1 : Nat) [], CV.int IntKind.i64 p1, ((Blk.mem (CV.pure (Ty.arr (32 : Nat) (Ty.int IntKind.u8)) p2)) :: (Blk.mem (CV.pure (Ty.arr (32 : Nat) (Ty.int IntKind.u8)) p3)) :: []) => gd (shapeOK T 29 [0, 2, 3, 4] (0 : Nat)) (G p0 p1 p2 p3 k)
  | _, _, _, _, _ => none
theorem o_58_0_inv {R : Type} {G : (List Int) → (Int) → (List Int) → (List Int) → (Ex → St → Option R) → Option R} {T : St} {k : Ex → St → Option R} {r : R} (h : o_58_0 G T k = some r) : ∃ p0 p1 p2 p3, T = T_58_0 p0 p1 p2 p3 ∧ G p0 p1 p2 p3 k = some r := by
  unfold o_58_0 at h
  split at h
  · obtain ⟨hs, h'⟩ := gd_some h
    refine ⟨_, _, _, _, (st_of (asg := [(0, _), (2, _), (3, _), (4, _)]) hs ⟨by assumption, by assumption, by assumption, by assumption, trivial⟩ (by assumption)).trans ?_, h'⟩
    kernel_rfl
  · cases h
noncomputable def O_58_58_1 {R : Type} : St → (Ex → St → Option R) → Option R := fun T k => o_58_1 G_58_1 T k
noncomputable def O_58_58_0 {R : Type} : St → (Ex → St → Option R) → Option R := fun T k => o_58_0 G_58_0 T k
theorem body_58_1 {R : Type} (K0 : St → Option R) (K1 : Ex → St → Option R) (p0 : List Int) (p1 : Int) (p2 : Int) (p3 : List Int) (p4 : List Int) : evLB (evCodeL sm_58 FU (ovr noO (evFn sm_58 fns FU 0)) .nil ir58_b1) (St.norm ir58_v1) (T_58_1 p0 p1 p2 p3 p4) K0 K1 =
  bif decide (p2 < (4 : Int)) then gd (inB p1 (List.length p0)) (gd (decide ((0 : Int) ≤ IntKind.wrap IntKind.i64 ((24 : Int) - IntKind.wrap IntKind.i64 ((8 : Int) * p2)))) (gd (inB (IntKind.wrap IntKind.i64 (IntKind.wrap IntKind.i64 ((4 : Int) * p1) + p2)) (32 : Nat)) (gd (decide (Int.toNat (IntKind.wrap IntKind.i64 (IntKind.wrap IntKind.i64 ((4 : Int) * p1) + p2)) < (32 : Nat)) && true) (K0 (T_58_1 p0 p1 (IntKind.wrap IntKind.i64 (p2 + (1 : Int))) p3 (List.set p4 (Int.toNat (IntKind.wrap IntKind.i64 (IntKind.wrap IntKind.i64 ((4 : Int) * p1) + p2))) (IntKind.wrap IntKind.u8 (Int.fdiv (List.getD p0 (Int.toNat p1) (0 : Int)) ((2 : Int) ^ Nat.min (Int.toNat (IntKind.wrap IntKind.i64 ((24 : Int) - IntKind.wrap IntKind.i64 ((8 : Int) * p2)))) (32 : Nat)))))))))) else K1 (Ex.exit (2 : Nat)) (X_58_1_0 p0 p1 p3 p4) := by kernel_rfl
theorem Bgd_58_1 {R : Type} {c : Bool} {x : Option R} {y : Option Sp.E_58_1} {k0 : (List Int) → (Int) → (List Int) → (List Int) → Option R} (h : x = Sp.B_58_1 y k0) : gd c x = Sp.B_58_1 (gd c y) k0 := by cases c; rfl; exact h
theorem Bcond_58_1 {R : Type} {c : Bool} {x x' : Option R} {y y' : Option Sp.E_58_1} {k0 : (List Int) → (Int) → (List Int) → (List Int) → Option R} (h : x = Sp.B_58_1 y k0) (h' : x' = Sp.B_58_1 y' k0) : (bif c then x else x') = Sp.B_58_1 (bif c then y else y') k0 := by cases c; exact h'; exact h
theorem loop_58_1 {R : Type} (k : Ex → St → Option R) : ∀ (m : Nat) (p0 : List Int) (p1 : Int) (p2 : Int) (p3 : List Int) (p4 : List Int), evLoopN (evCodeL sm_58 FU (ovr noO (evFn sm_58 fns FU 0)) .nil ir58_b1) (St.norm ir58_v1) m (T_58_1 p0 p1 p2 p3 p4) k = Sp.B_58_1 (Sp.L_58_1 m p0 p1 p2 p3 p4) (fun p0 p1 p3 p4 => k (Ex.exit (2 : Nat)) (X_58_1_0 p0 p1 p3 p4))
  | 0, _, _, _, _, _ => rfl
  | m + 1, p0, p1, p2, p3, p4 => by
    rw [evLoopN_succ, body_58_1, Sp.L_58_1]
    repeat' first | apply Bgd_58_1 | apply Bcond_58_1 | exact loop_58_1 k m _ _ _ _ _ | rfl
theorem ok_58_1 {R : Type} (T : St) (k : Ex → St → Option R) (r : R) (h0 : o_58_1 G_58_1 T k = some r) : evLoopN (evCode sm_58 FU (evFn sm_58 fns FU 0) ir58_b1) (St.norm ir58_v1) FU T k = some r := by
  obtain ⟨p0, p1, p2, p3, p4, rfl, h⟩ := o_58_1_inv h0
  refine evLoopN_L (t := .nil) noO_ok trivial _ _ _ _ ?_
  rw [loop_58_1]
  exact h
theorem OK_58_58_1 {R : Type} (T : St) (k : Ex → St → Option R) (r : R) (h : O_58_58_1 T k = some r) : evLoopN (evCode sm_58 FU (evFn sm_58 fns FU 0) ir58_b1) (St.norm ir58_v1) FU T k = some r := ok_58_1 T k r h
theorem body_58_0 {R : Type} (K0 : St → Option R) (K1 : Ex → St → Option R) (p0 : List Int) (p1 : Int) (p2 : List Int) (p3 : List Int) : evLB (evCodeL sm_58 FU (ovr noO (evFn sm_58 fns FU 0)) (ir58_bt0 O_58_58_1) ir58_b0) (St.norm ir58_v0) (T_58_0 p0 p1 p2 p3) K0 K1 =
  bif decide (p1 < (8 : Int)) then Sp.B_58_1 (Sp.L_58_1 (4611686018427387904 : Nat) p0 p1 (0 : Int) p2 p3) fun y4 y5 y6 y7 => K0 (T_58_0 y4 (IntKind.wrap IntKind.i64 (y5 + (1 : Int))) y6 y7) else K1 (Ex.exit (0 : Nat)) (X_58_0_0 p2 p3) := by kernel_rfl
theorem Bgd_58_0 {R : Type} {c : Bool} {x : Option R} {y : Option Sp.E_58_0} {k0 : (List Int) → (List Int) → Option R} (h : x = Sp.B_58_0 y k0) : gd c x = Sp.B_58_0 (gd c y) k0 := by cases c; rfl; exact h
theorem Bcond_58_0 {R : Type} {c : Bool} {x x' : Option R} {y y' : Option Sp.E_58_0} {k0 : (List Int) → (List Int) → Option R} (h : x = Sp.B_58_0 y k0) (h' : x' = Sp.B_58_0 y' k0) : (bif c then x else x') = Sp.B_58_0 (bif c then y else y') k0 := by cases c; exact h'; exact h
theorem Bin_58_0_58_1 {R : Type} {r : Option Sp.E_58_1} {k0 : (List Int) → (List Int) → Option R} {f0 : (List Int) → (Int) → (List Int) → (List Int) → Option R} {g0 : (List Int) → (Int) → (List Int) → (List Int) → Option Sp.E_58_0} (h0 : ∀ z0 z1 z2 z3, f0 z0 z1 z2 z3 = Sp.B_58_0 (g0 z0 z1 z2 z3) k0) : Sp.B_58_1 r f0 = Sp.B_58_0 (Sp.B_58_1 r g0) k0 := by
  cases r with
  | none => rfl
  | some e => cases e with
    | e0 z0 z1 z2 z3 => exact h0 _ _ _ _
theorem loop_58_0 {R : Type} (k : Ex → St → Option R) : ∀ (m : Nat) (p0 : List Int) (p1 : Int) (p2 : List Int) (p3 : List Int), evLoopN (evCodeL sm_58 FU (ovr noO (evFn sm_58 fns FU 0)) (ir58_bt0 O_58_58_1) ir58_b0) (St.norm ir58_v0) m (T_58_0 p0 p1 p2 p3) k = Sp.B_58_0 (Sp.L_58_0 m p0 p1 p2 p3) (fun p2 p3 => k (Ex.exit (0 : Nat)) (X_58_0_0 p2 p3))
  | 0, _, _, _, _ => rfl
  | m + 1, p0, p1, p2, p3 => by
    rw [evLoopN_succ, body_58_0, Sp.L_58_0]
    repeat' first | apply Bgd_58_0 | apply Bcond_58_0 | (apply Bin_58_0_58_1 <;> intros) | exact loop_58_0 k m _ _ _ _ | rfl
theorem ok_58_0 {R : Type} (T : St) (k : Ex → St → Option R) (r : R) (h0 : o_58_0 G_58_0 T k = some r) : evLoopN (evCode sm_58 FU (evFn sm_58 fns FU 0) ir58_b0) (St.norm ir58_v0) FU T k = some r := by
  obtain ⟨p0, p1, p2, p3, rfl, h⟩ := o_58_0_inv h0
  refine evLoopN_L (t := (ir58_bt0 O_58_58_1)) noO_ok (ir58_bt0ok (fun T k r => OK_58_58_1 T k r)) _ _ _ _ ?_
  rw [loop_58_0]
  exact h
theorem OK_58_58_0 {R : Type} (T : St) (k : Ex → St → Option R) (r : R) (h : O_58_58_0 T k = some r) : evLoopN (evCode sm_58 FU (evFn sm_58 fns FU 0) ir58_b0) (St.norm ir58_v0) FU T k = some r := ok_58_0 T k r h
noncomputable def F_58 (a0 : (List Int)) : Option ((List Int) × Unit) :=
  Sp.B_58_0 (Sp.L_58_0 (4611686018427387904 : Nat) a0 (0 : Int) (List.replicate (32 : Nat) (0 : Int)) (List.replicate (32 : Nat) (0 : Int))) fun y2 y3 => some (y3, PUnit.unit)
theorem fn_58 (a0 : (List Int)) : evFnL sm_58 FU (ovr noO (evFn sm_58 fns FU 0)) (ir58_t O_58_58_0) ir58 (ofH [(.slice (.int .u32))] (a0, ())) [] (pureK [(.arr 32 (.int .u8))]) = F_58 a0 := by kernel_rfl
noncomputable def Sp.p_58 (a0 : (List Int)) : Bool := (F_58 a0).isSome
noncomputable def Sp.v_58 (a0 : (List Int)) : (List Int) × Unit := (F_58 a0).getD (dfH [(.arr 32 (.int .u8))])
noncomputable def s_58 : Summ := shN [(.slice (.int .u32))] [(.arr 32 (.int .u8))] (fun x => Sp.p_58 x.1) (fun x => Sp.v_58 x.1)
theorem pv_58 (a0 : (List Int)) {y : (List Int) × Unit} (h : F_58 a0 = some y) : Sp.p_58 a0 = true ∧ Sp.v_58 a0 = y := ⟨by rw [Sp.p_58, h]; rfl, by rw [Sp.v_58, h]; rfl⟩
theorem run_58 (x : HDen [(.slice (.int .u32))]) (y : HDen [(.arr 32 (.int .u8))]) (h : F_58 x.1 = some y) : evFn sm_58 fns FU 1 58 (ofH [(.slice (.int .u32))] x) [] (pureK [(.arr 32 (.int .u8))]) = some y :=
  evFnL_sound (fn := ir58) (t := (ir58_t O_58_58_0)) (o := noO) rfl noO_ok (ir58_tok (fun T k r => OK_58_58_0 T k r)) ((fn_58 _).trans h)
end
end Go.Ev
namespace Go.Ev
open Go
set_option maxRecDepth 100000
set_option maxHeartbeats 4000000
set_option linter.unusedVariables false
noncomputable section
abbrev Zt59_0 : Type := List (List Int)
abbrev Zy59_1 : Ty := (Ty.arr (32 : Nat) (Ty.int IntKind.u8))
abbrev Zy59_2 : Ty := (.pair (.int .i64) (.pair (.slice (.arr 32 (.int .u8))) (.pair (.slice (.arr 32 (.int .u8))) .unit)))

noncomputable def sm_59 : Nat → Option Summ := fun f => none
noncomputable def T_59_1 (p0 : List Int) (p1 : Int) (p2 : Int) (p3 : Int) (p4 : Zt59_0) (p5 : Zt59_0) (p6 : Int) (p7 : Zt59_0) (p8 : Zt59_0) (p9 : List Int) : St := St.mk ([CV.pure (Ty.slice (Ty.int IntKind.u32)) p0, jk, CV.ptr (0 : Nat) [], jk, CV.ptr (3 : Nat) [], CV.int IntKind.i64 p1, CV.ptr (6 : Nat) [], CV.int IntKind.i64 p2] ++ (jl 56)) [Blk.mem (CV.pair (CV.int IntKind.i64 p3) (CV.pair (CV.whole (1 : Nat)) (CV.pair (CV.whole (2 : Nat)) (CV.pure Ty.unit PUnit.unit)))), Blk.vec (27 : Nat) Zy59_1 p4, Blk.vec (27 : Nat) Zy59_1 p5, Blk.mem (CV.pair (CV.int IntKind.i64 p6) (CV.pair (CV.whole (4 : Nat)) (CV.pair (CV.whole (5 : Nat)) (CV.pure Ty.unit PUnit.unit)))), Blk.vec (27 : Nat) Zy59_1 p7, Blk.vec (27 : Nat) Zy59_1 p8, Blk.mem (CV.pure Zy59_1 p9)] (0 : Nat)
noncomputable def X_59_1_0 (p0 : List Int) (p1 : Int) (p3 : Int) (p4 : Zt59_0) (p5 : Zt59_0) (p6 : Int) (p7 : Zt59_0) (p8 : Zt59_0) (p9 : List Int) : St := St.mk ([CV.pure (Ty.slice (Ty.int IntKind.u32)) p0, jk, CV.ptr (0 : Nat) [], jk, CV.ptr (3 : Nat) [], CV.int IntKind.i64 p1, CV.ptr (6 : Nat) []] ++ (jl 57)) [Blk.mem (CV.pair (CV.int IntKind.i64 p3) (CV.pair (CV.whole (1 : Nat)) (CV.pair (CV.whole (2 : Nat)) (CV.pure Ty.unit PUnit.unit)))), Blk.vec (27 : Nat) Zy59_1 p4, Blk.vec (27 : Nat) Zy59_1 p5, Blk.mem (CV.pair (CV.int IntKind.i64 p6) (CV.pair (CV.whole (4 : Nat)) (CV.pair (CV.whole (5 : Nat)) (CV.pure Ty.unit PUnit.unit)))), Blk.vec (27 : Nat) Zy59_1 p7, Blk.vec (27 : Nat) Zy59_1 p8, Blk.mem (CV.pure Zy59_1 p9)] (0 : Nat)
inductive Sp.E_59_1 where
  | e0 (p0 : List Int) (p1 : Int) (p3 : Int) (p4 : Zt59_0) (p5 : Zt59_0) (p6 : Int) (p7 : Zt59_0) (p8 : Zt59_0) (p9 : List Int)
noncomputable def Sp.B_59_1 {R : Type} (r : Option Sp.E_59_1) (k0 : (List Int) → (Int) → (Int) → (Zt59_0) → (Zt59_0) → (Int) → (Zt59_0) → (Zt59_0) → (List Int) → Option R) : Option R := match r with
  | none => none
  | some (.e0 p0 p1 p3 p4 p5 p6 p7 p8 p9) => k0 p0 p1 p3 p4 p5 p6 p7 p8 p9
noncomputable def Sp.L_59_1 : Nat → (List Int) → (Int) → (Int) → (Int) → (List (List Int)) → (List (List Int)) → (Int) → (List (List Int)) → (List (List Int)) → (List Int) → Option Sp.E_59_1
  | 0, _, _, _, _, _, _, _, _, _, _ => none
  | m + 1, p0, p1, p2, p3, p4, p5, p6, p7, p8, p9 => bif decide (p2 < (32 : Int)) then gd (inB (IntKind.wrap IntKind.i64 (IntKind.wrap IntKind.i64 ((1 : Int) + IntKind.wrap IntKind.i64 ((8 : Int) * p1)) + IntKind.wrap IntKind.i64 (Int.tdiv p2 (4 : Int)))) (List.length p0)) (gd (decide ((0 : Int) ≤ IntKind.wrap IntKind.u64 (IntKind.wrap IntKind.i64 ((24 : Int) - IntKind.wrap IntKind.i64 (Int.tmod p2 (4 : Int) * (8 : Int)))))) (gd (inB p2 (32 : Nat)) (gd (decide (Int.toNat p2 < (32 : Nat)) && true) (Sp.L_59_1 m p0 p1 (IntKind.wrap IntKind.i64 (p2 + (1 : Int))) p3 p4 p5 p6 p7 p8 (List.set p9 (Int.toNat p2) (IntKind.wrap IntKind.u8 (Int.fdiv (List.getD p0 (Int.toNat (IntKind.wrap IntKind.i64 (IntKind.wrap IntKind.i64 ((1 : Int) + IntKind.wrap IntKind.i64 ((8 : Int) * p1)) + IntKind.wrap IntKind.i64 (Int.tdiv p2 (4 : Int))))) (0 : Int)) ((2 : Int) ^ Nat.min (Int.toNat (IntKind.wrap IntKind.u64 (IntKind.wrap IntKind.i64 ((24 : Int) - IntKind.wrap IntKind.i64 (Int.tmod p2 (4 : Int) * (8 : Int)))))) (32 : Nat))))))))) else some (Sp.E_59_1.e0 p0 p1 p3 p4 p5 p6 p7 p8 p9)
noncomputable def G_59_1 {R : Type} (p0 : List Int) (p1 : Int) (p2 : Int) (p3 : Int) (p4 : Zt59_0) (p5 : Zt59_0) (p6 : Int) (p7 : Zt59_0) (p8 : Zt59_0) (p9 : List Int) (k : Ex → St → Option R) : Option R := Sp.B_59_1 (Sp.L_59_1 FU p0 p1 p2 p3 p4 p5 p6 p7 p8 p9) (fun p0 p1 p3 p4 p5 p6 p7 p8 p9 => k (Ex.exit (2 : Nat)) (X_59_1_0 p0 p1 p3 p4 p5 p6 p7 p8 p9))
noncomputable def o_59_1 {R : Type} (G : (List Int) → (Int) → (Int) → (Int) → (Zt59_0) → (Zt59_0) → (Int) → (Zt59_0) → (Zt59_0) → (List Int) → (Ex → St → Option R) → Option R) : St → (Ex → St → Option R) → Option R := fun T k => match T.sl.getD 0 .junk, T.sl.getD 2 .junk, T.sl.getD 4 .junk, T.sl.getD 5 .junk, T.sl.getD 6 .junk, T.sl.getD 7 .junk, T.hp with
  | CV.pure (Ty.slice (Ty.int IntKind.u32)) p0, CV.ptr (0 : Nat) [], CV.ptr (3 : Nat) [], CV.int IntKind.i64 p1, CV.ptr (6 : Nat) [], CV.int IntKind.i64 p2, ((Blk.mem (CV.pair (CV.int IntKind.i64 p3) (CV.pair (CV.whole (1 : Nat)) (CV.pair (CV.whole (2 : Nat)) (CV.pure Ty.unit PUnit.unit))))) :: (Blk.vec (27 : Nat) (Ty.arr (32 : Nat) (Ty.int IntKind.u8)) p4) :: (Blk.vec (27 : Nat) (Ty.arr (32 : Nat) (Ty.int IntKind.u8)) p5) :: (Blk.mem (CV.pair (CV.int IntKind.i64 p6) (CV.pair (CV.whole (4 : Nat)) (CV.pair (CV.whole (5 : Nat)) (CV.pure Ty.unit PUnit.unit))))) :: (Blk.vec (27 : Nat) (Ty.arr (32 : Nat) (Ty.int IntKind.u8)) p7) :: (Blk.vec (27 : Nat) (Ty.arr (32 : Nat) (Ty.int IntKind.u8)) p8) :: (Blk.mem (CV.pure (Ty.arr (32 : Nat) (Ty.int IntKind.u8)) p9)) :: []) => gd (shapeOK T 64 [0, 2, 4, 5, 6, 7] (0 : Nat)) (G p0 p1 p2 p3 p4 p5 p6 p7 p8 p9 k)
  | _, _, _, _, _, _, _ => none
theorem o_59_1_inv {R : Type} {G : (List Int) → (Int) → (Int) → (Int) → (Zt59_0) → (Zt59_0) → (Int) → (Zt59_0) → (Zt59_0) → (List Int) → (Ex → St → Option R) → Option R} {T : St} {k : Ex → St → Option R} {r : R} (h : o_59_1 G T k = some r) : ∃ p0 p1 p2 p3 p4 p5 p6 p7 p8 p9, T = T_59_1 p0 p1 p2 p3 p4 p5 p6 p7 p8 p9 ∧ G p0 p1 p2 p3 p4 p5 p6 p7 p8 p9 k = some r := by
  unfold o_59_1 at h
  split at h
  · obtain ⟨hs, h'⟩ := gd_some h
    refine ⟨_, _, _, _, _, _, _, _, _, _, (st_of (asg := [(0, _), (2, _), (4, _), (5, _), (6, _), (7, _)]) hs ⟨by assumption, by assumption, by assumption, by assumption, by assumption, by assumption, trivial⟩ (by assumption)).trans ?_, h'⟩
    kernel_rfl
  · cases h
noncomputable def T_59_0 (p0 : List Int) (p1 : Int) (p2 : Int) (p3 : Zt59_0) (p4 : Zt59_0) (p5 : Int) (p6 : Zt59_0) (p7 : Zt59_0) : St := St.mk ([CV.pure (Ty.slice (Ty.int IntKind.u32)) p0, jk, CV.ptr (0 : Nat) [], jk, CV.ptr (3 : Nat) [], CV.int IntKind.i64 p1] ++ (jl 58)) [Blk.mem (CV.pair (CV.int IntKind.i64 p2) (CV.pair (CV.whole (1 : Nat)) (CV.pair (CV.whole (2 : Nat)) (CV.pure Ty.unit PUnit.unit)))), Blk.vec (27 : Nat) Zy59_1 p3, Blk.vec (27 : Nat) Zy59_1 p4, Blk.mem (CV.pair (CV.int IntKind.i64 p5) (CV.pair (CV.whole (4 : Nat)) (CV.pair (CV.whole (5 : Nat)) (CV.pure Ty.unit PUnit.unit)))), Blk.vec (27 : Nat) Zy59_1 p6, Blk.vec (27 : Nat) Zy59_1 p7] (0 : Nat)
noncomputable def X_59_0_0 (p2 : Int) (p3 : Zt59_0) (p4 : Zt59_0) (p5 : Int) (p6 : Zt59_0) (p7 : Zt59_0) : St := St.mk ([jk, jk, CV.ptr (0 : Nat) [], jk, CV.ptr (3 : Nat) []] ++ (jl 59)) [Blk.mem (CV.pair (CV.int IntKind.i64 p2) (CV.pair (CV.whole (1 : Nat)) (CV.pair (CV.whole (2 : Nat)) (CV.pure Ty.unit PUnit.unit)))), Blk.vec (27 : Nat) Zy59_1 p3, Blk.vec (27 : Nat) Zy59_1 p4, Blk.mem (CV.pair (CV.int IntKind.i64 p5) (CV.pair (CV.whole (4 : Nat)) (CV.pair (CV.whole (5 : Nat)) (CV.pure Ty.unit PUnit.unit)))), Blk.vec (27 : Nat) Zy59_1 p6, Blk.vec (27 : Nat) Zy59_1 p7] (0 : Nat)
inductive Sp.E_59_0 where
  | e0 (p2 : Int) (p3 : Zt59_0) (p4 : Zt59_0) (p5 : Int) (p6 : Zt59_0) (p7 : Zt59_0)
noncomputable def Sp.B_59_0 {R : Type} (r : Option Sp.E_59_0) (k0 : (Int) → (Zt59_0) → (Zt59_0) → (Int) → (Zt59_0) → (Zt59_0) → Option R) : Option R := match r with
  | none => none
  | some (.e0 p2 p3 p4 p5 p6 p7) => k0 p2 p3 p4 p5 p6 p7
noncomputable def Sp.L_59_0 : Nat → (List Int) → (Int) → (Int) → (List (List Int)) → (List (List Int)) → (Int) → (List (List Int)) → (List (List Int)) → Option Sp.E_59_0
  | 0, _, _, _, _, _, _, _, _ => none
  | m + 1, p0, p1, p2, p3, p4, p5, p6, p7 => bif decide (p1 < (69 : Int)) then Sp.B_59_1 (Sp.L_59_1 (4611686018427387904 : Nat) p0 p1 (0 : Int) p2 p3 p4 p5 p6 p7 (List.replicate (32 : Nat) (0 : Int))) fun y9 y10 y11 y12 y13 y14 y15 y16 y17 => bif decide (y10 < (67 : Int)) then gd (room (List.length y15 + (1 : Nat)) (32 : Nat)) (Sp.L_59_0 m y9 (IntKind.wrap IntKind.i64 (y10 + (1 : Int))) y11 y12 y13 y14 (y15 ++ [y17]) y16) else gd (room (List.length y16 + (1 : Nat)) (32 : Nat)) (Sp.L_59_0 m y9 (IntKind.wrap IntKind.i64 (y10 + (1 : Int))) y11 y12 y13 y14 y15 (y16 ++ [y17])) else some (Sp.E_59_0.e0 p2 p3 p4 p5 p6 p7)
noncomputable def G_59_0 {R : Type} (p0 : List Int) (p1 : Int) (p2 : Int) (p3 : Zt59_0) (p4 : Zt59_0) (p5 : Int) (p6 : Zt59_0) (p7 : Zt59_0) (k : Ex → St → Option R) : Option R := Sp.B_59_0 (Sp.L_59_0 FU p0 p1 p2 p3 p4 p5 p6 p7) (fun p2 p3 p4 p5 p6 p7 => k (Ex.exit (0 : Nat)) (X_59_0_0 p2 p3 p4 p5 p6 p7))
noncomputable def o_59_0 {R : Type} (G : (List Int) → (Int) → (Int) → (Zt59_0) → (Zt59_0) → (Int) → (Zt59_0) → (Zt59_0) → (Ex → St → Option R) → Option R) : St → (Ex → St → Option R) → Option R := fun T k => match T.sl.getD 0 .junk, T.sl.getD 2 .junk, T.sl.getD 4 .junk, T.sl.getD 5 .junk, T.hp with
  | CV.pure (Ty.slice (Ty.int IntKind.u32)) p0, CV.ptr (0 : Nat) [], CV.ptr (3 : Nat) [], CV.int IntKind.i64 p1, ((Blk.mem (CV.pair (CV.int IntKind.i64 p2) (CV.pair (CV.whole (1 : Nat)) (CV.pair (CV.whole (2 : Nat)) (CV.pure Ty.unit PUnit.unit))))) :: (Blk.vec (27 : Nat) (Ty.arr (32 : Nat) (Ty.int IntKind.u8)) p3) :: (Blk.vec (27 : Nat) (Ty.arr (32 : Nat) (Ty.int IntKind.u8)) p4) :: (Blk.mem (CV.pair (CV.int IntKind.i64 p5) (CV.pair (CV.whole (4 : Nat)) (CV.pair (CV.whole (5 : Nat)) (CV.pure Ty.unit PUnit.unit))))) :: (Blk.vec (27 : Nat) (Ty.arr (32 : Nat) (Ty.int IntKind.u8)) p6) :: (Blk.vec (27 : Nat) (Ty.arr (32 : Nat) (Ty.int IntKind.u8)) p7) :: []) => gd (shapeOK T 64 [0, 2, 4, 5] (0 : Nat)) (G p0 p1 p2 p3 p4 p5 p6 p7 k)
  | _, _, _, _, _ => none
theorem o_59_0_inv {R : Type} {G : (List Int) → (Int) → (Int) → (Zt59_0) → (Zt59_0) → (Int) → (Zt59_0) → (Zt59_0) → (Ex → St → Option R) → Option R} {T : St} {k : Ex → St → Option R} {r : R} (h : o_59_0 G T k = some r) : ∃ p0 p1 p2 p3 p4 p5 p6 p7, T = T_59_0 p0 p1 p2 p3 p4 p5 p6 p7 ∧ G p0 p1 p2 p3 p4 p5 p6 p7 k = some r := by
  unfold o_59_0 at h
  split at h
  · obtain ⟨hs, h'⟩ := gd_some h
    refine ⟨_, _, _, _, _, _, _, _, (st_of (asg := [(0, _), (2, _), (4, _), (5, _)]) hs ⟨by assumption, by assumption, by assumption, by assumption, trivial⟩ (by assumption)).trans ?_, h'⟩
    kernel_rfl
  · cases h
noncomputable def O_59_59_1 {R : Type} : St → (Ex → St → Option R) → Option R := fun T k => o_59_1 G_59_1 T k
noncomputable def O_59_59_0 {R : Type} : St → (Ex → St → Option R) → Option R := fun T k => o_59_0 G_59_0 T k
theorem body_59_1 {R : Type} (K0 : St → Option R) (K1 : Ex → St → Option R) (p0 : List Int) (p1 : Int) (p2 : Int) (p3 : Int) (p4 : Zt59_0) (p5 : Zt59_0) (p6 : Int) (p7 : Zt59_0) (p8 : Zt59_0) (p9 : List Int) : evLB (evCodeL sm_59 FU (ovr noO (evFn sm_59 fns FU 0)) .nil ir59_b1) (St.norm ir59_v1) (T_59_1 p0 p1 p2 p3 p4 p5 p6 p7 p8 p9) K0 K1 =
  bif decide (p2 < (32 : Int)) then gd (inB (IntKind.wrap IntKind.i64 (IntKind.wrap IntKind.i64 ((1 : Int) + IntKind.wrap IntKind.i64 ((8 : Int) * p1)) + IntKind.wrap IntKind.i64 (Int.tdiv p2 (4 : Int)))) (List.length p0)) (gd (decide ((0 : Int) ≤ IntKind.wrap IntKind.u64 (IntKind.wrap IntKind.i64 ((24 : Int) - IntKind.wrap IntKind.i64 (Int.tmod p2 (4 : Int) * (8 : Int)))))) (gd (inB p2 (32 : Nat)) (gd (decide (Int.toNat p2 < (32 : Nat)) && true) (K0 (T_59_1 p0 p1 (IntKind.wrap IntKind.i64 (p2 + (1 : Int))) p3 p4 p5 p6 p7 p8 (List.set p9 (Int.toNat p2) (IntKind.wrap IntKind.u8 (Int.fdiv (List.getD p0 (Int.toNat (IntKind.wrap IntKind.i64 (IntKind.wrap IntKind.i64 ((1 : Int) + IntKind.wrap IntKind.i64 ((8 : Int) * p1)) + IntKind.wrap IntKind.i64 (Int.tdiv p2 (4 : Int))))) (0 : Int)) ((2 : Int) ^ Nat.min (Int.toNat (IntKind.wrap IntKind.u64 (IntKind.wrap IntKind.i64 ((24 : Int) - IntKind.wrap IntKind.i64 (Int.tmod p2 (4 : Int) * (8 : Int)))))) (32 : Nat)))))))))) else K1 (Ex.exit (2 : Nat)) (X_59_1_0 p0 p1 p3 p4 p5 p6 p7 p8 p9) := by kernel_rfl
theorem Bgd_59_1 {R : Type} {c : Bool} {x : Option R} {y : Option Sp.E_59_1} {k0 : (List Int) → (Int) → (Int) → (Zt59_0) → (Zt59_0) → (Int) → (Zt59_0) → (Zt59_0) → (List Int) → Option R} (h : x = Sp.B_59_1 y k0) : gd c x = Sp.B_59_1 (gd c y) k0 := by cases c; rfl; exact h
theorem Bcond_59_1 {R : Type} {c : Bool} {x x' : Option R} {y y' : Option Sp.E_59_1} {k0 : (List Int) → (Int) → (Int) → (Zt59_0) → (Zt59_0) → (Int) → (Zt59_0) → (Zt59_0) → (List Int) → Option R} (h : x = Sp.B_59_1 y k0) (h' : x' = Sp.B_59_1 y' k0) : (bif c then x else x') = Sp.B_59_1 (bif c then y else y') k0 := by cases c; exact h'; exact h
theorem loop_59_1 {R : Type} (k : Ex → St → Option R) : ∀ (m : Nat) (p0 : List Int) (p1 : Int) (p2 : Int) (p3 : Int) (p4 : Zt59_0) (p5 : Zt59_0) (p6 : Int) (p7 : Zt59_0) (p8 : Zt59_0) (p9 : List Int), evLoopN (evCodeL sm_59 FU (ovr noO (evFn sm_59 fns FU 0)) .nil ir59_b1) (St.norm ir59_v1) m (T_59_1 p0 p1 p2 p3 p4 p5 p6 p7 p8 p9) k = Sp.B_59_1 (Sp.L_59_1 m p0 p1 p2 p3 p4 p5 p6 p7 p8 p9) (fun p0 p1 p3 p4 p5 p6 p7 p8 p9 => k (Ex.exit (2 : Nat)) (X_59_1_0 p0 p1 p3 p4 p5 p6 p7 p8 p9))
  | 0, _, _, _, _, _, _, _, _, _, _ => rfl
  | m + 1, p0, p1, p2, p3, p4, p5, p6, p7, p8, p9 => by
    rw [evLoopN_succ, body_59_1, Sp.L_59_1]
    repeat' first | apply Bgd_59_1 | apply Bcond_59_1 | exact loop_59_1 k m _ _ _ _ _ _ _ _ _ _ | rfl
theorem ok_59_1 {R : Type} (T : St) (k : Ex → St → Option R) (r : R) (h0 : o_59_1 G_59_1 T k = some r) : evLoopN (evCode sm_59 FU (evFn sm_59 fns FU 0) ir59_b1) (St.norm ir59_v1) FU T k = some r := by
  obtain ⟨p0, p1, p2, p3, p4, p5, p6, p7, p8, p9, rfl, h⟩ := o_59_1_inv h0
  refine evLoopN_L (t := .nil) noO_ok trivial _ _ _ _ ?_
  rw [loop_59_1]
  exact h
theorem OK_59_59_1 {R : Type} (T : St) (k : Ex → St → Option R) (r : R) (h : O_59_59_1 T k = some r) : evLoopN (evCode sm_59 FU (evFn sm_59 fns FU 0) ir59_b1) (St.norm ir59_v1) FU T k = some r := ok_59_1 T k r h
theorem body_59_0 {R : Type} (K0 : St → Option R) (K1 : Ex → St → Option R) (p0 : List Int) (p1 : Int) (p2 : Int) (p3 : Zt59_0) (p4 : Zt59_0) (p5 : Int) (p6 : Zt59_0) (p7 : Zt59_0) : evLB (evCodeL sm_59 FU (ovr noO (evFn sm_59 fns FU 0)) (ir59_bt0 O_59_59_1) ir59_b0) (St.norm ir59_v0) (T_59_0 p0 p1 p2 p3 p4 p5 p6 p7) K0 K1 =
  bif decide (p1 < (69 : Int)) then Sp.B_59_1 (Sp.L_59_1 (4611686018427387904 : Nat) p0 p1 (0 : Int) p2 p3 p4 p5 p6 p7 (List.replicate (32 : Nat) (0 : Int))) fun y9 y10 y11 y12 y13 y14 y15 y16 y17 => bif decide (y10 < (67 : Int)) then gd (room (List.length y15 + (1 : Nat)) (32 : Nat)) (K0 (T_59_0 y9 (IntKind.wrap IntKind.i64 (y10 + (1 : Int))) y11 y12 y13 y14 (y15 ++ [y17]) y16)) else gd (room (List.length y16 + (1 : Nat)) (32 : Nat)) (K0 (T_59_0 y9 (IntKind.wrap IntKind.i64 (y10 + (1 : Int))) y11 y12 y13 y14 y15 (y16 ++ [y17]))) else K1 (Ex.exit (0 : Nat)) (X_59_0_0 p2 p3 p4 p5 p6 p7) := by kernel_rfl
theorem Bgd_59_0 {R : Type} {c : Bool} {x : Option R} {y : Option Sp.E_59_0} {k0 : (Int) → (Zt59_0) → (Zt59_0) → (Int) → (Zt59_0) → (Zt59_0) → Option R} (h : x = Sp.B_59_0 y k0) : gd c x = Sp.B_59_0 (gd c y) k0 := by cases c; rfl; exact h
theorem Bcond_59_0 {R : Type} {c : Bool} {x x' : Option R} {y y' : Option Sp.E_59_0} {k0 : (Int) → (Zt59_0) → (Zt59_0) → (Int) → (Zt59_0) → (Zt59_0) → Option R} (h : x = Sp.B_59_0 y k0) (h' : x' = Sp.B_59_0 y' k0) : (bif c then x else x') = Sp.B_59_0 (bif c then y else y') k0 := by cases c; exact h'; exact h
theorem Bin_59_0_59_1 {R : Type} {r : Option Sp.E_59_1} {k0 : (Int) → (Zt59_0) → (Zt59_0) → (Int) → (Zt59_0) → (Zt59_0) → Option R} {f0 : (List Int) → (Int) → (Int) → (Zt59_0) → (Zt59_0) → (Int) → (Zt59_0) → (Zt59_0) → (List Int) → Option R} {g0 : (List Int) → (Int) → (Int) → (Zt59_0) → (Zt59_0) → (Int) → (Zt59_0) → (Zt59_0) → (List Int) → Option Sp.E_59_0} (h0 : ∀ z0 z1 z2 z3 z4 z5 z6 z7 z8, f0 z0 z1 z2 z3 z4 z5 z6 z7 z8 = Sp.B_59_0 (g0 z0 z1 z2 z3 z4 z5 z6 z7 z8) k0) : Sp.B_59_1 r f0 = Sp.B_59_0 (Sp.B_59_1 r g0) k0 := by
  cases r with
  | none => rfl
  | some e => cases e with
    | e0 z0 z1 z2 z3 z4 z5 z6 z7 z8 => exact h0 _ _ _ _ _ _ _ _ _
theorem loop_59_0 {R : Type} (k : Ex → St → Option R) : ∀ (m : Nat) (p0 : List Int) (p1 : Int) (p2 : Int) (p3 : Zt59_0) (p4 : Zt59_0) (p5 : Int) (p6 : Zt59_0) (p7 : Zt59_0), evLoopN (evCodeL sm_59 FU (ovr noO (evFn sm_59 fns FU 0)) (ir59_bt0 O_59_59_1) ir59_b0) (St.norm ir59_v0) m (T_59_0 p0 p1 p2 p3 p4 p5 p6 p7) k = Sp.B_59_0 (Sp.L_59_0 m p0 p1 p2 p3 p4 p5 p6 p7) (fun p2 p3 p4 p5 p6 p7 => k (Ex.exit (0 : Nat)) (X_59_0_0 p2 p3 p4 p5 p6 p7))
  | 0, _, _, _, _, _, _, _, _ => rfl
  | m + 1, p0, p1, p2, p3, p4, p5, p6, p7 => by
    rw [evLoopN_succ, body_59_0, Sp.L_59_0]
    repeat' first | apply Bgd_59_0 | apply Bcond_59_0 | (apply Bin_59_0_59_1 <;> intros) | exact loop_59_0 k m _ _ _ _ _ _ _ _ | rfl
theorem ok_59_0 {R : Type} (T : St) (k : Ex → St → Option R) (r : R) (h0 : o_59_0 G_59_0 T k = some r) : evLoopN (evCode sm_59 FU (evFn sm_59 fns FU 0) ir59_b0) (St.norm ir59_v0) FU T k = some r := by
  obtain ⟨p0, p1, p2, p3, p4, p5, p6, p7, rfl, h⟩ := o_59_0_inv h0
  refine evLoopN_L (t := (ir59_bt0 O_59_59_1)) noO_ok (ir59_bt0ok (fun T k r => OK_59_59_1 T k r)) _ _ _ _ ?_
  rw [loop_59_0]
  exact h
theorem OK_59_59_0 {R : Type} (T : St) (k : Ex → St → Option R) (r : R) (h : O_59_59_0 T k = some r) : evLoopN (evCode sm_59 FU (evFn sm_59 fns FU 0) ir59_b0) (St.norm ir59_v0) FU T k = some r := ok_59_0 T k r h
noncomputable def F_59 (a0 : (List Int)) : Option ((Int × ((List (List Int)) × ((List (List Int)) × Unit))) × Bool × Unit) :=
  bif (↑(List.length a0) : Int) != (553 : Int) then some (((0 : Int), [], [], PUnit.unit), false, PUnit.unit) else gd (inB (0 : Int) (List.length a0)) (bif decide (List.getD a0 (0 : Nat) (0 : Int) > (3 : Int)) then some (((0 : Int), [], [], PUnit.unit), false, PUnit.unit) else gd (inB (0 : Int) (List.length a0)) (Sp.B_59_0 (Sp.L_59_0 (4611686018427387904 : Nat) a0 (0 : Int) (0 : Int) [] [] (IntKind.wrap IntKind.i64 (List.getD a0 (0 : Nat) (0 : Int))) [] []) fun y6 y7 y8 y9 y10 y11 => some ((y9, y10, y11, PUnit.unit), true, PUnit.unit)))
theorem fn_59 (a0 : (List Int)) : evFnL sm_59 FU (ovr noO (evFn sm_59 fns FU 0)) (ir59_t O_59_59_0) ir59 (ofH [(.slice (.int .u32))] (a0, ())) [] (pureK [Zy59_2, .bool]) = F_59 a0 := by kernel_rfl
noncomputable def Sp.p_59 (a0 : (List Int)) : Bool := (F_59 a0).isSome
noncomputable def Sp.v_59 (a0 : (List Int)) : (Int × ((List (List Int)) × ((List (List Int)) × Unit))) × Bool × Unit := (F_59 a0).getD (dfH [Zy59_2, .bool])
noncomputable def s_59 : Summ := shS [(.slice (.int .u32))] [Zy59_2, .bool] (fun x => Sp.p_59 x.1) (fun x => Sp.v_59 x.1)
theorem pv_59 (a0 : (List Int)) {y : (Int × ((List (List Int)) × ((List (List Int)) × Unit))) × Bool × Unit} (h : F_59 a0 = some y) : Sp.p_59 a0 = true ∧ Sp.v_59 a0 = y := ⟨by rw [Sp.p_59, h]; rfl, by rw [Sp.v_59, h]; rfl⟩
theorem run_59 (x : HDen [(.slice (.int .u32))]) (y : HDen [Zy59_2, .bool]) (h : F_59 x.1 = some y) : evFn sm_59 fns FU 1 59 (ofH [(.slice (.int .u32))] x) [] (pureK [Zy59_2, .bool]) = some y :=
  evFnL_sound (fn := ir59) (t := (ir59_t O_59_59_0)) (o := noO) rfl noO_ok (ir59_tok (fun T k r => OK_59_59_0 T k r)) ((fn_59 _).trans h)
end
end Go.Ev
namespace Go.Ev
open Go
set_option maxRecDepth 100000
set_option maxHeartbeats 4000000
set_option linter.unusedVariables false
noncomputable section

noncomputable def sm_26 : Nat → Option Summ := fun f => bif Nat.beq f 25 then some s_25 else bif Nat.beq f 48 then some s_48 else bif Nat.beq f 57 then some s_57 else bif Nat.beq f 58 then some s_58 else bif Nat.beq f 59 then some s_59 else none


noncomputable def F_26 (a0 : (((List Int) × ((List Int) × (Int × Unit))) × ((List Int) × Unit))) (a1 : Int) : Option ((Int × (Int × ((List Int) × ((Int × ((List (List Int)) × ((List (List Int)) × Unit))) × Unit)))) × Bool × Unit) :=
  gd (Sp.p_25 a0) (bif !(Sp.v_25 a0).1 then some (((0 : Int), (0 : Int), List.replicate (32 : Nat) (0 : Int), ((0 : Int), [], [], PUnit.unit), PUnit.unit), false, PUnit.unit) else gd (Sp.p_57 a1) (bif !(Sp.v_57 a1).1 then some (((0 : Int), (0 : Int), List.replicate (32 : Nat) (0 : Int), ((0 : Int), [], [], PUnit.unit), PUnit.unit), false, PUnit.unit) else gd (Sp.p_48 a0 a1) (gd (inB (1 : Int) (List.length ((Sp.v_48 a0 a1).1))) (gd (inB (2 : Int) (List.length ((Sp.v_48 a0 a1).1))) (gd (sl3 (3 : Int) (11 : Int) (↑(List.length ((Sp.v_48 a0 a1).1)) : Int)) (gd (Sp.p_58 (List.take (8 : Nat) (List.drop (3 : Nat) ((Sp.v_48 a0 a1).1)))) (bif decide (IntKind.wrap IntKind.i64 (List.getD ((Sp.v_48 a0 a1).1) (1 : Nat) (0 : Int)) < (1 : Int)) then some (((0 : Int), (0 : Int), List.replicate (32 : Nat) (0 : Int), ((0 : Int), [], [], PUnit.unit), PUnit.unit), false, PUnit.unit) else bif decide (IntKind.wrap IntKind.i64 (List.getD ((Sp.v_48 a0 a1).1) (1 : Nat) (0 : Int)) ≥ (2147483648 : Int)) then some (((0 : Int), (0 : Int), List.replicate (32 : Nat) (0 : Int), ((0 : Int), [], [], PUnit.unit), PUnit.unit), false, PUnit.unit) else bif decide (IntKind.wrap IntKind.i64 (List.getD ((Sp.v_48 a0 a1).1) (2 : Nat) (0 : Int)) < (1 : Int)) then some (((0 : Int), (0 : Int), List.replicate (32 : Nat) (0 : Int), ((0 : Int), [], [], PUnit.unit), PUnit.unit), false, PUnit.unit) else bif decide (IntKind.wrap IntKind.i64 (List.getD ((Sp.v_48 a0 a1).1) (2 : Nat) (0 : Int)) > IntKind.wrap IntKind.i64 ((↑(List.length ((Sp.v_48 a0 a1).1)) : Int) - (564 : Int))) then some (((0 : Int), (0 : Int), List.replicate (32 : Nat) (0 : Int), ((0 : Int), [], [], PUnit.unit), PUnit.unit), false, PUnit.unit) else gd (sl3 (11 : Int) (564 : Int) (↑(List.length ((Sp.v_48 a0 a1).1)) : Int)) (gd (Sp.p_59 (List.take (553 : Nat) (List.drop (11 : Nat) ((Sp.v_48 a0 a1).1)))) (bif !(Sp.v_59 (List.take (553 : Nat) (List.drop (11 : Nat) ((Sp.v_48 a0 a1).1)))).2.1 then some (((0 : Int), (0 : Int), List.replicate (32 : Nat) (0 : Int), ((0 : Int), [], [], PUnit.unit), PUnit.unit), false, PUnit.unit) else some ((IntKind.wrap IntKind.i64 (List.getD ((Sp.v_48 a0 a1).1) (1 : Nat) (0 : Int)), IntKind.wrap IntKind.i64 (List.getD ((Sp.v_48 a0 a1).1) (2 : Nat) (0 : Int)), (Sp.v_58 (List.take (8 : Nat) (List.drop (3 : Nat) ((Sp.v_48 a0 a1).1)))).1, (Sp.v_59 (List.take (553 : Nat) (List.drop (11 : Nat) ((Sp.v_48 a0 a1).1)))).1, PUnit.unit), true, PUnit.unit))))))))))
theorem fn_26 (a0 : (((List Int) × ((List Int) × (Int × Unit))) × ((List Int) × Unit))) (a1 : Int) : evFnL sm_26 FU (ovr noO (evFn sm_26 fns FU 0)) .nil ir26 (ofH [(.pair (.pair (.slice (.int .u32)) (.pair (.slice (.int .i64)) (.pair (.int .i64) .unit))) (.pair (.arr 32 (.int .u8)) .unit)), (.int .i64)] (a0, a1, ())) [] (pureK [(.pair (.int .i64) (.pair (.int .i64) (.pair (.arr 32 (.int .u8)) (.pair (.pair (.int .i64) (.pair (.slice (.arr 32 (.int .u8))) (.pair (.slice (.arr 32 (.int .u8))) .unit))) .unit)))), .bool]) = F_26 a0 a1 := by kernel_rfl
noncomputable def Sp.p_26 (a0 : (((List Int) × ((List Int) × (Int × Unit))) × ((List Int) × Unit))) (a1 : Int) : Bool := (F_26 a0 a1).isSome
noncomputable def Sp.v_26 (a0 : (((List Int) × ((List Int) × (Int × Unit))) × ((List Int) × Unit))) (a1 : Int) : (Int × (Int × ((List Int) × ((Int × ((List (List Int)) × ((List (List Int)) × Unit))) × Unit)))) × Bool × Unit := (F_26 a0 a1).getD (dfH [(.pair (.int .i64) (.pair (.int .i64) (.pair (.arr 32 (.int .u8)) (.pair (.pair (.int .i64) (.pair (.slice (.arr 32 (.int .u8))) (.pair (.slice (.arr 32 (.int .u8))) .unit))) .unit)))), .bool])
noncomputable def s_26 : Summ := shS [(.pair (.pair (.slice (.int .u32)) (.pair (.slice (.int .i64)) (.pair (.int .i64) .unit))) (.pair (.arr 32 (.int .u8)) .unit)), (.int .i64)] [(.pair (.int .i64) (.pair (.int .i64) (.pair (.arr 32 (.int .u8)) (.pair (.pair (.int .i64) (.pair (.slice (.arr 32 (.int .u8))) (.pair (.slice (.arr 32 (.int .u8))) .unit))) .unit)))), .bool] (fun x => Sp.p_26 x.1 x.2.1) (fun x => Sp.v_26 x.1 x.2.1)
theorem pv_26 (a0 : (((List Int) × ((List Int) × (Int × Unit))) × ((List Int) × Unit))) (a1 : Int) {y : (Int × (Int × ((List Int) × ((Int × ((List (List Int)) × ((List (List Int)) × Unit))) × Unit)))) × Bool × Unit} (h : F_26 a0 a1 = some y) : Sp.p_26 a0 a1 = true ∧ Sp.v_26 a0 a1 = y := ⟨by rw [Sp.p_26, h]; rfl, by rw [Sp.v_26, h]; rfl⟩
theorem run_26 (x : HDen [(.pair (.pair (.slice (.int .u32)) (.pair (.slice (.int .i64)) (.pair (.int .i64) .unit))) (.pair (.arr 32 (.int .u8)) .unit)), (.int .i64)]) (y : HDen [(.pair (.int .i64) (.pair (.int .i64) (.pair (.arr 32 (.int .u8)) (.pair (.pair (.int .i64) (.pair (.slice (.arr 32 (.int .u8))) (.pair (.slice (.arr 32 (.int .u8))) .unit))) .unit)))), .bool]) (h : F_26 x.1 x.2.1 = some y) : evFn sm_26 fns FU 1 26 (ofH [(.pair (.pair (.slice (.int .u32)) (.pair (.slice (.int .i64)) (.pair (.int .i64) .unit))) (.pair (.arr 32 (.int .u8)) .unit)), (.int .i64)] x) [] (pureK [(.pair (.int .i64) (.pair (.int .i64) (.pair (.arr 32 (.int .u8)) (.pair (.pair (.int .i64) (.pair (.slice (.arr 32 (.int .u8))) (.pair (.slice (.arr 32 (.int .u8))) .unit))) .unit)))), .bool]) = some y :=
  evFnL_sound (fn := ir26) (t := .nil) (o := noO) rfl noO_ok trivial ((fn_26 _ _).trans h)
end
end Go.Ev
namespace Go.Ev
open Go
set_option maxRecDepth 100000
set_option maxHeartbeats 4000000
set_option linter.unusedVariables false
noncomputable section

noncomputable def sm_100 : Nat → Option Summ := fun f => none
noncomputable def T_100_0 (p0 : List Int) (p1 : List Int) : St := St.mk ([CV.pure (Ty.slice (Ty.int IntKind.u8)) p0, jk, jk, CV.whole (0 : Nat)] ++ (jl 32)) [Blk.vec (5 : Nat) (Ty.int IntKind.u8) p1] (0 : Nat)
noncomputable def X_100_0_0 (p0 : List Int) (p1 : List Int) : St := St.mk ([CV.pure (Ty.slice (Ty.int IntKind.u8)) p0, jk, jk, CV.whole (0 : Nat)] ++ (jl 32)) [Blk.vec (5 : Nat) (Ty.int IntKind.u8) p1] (0 : Nat)
inductive Sp.E_100_0 where
  | e0 (p0 : List Int) (p1 : List Int)
noncomputable def Sp.B_100_0 {R : Type} (r : Option Sp.E_100_0) (k0 : (List Int) → (List Int) → Option R) : Option R := match r with
  | none => none
  | some (.e0 p0 p1) => k0 p0 p1
noncomputable def Sp.L_100_0 : Nat → (List Int) → (List Int) → Option Sp.E_100_0
  | 0, _, _ => none
  | m + 1, p0, p1 => bif Int.tmod (↑(List.length p1) : Int) (64 : Int) != (56 : Int) then gd (room (List.length p1 + (1 : Nat)) (1 : Nat)) (Sp.L_100_0 m p0 (p1 ++ [(0 : Int)])) else some (Sp.E_100_0.e0 p0 p1)
noncomputable def G_100_0 {R : Type} (p0 : List Int) (p1 : List Int) (k : Ex → St → Option R) : Option R := Sp.B_100_0 (Sp.L_100_0 FU p0 p1) (fun p0 p1 => k (Ex.exit (0 : Nat)) (X_100_0_0 p0 p1))
noncomputable def o_100_0 {R : Type} (G : (List Int) → (List Int) → (Ex → St → Option R) → Option R) : St → (Ex → St → Option R) → Option R := fun T k => match T.sl.getD 0 .junk, T.sl.getD 3 .junk, T.hp with
  | CV.pure (Ty.slice (Ty.int IntKind.u8)) p0, CV.whole (0 : Nat), ((Blk.vec (5 : Nat) (Ty.int IntKind.u8) p1) :: []) => gd (shapeOK T 36 [0, 3] (0 : Nat)) (G p0 p1 k)
  | _, _, _ => none
theorem o_100_0_inv {R : Type} {G : (List Int) → (List Int) → (Ex → St → Option R) → Option R} {T : St} {k : Ex → St → Option R} {r : R} (h : o_100_0 G T k = some r) : ∃ p0 p1, T = T_100_0 p0 p1 ∧ G p0 p1 k = some r := by
  unfold o_100_0 at h
  split at h
  · obtain ⟨hs, h'⟩ := gd_some h
    refine ⟨_, _, (st_of (asg := [(0, _), (3, _)]) hs ⟨by assumption, by assumption, trivial⟩ (by assumption)).trans ?_, h'⟩
    kernel_rfl
  · cases h
noncomputable def T_100_1 (p0 : Int) (p1 : Int) (p2 : List Int) : St := St.mk ([jk, jk, jk, CV.whole (0 : Nat), CV.int IntKind.u64 p0, CV.int IntKind.i64 p1] ++ (jl 30)) [Blk.vec (5 : Nat) (Ty.int IntKind.u8) p2] (0 : Nat)
noncomputable def X_100_1_0 (p2 : List Int) : St := St.mk ([jk, jk, jk, CV.whole (0 : Nat)] ++ (jl 32)) [Blk.vec (5 : Nat) (Ty.int IntKind.u8) p2] (0 : Nat)
inductive Sp.E_100_1 where
  | e0 (p2 : List Int)
noncomputable def Sp.B_100_1 {R : Type} (r : Option Sp.E_100_1) (k0 : (List Int) → Option R) : Option R := match r with
  | none => none
  | some (.e0 p2) => k0 p2
noncomputable def Sp.L_100_1 : Nat → (Int) → (Int) → (List Int) → Option Sp.E_100_1
  | 0, _, _, _ => none
  | m + 1, p0, p1, p2 => bif decide (p1 ≥ (0 : Int)) then gd (decide ((0 : Int) ≤ IntKind.wrap IntKind.u64 p1)) (gd (room (List.length p2 + (1 : Nat)) (1 : Nat)) (Sp.L_100_1 m p0 (IntKind.wrap IntKind.i64 (p1 - (8 : Int))) (p2 ++ [IntKind.wrap IntKind.u8 (Int.fdiv p0 ((2 : Int) ^ Nat.min (Int.toNat (IntKind.wrap IntKind.u64 p1)) (64 : Nat)))]))) else some (Sp.E_100_1.e0 p2)
noncomputable def G_100_1 {R : Type} (p0 : Int) (p1 : Int) (p2 : List Int) (k : Ex → St → Option R) : Option R := Sp.B_100_1 (Sp.L_100_1 FU p0 p1 p2) (fun p2 => k (Ex.exit (2 : Nat)) (X_100_1_0 p2))
noncomputable def o_100_1 {R : Type} (G : (Int) → (Int) → (List Int) → (Ex → St → Option R) → Option R) : St → (Ex → St → Option R) → Option R := fun T k => match T.sl.getD 3 .junk, T.sl.getD 4 .junk, T.sl.getD 5 .junk, T.hp with
  | CV.whole (0 : Nat), CV.int IntKind.u64 p0, CV.int IntKind.i64 p1, ((Blk.vec (5 : Nat) (Ty.int IntKind.u8) p2) :: []) => gd (shapeOK T 36 [3, 4, 5] (0 : Nat)) (G p0 p1 p2 k)
  | _, _, _, _ => none
theorem o_100_1_inv {R : Type} {G : (Int) → (Int) → (List Int) → (Ex → St → Option R) → Option R} {T : St} {k : Ex → St → Option R} {r : R} (h : o_100_1 G T k = some r) : ∃ p0 p1 p2, T = T_100_1 p0 p1 p2 ∧ G p0 p1 p2 k = some r := by
  unfold o_100_1 at h
  split at h
  · obtain ⟨hs, h'⟩ := gd_some h
    refine ⟨_, _, _, (st_of (asg := [(3, _), (4, _), (5, _)]) hs ⟨by assumption, by assumption, by assumption, trivial⟩ (by assumption)).trans ?_, h'⟩
    kernel_rfl
  · cases h
noncomputable def O_100_100_0 {R : Type} : St → (Ex → St → Option R) → Option R := fun T k => o_100_0 G_100_0 T k
noncomputable def O_100_100_1 {R : Type} : St → (Ex → St → Option R) → Option R := fun T k => o_100_1 G_100_1 T k
theorem body_100_0 {R : Type} (K0 : St → Option R) (K1 : Ex → St → Option R) (p0 : List Int) (p1 : List Int) : evLB (evCodeL sm_100 FU (ovr noO (evFn sm_100 fns FU 0)) .nil ir100_b0) (St.norm ir100_v0) (T_100_0 p0 p1) K0 K1 =
  bif Int.tmod (↑(List.length p1) : Int) (64 : Int) != (56 : Int) then gd (room (List.length p1 + (1 : Nat)) (1 : Nat)) (K0 (T_100_0 p0 (p1 ++ [(0 : Int)]))) else K1 (Ex.exit (0 : Nat)) (X_100_0_0 p0 p1) := by kernel_rfl
theorem Bgd_100_0 {R : Type} {c : Bool} {x : Option R} {y : Option Sp.E_100_0} {k0 : (List Int) → (List Int) → Option R} (h : x = Sp.B_100_0 y k0) : gd c x = Sp.B_100_0 (gd c y) k0 := by cases c; rfl; exact h
theorem Bcond_100_0 {R : Type} {c : Bool} {x x' : Option R} {y y' : Option Sp.E_100_0} {k0 : (List Int) → (List Int) → Option R} (h : x = Sp.B_100_0 y k0) (h' : x' = Sp.B_100_0 y' k0) : (bif c then x else x') = Sp.B_100_0 (bif c then y else y') k0 := by cases c; exact h'; exact h
theorem loop_100_0 {R : Type} (k : Ex → St → Option R) : ∀ (m : Nat) (p0 : List Int) (p1 : List Int), evLoopN (evCodeL sm_100 FU (ovr noO (evFn sm_100 fns FU 0)) .nil ir100_b0) (St.norm ir100_v0) m (T_100_0 p0 p1) k = Sp.B_100_0 (Sp.L_100_0 m p0 p1) (fun p0 p1 => k (Ex.exit (0 : Nat)) (X_100_0_0 p0 p1))
  | 0, _, _ => rfl
  | m + 1, p0, p1 => by
    rw [evLoopN_succ, body_100_0, Sp.L_100_0]
    repeat' first | apply Bgd_100_0 | apply Bcond_100_0 | exact loop_100_0 k m _ _ | rfl
theorem ok_100_0 {R : Type} (T : St) (k : Ex → St → Option R) (r : R) (h0 : o_100_0 G_100_0 T k = some r) : evLoopN (evCode sm_100 FU (evFn sm_100 fns FU 0) ir100_b0) (St.norm ir100_v0) FU T k = some r := by
  obtain ⟨p0, p1, rfl, h⟩ := o_100_0_inv h0
  refine evLoopN_L (t := .nil) noO_ok trivial _ _ _ _ ?_
  rw [loop_100_0]
  exact h
theorem OK_100_100_0 {R : Type} (T : St) (k : Ex → St → Option R) (r : R) (h : O_100_100_0 T k = some r) : evLoopN (evCode sm_100 FU (evFn sm_100 fns FU 0) ir100_b0) (St.norm ir100_v0) FU T k = some r := ok_100_0 T k r h
theorem body_100_1 {R : Type} (K0 : St → Option R) (K1 : Ex → St → Option R) (p0 : Int) (p1 : Int) (p2 : List Int) : evLB (evCodeL sm_100 FU (ovr noO (evFn sm_100 fns FU 0)) .nil ir100_b1) (St.norm ir100_v1) (T_100_1 p0 p1 p2) K0 K1 =
  bif decide (p1 ≥ (0 : Int)) then gd (decide ((0 : Int) ≤ IntKind.wrap IntKind.u64 p1)) (gd (room (List.length p2 + (1 : Nat)) (1 : Nat)) (K0 (T_100_1 p0 (IntKind.wrap IntKind.i64 (p1 - (8 : Int))) (p2 ++ [IntKind.wrap IntKind.u8 (Int.fdiv p0 ((2 : Int) ^ Nat.min (Int.toNat (IntKind.wrap IntKind.u64 p1)) (64 : Nat)))])))) else K1 (Ex.exit (2 : Nat)) (X_100_1_0 p2) := by kernel_rfl
theorem Bgd_100_1 {R : Type} {c : Bool} {x : Option R} {y : Option Sp.E_100_1} {k0 : (List Int) → Option R} (h : x = Sp.B_100_1 y k0) : gd c x = Sp.B_100_1 (gd c y) k0 := by cases c; rfl; exact h
theorem Bcond_100_1 {R : Type} {c : Bool} {x x' : Option R} {y y' : Option Sp.E_100_1} {k0 : (List Int) → Option R} (h : x = Sp.B_100_1 y k0) (h' : x' = Sp.B_100_1 y' k0) : (bif c then x else x') = Sp.B_100_1 (bif c then y else y') k0 := by cases c; exact h'; exact h
theorem loop_100_1 {R : Type} (k : Ex → St → Option R) : ∀ (m : Nat) (p0 : Int) (p1 : Int) (p2 : List Int), evLoopN (evCodeL sm_100 FU (ovr noO (evFn sm_100 fns FU 0)) .nil ir100_b1) (St.norm ir100_v1) m (T_100_1 p0 p1 p2) k = Sp.B_100_1 (Sp.L_100_1 m p0 p1 p2) (fun p2 => k (Ex.exit (2 : Nat)) (X_100_1_0 p2))
  | 0, _, _, _ => rfl
  | m + 1, p0, p1, p2 => by
    rw [evLoopN_succ, body_100_1, Sp.L_100_1]
    repeat' first | apply Bgd_100_1 | apply Bcond_100_1 | exact loop_100_1 k m _ _ _ | rfl
theorem ok_100_1 {R : Type} (T : St) (k : Ex → St → Option R) (r : R) (h0 : o_100_1 G_100_1 T k = some r) : evLoopN (evCode sm_100 FU (evFn sm_100 fns FU 0) ir100_b1) (St.norm ir100_v1) FU T k = some r := by
  obtain ⟨p0, p1, p2, rfl, h⟩ := o_100_1_inv h0
  refine evLoopN_L (t := .nil) noO_ok trivial _ _ _ _ ?_
  rw [loop_100_1]
  exact h
theorem OK_100_100_1 {R : Type} (T : St) (k : Ex → St → Option R) (r : R) (h : O_100_100_1 T k = some r) : evLoopN (evCode sm_100 FU (evFn sm_100 fns FU 0) ir100_b1) (St.norm ir100_v1) FU T k = some r := ok_100_1 T k r h
noncomputable def F_100 (a0 : (List Int)) : Option ((List Int) × Unit) :=
  gd (room ((0 : Nat) + List.length a0) (1 : Nat)) (gd (room (List.length ([] ++ a0) + (1 : Nat)) (1 : Nat)) (Sp.B_100_0 (Sp.L_100_0 (4611686018427387904 : Nat) a0 ([] ++ a0 ++ [(128 : Int)])) fun y3 y4 => Sp.B_100_1 (Sp.L_100_1 (4611686018427387904 : Nat) (IntKind.wrap IntKind.u64 (IntKind.wrap IntKind.u64 (↑(List.length y3) : Int) * (8 : Int))) (56 : Int) y4) fun y5 => some (y5, PUnit.unit)))
theorem fn_100 (a0 : (List Int)) : evFnL sm_100 FU (ovr noO (evFn sm_100 fns FU 0)) (ir100_t O_100_100_0 O_100_100_1) ir100 (ofH [(.slice (.int .u8))] (a0, ())) [] (pureK [(.slice (.int .u8))]) = F_100 a0 := by kernel_rfl
noncomputable def Sp.p_100 (a0 : (List Int)) : Bool := (F_100 a0).isSome
noncomputable def Sp.v_100 (a0 : (List Int)) : (List Int) × Unit := (F_100 a0).getD (dfH [(.slice (.int .u8))])
noncomputable def s_100 : Summ := shS [(.slice (.int .u8))] [(.slice (.int .u8))] (fun x => Sp.p_100 x.1) (fun x => Sp.v_100 x.1)
theorem pv_100 (a0 : (List Int)) {y : (List Int) × Unit} (h : F_100 a0 = some y) : Sp.p_100 a0 = true ∧ Sp.v_100 a0 = y := ⟨by rw [Sp.p_100, h]; rfl, by rw [Sp.v_100, h]; rfl⟩
theorem run_100 (x : HDen [(.slice (.int .u8))]) (y : HDen [(.slice (.int .u8))]) (h : F_100 x.1 = some y) : evFn sm_100 fns FU 1 100 (ofH [(.slice (.int .u8))] x) [] (pureK [(.slice (.int .u8))]) = some y :=
  evFnL_sound (fn := ir100) (t := (ir100_t O_100_100_0 O_100_100_1)) (o := noO) rfl noO_ok (ir100_tok (fun T k r => OK_100_100_0 T k r) (fun T k r => OK_100_100_1 T k r)) ((fn_100 _).trans h)
end
end Go.Ev
namespace Go.Ev
open Go
set_option maxRecDepth 100000
set_option maxHeartbeats 4000000
set_option linter.unusedVariables false
noncomputable section

noncomputable def sm_105 : Nat → Option Summ := fun f => none


noncomputable def F_105 (a0 : Int) (a1 : Int) : Option (Int × Unit) :=
  gd (decide ((0 : Int) ≤ a1)) (gd (decide ((0 : Int) ≤ IntKind.wrap IntKind.u64 ((32 : Int) - a1))) (some (Sp.orI IntKind.u32 (Int.fdiv a0 ((2 : Int) ^ Nat.min (Int.toNat a1) (32 : Nat))) (IntKind.wrap IntKind.u32 (a0 * (2 : Int) ^ Nat.min (Int.toNat (IntKind.wrap IntKind.u64 ((32 : Int) - a1))) (32 : Nat))), PUnit.unit)))
theorem fn_105 (a0 : Int) (a1 : Int) : evFnL sm_105 FU (ovr noO (evFn sm_105 fns FU 0)) .nil ir105 (ofH [(.int .u32), (.int .u64)] (a0, a1, ())) [] (pureK [(.int .u32)]) = F_105 a0 a1 := by kernel_rfl
noncomputable def Sp.p_105 (a0 : Int) (a1 : Int) : Bool := (F_105 a0 a1).isSome
noncomputable def Sp.v_105 (a0 : Int) (a1 : Int) : Int × Unit := (F_105 a0 a1).getD (dfH [(.int .u32)])
noncomputable def s_105 : Summ := shN [(.int .u32), (.int .u64)] [(.int .u32)] (fun x => Sp.p_105 x.1 x.2.1) (fun x => Sp.v_105 x.1 x.2.1)
theorem pv_105 (a0 : Int) (a1 : Int) {y : Int × Unit} (h : F_105 a0 a1 = some y) : Sp.p_105 a0 a1 = true ∧ Sp.v_105 a0 a1 = y := ⟨by rw [Sp.p_105, h]; rfl, by rw [Sp.v_105, h]; rfl⟩
theorem run_105 (x : HDen [(.int .u32), (.int .u64)]) (y : HDen [(.int .u32)]) (h : F_105 x.1 x.2.1 = some y) : evFn sm_105 fns FU 1 105 (ofH [(.int .u32), (.int .u64)] x) [] (pureK [(.int .u32)]) = some y :=
  evFnL_sound (fn := ir105) (t := .nil) (o := noO) rfl noO_ok trivial ((fn_105 _ _).trans h)
end
end Go.Ev
namespace Go.Ev
open Go
set_option maxRecDepth 100000
set_option maxHeartbeats 4000000
set_option linter.unusedVariables false
noncomputable section

noncomputable def sm_106 : Nat → Option Summ := fun f => none


noncomputable def F_106  : Option ((List Int) × Unit) :=
  some ([(1116352408 : Int), (1899447441 : Int), (3049323471 : Int), (3921009573 : Int), (961987163 : Int), (1508970993 : Int), (2453635748 : Int), (2870763221 : Int), (3624381080 : Int), (310598401 : Int), (607225278 : Int), (1426881987 : Int), (1925078388 : Int), (2162078206 : Int), (2614888103 : Int), (3248222580 : Int), (3835390401 : Int), (4022224774 : Int), (264347078 : Int), (604807628 : Int), (770255983 : Int), (1249150122 : Int), (1555081692 : Int), (1996064986 : Int), (2554220882 : Int), (2821834349 : Int), (2952996808 : Int), (3210313671 : Int), (3336571891 : Int), (3584528711 : Int), (113926993 : Int), (338241895 : Int), (666307205 : Int), (773529912 : Int), (1294757372 : Int), (1396182291 : Int), (1695183700 : Int), (1986661051 : Int), (2177026350 : Int), (2456956037 : Int), (2730485921 : Int), (2820302411 : Int), (3259730800 : Int), (3345764771 : Int), (3516065817 : Int), (3600352804 : Int), (4094571909 : Int), (275423344 : Int), (430227734 : Int), (506948616 : Int), (659060556 : Int), (883997877 : Int), (958139571 : Int), (1322822218 : Int), (1537002063 : Int), (1747873779 : Int), (1955562222 : Int), (2024104815 : Int), (2227730452 : Int), (2361852424 : Int), (2428436474 : Int), (2756734187 : Int), (3204031479 : Int), (3329325298 : Int)], PUnit.unit)
theorem fn_106  : evFnL sm_106 FU (ovr noO (evFn sm_106 fns FU 0)) .nil ir106 (ofH [] (())) [] (pureK [(.arr 64 (.int .u32))]) = F_106 := by kernel_rfl
noncomputable def Sp.p_106  : Bool := (F_106).isSome
noncomputable def Sp.v_106  : (List Int) × Unit := (F_106).getD (dfH [(.arr 64 (.int .u32))])
noncomputable def s_106 : Summ := shN [] [(.arr 64 (.int .u32))] (fun x => Sp.p_106 ) (fun x => Sp.v_106 )
theorem run_106 (x : HDen []) (y : HDen [(.arr 64 (.int .u32))]) (h : F_106  = some y) : evFn sm_106 fns FU 1 106 (ofH [] x) [] (pureK [(.arr 64 (.int .u32))]) = some y :=
  evFnL_sound (fn := ir106) (t := .nil) (o := noO) rfl noO_ok trivial ((fn_106).trans h)
end
end Go.Ev
namespace Go.Ev
open Go
set_option maxRecDepth 100000
set_option maxHeartbeats 4000000
set_option linter.unusedVariables false
noncomputable section
abbrev Zy101_0 : Ty := (Ty.arr (8 : Nat) (Ty.int IntKind.u32))
abbrev Zy101_1 : Ty := (Ty.arr (64 : Nat) (Ty.int IntKind.u32))

noncomputable def sm_101 : Nat → Option Summ := fun f => bif Nat.beq f 105 then some s_105 else bif Nat.beq f 106 then some s_106 else none
noncomputable def T_101_0 (p0 : List Int) (p1 : Int) (p2 : List Int) (p3 : List Int) (p4 : List Int) : St := St.mk ([jk, CV.pure (Ty.slice (Ty.int IntKind.u8)) p0, CV.ptr (0 : Nat) [], jk, CV.ptr (1 : Nat) [], CV.ptr (2 : Nat) [], CV.int IntKind.i64 p1] ++ (jl 189)) [Blk.mem (CV.pure Zy101_0 p2), Blk.mem (CV.pure Zy101_0 p3), Blk.mem (CV.pure Zy101_1 p4)] (0 : Nat)
noncomputable def X_101_0_0 (p2 : List Int) (p3 : List Int) (p4 : List Int) : St := St.mk ([jk, jk, CV.ptr (0 : Nat) [], jk, CV.ptr (1 : Nat) [], CV.ptr (2 : Nat) []] ++ (jl 190)) [Blk.mem (CV.pure Zy101_0 p2), Blk.mem (CV.pure Zy101_0 p3), Blk.mem (CV.pure Zy101_1 p4)] (0 : Nat)
inductive Sp.E_101_0 where
  | e0 (p2 : List Int) (p3 : List Int) (p4 : List Int)
noncomputable def Sp.B_101_0 {R : Type} (r : Option Sp.E_101_0) (k0 : (List Int) → (List Int) → (List Int) → Option R) : Option R := match r with
  | none => none
  | some (.e0 p2 p3 p4) => k0 p2 p3 p4
noncomputable def Sp.L_101_0 : Nat → (List Int) → (Int) → (List Int) → (List Int) → (List Int) → Option Sp.E_101_0
  | 0, _, _, _, _, _ => none
  | m + 1, p0, p1, p2, p3, p4 => bif decide (p1 < (16 : Int)) then gd (inB (IntKind.wrap IntKind.i64 ((4 : Int) * p1)) (List.length p0)) (gd (inB (IntKind.wrap IntKind.i64 (IntKind.wrap IntKind.i64 ((4 : Int) * p1) + (1 : Int))) (List.length p0)) (gd (inB (IntKind.wrap IntKind.i64 (IntKind.wrap IntKind.i64 ((4 : Int) * p1) + (2 : Int))) (List.length p0)) (gd (inB (IntKind.wrap IntKind.i64 (IntKind.wrap IntKind.i64 ((4 : Int) * p1) + (3 : Int))) (List.length p0)) (gd (inB p1 (64 : Nat)) (gd (decide (Int.toNat p1 < (64 : Nat)) && true) (Sp.L_101_0 m p0 (IntKind.wrap IntKind.i64 (p1 + (1 : Int))) p2 p3 (List.set p4 (Int.toNat p1) (Sp.orI IntKind.u32 (Sp.orI IntKind.u32 (Sp.orI IntKind.u32 (IntKind.wrap IntKind.u32 (IntKind.wrap IntKind.u32 (List.getD p0 (Int.toNat (IntKind.wrap IntKind.i64 ((4 : Int) * p1))) (0 : Int)) * (16777216 : Int))) (IntKind.wrap IntKind.u32 (IntKind.wrap IntKind.u32 (List.getD p0 (Int.toNat (IntKind.wrap IntKind.i64 (IntKind.wrap IntKind.i64 ((4 : Int) * p1) + (1 : Int)))) (0 : Int)) * (65536 : Int)))) (IntKind.wrap IntKind.u32 (IntKind.wrap IntKind.u32 (List.getD p0 (Int.toNat (IntKind.wrap IntKind.i64 (IntKind.wrap IntKind.i64 ((4 : Int) * p1) + (2 : Int)))) (0 : Int)) * (256 : Int)))) (IntKind.wrap IntKind.u32 (List.getD p0 (Int.toNat (IntKind.wrap IntKind.i64 (IntKind.wrap IntKind.i64 ((4 : Int) * p1) + (3 : Int)))) (0 : Int))))))))))) else some (Sp.E_101_0.e0 p2 p3 p4)
noncomputable def G_101_0 {R : Type} (p0 : List Int) (p1 : Int) (p2 : List Int) (p3 : List Int) (p4 : List Int) (k : Ex → St → Option R) : Option R := Sp.B_101_0 (Sp.L_101_0 FU p0 p1 p2 p3 p4) (fun p2 p3 p4 => k (Ex.exit (0 : Nat)) (X_101_0_0 p2 p3 p4))
noncomputable def o_101_0 {R : Type} (G : (List Int) → (Int) → (List Int) → (List Int) → (List Int) → (Ex → St → Option R) → Option R) : St → (Ex → St → Option R) → Option R := fun T k => match T.sl.getD 1 .junk, T.sl.getD 2 .junk, T.sl.getD 4 .junk, T.sl.getD 5 .junk, T.sl.getD 6 .junk, T.hp with
  | CV.pure (Ty.slice (Ty.int IntKind.u8)) p0, CV.ptr (0 : Nat) [], CV.ptr (1 : Nat) [], CV.ptr (2 : Nat) [], CV.int IntKind.i64 p1, ((Blk.mem (CV.pure (Ty.arr (8 : Nat) (Ty.int IntKind.u32)) p2)) :: (Blk.mem (CV.pure (Ty.arr (8 : Nat) (Ty.int IntKind.u32)) p3)) :: (Blk.mem (CV.pure (Ty.arr (64 : Nat) (Ty.int IntKind.u32)) p4)) :: []) => gd (shapeOK T 196 [1, 2, 4, 5, 6] (0 : Nat)) (G p0 p1 p2 p3 p4 k)
  | _, _, _, _, _, _ => none
theorem o_101_0_inv {R : Type} {G : (List Int) → (Int) → (List Int) → (List Int) → (List Int) → (Ex → St → Option R) → Option R} {T : St} {k : Ex → St → Option R} {r : R} (h : o_101_0 G T k = some r) : ∃ p0 p1 p2 p3 p4, T = T_101_0 p0 p1 p2 p3 p4 ∧ G p0 p1 p2 p3 p4 k = some r := by
  unfold o_101_0 at h
  split at h
  · obtain ⟨hs, h'⟩ := gd_some h
    refine ⟨_, _, _, _, _, (st_of (asg := [(1, _), (2, _), (4, _), (5, _), (6, _)]) hs ⟨by assumption, by assumption, by assumption, by assumption, by assumption, trivial⟩ (by assumption)).trans ?_, h'⟩
    kernel_rfl
  · cases h
noncomputable def T_101_1 (p0 : Int) (p1 : List Int) (p2 : List Int) (p3 : List Int) : St := St.mk ([jk, jk, CV.ptr (0 : Nat) [], jk, CV.ptr (1 : Nat) [], CV.ptr (2 : Nat) [], jk, CV.int IntKind.i64 p0] ++ (jl 188)) [Blk.mem (CV.pure Zy101_0 p1), Blk.mem (CV.pure Zy101_0 p2), Blk.mem (CV.pure Zy101_1 p3)] (0 : Nat)
noncomputable def X_101_1_0 (p1 : List Int) (p2 : List Int) (p3 : List Int) : St := St.mk ([jk, jk, CV.ptr (0 : Nat) [], jk, CV.ptr (1 : Nat) [], CV.ptr (2 : Nat) []] ++ (jl 190)) [Blk.mem (CV.pure Zy101_0 p1), Blk.mem (CV.pure Zy101_0 p2), Blk.mem (CV.pure Zy101_1 p3)] (0 : Nat)
inductive Sp.E_101_1 where
  | e0 (p1 : List Int) (p2 : List Int) (p3 : List Int)
noncomputable def Sp.B_101_1 {R : Type} (r : Option Sp.E_101_1) (k0 : (List Int) → (List Int) → (List Int) → Option R) : Option R := match r with
  | none => none
  | some (.e0 p1 p2 p3) => k0 p1 p2 p3
noncomputable def Sp.L_101_1 : Nat → (Int) → (List Int) → (List Int) → (List Int) → Option Sp.E_101_1
  | 0, _, _, _, _ => none
  | m + 1, p0, p1, p2, p3 => bif decide (p0 < (64 : Int)) then gd (inB (IntKind.wrap IntKind.i64 (p0 - (15 : Int))) (64 : Nat)) (gd (decide (Int.toNat (IntKind.wrap IntKind.i64 (p0 - (15 : Int))) < (64 : Nat)) && true) (gd (inB (IntKind.wrap IntKind.i64 (p0 - (2 : Int))) (64 : Nat)) (gd (decide (Int.toNat (IntKind.wrap IntKind.i64 (p0 - (2 : Int))) < (64 : Nat)) && true) (gd (Sp.p_105 (List.getD p3 (Int.toNat (IntKind.wrap IntKind.i64 (p0 - (2 : Int)))) (0 : Int)) (17 : Int)) (gd (Sp.p_105 (List.getD p3 (Int.toNat (IntKind.wrap IntKind.i64 (p0 - (2 : Int)))) (0 : Int)) (19 : Int)) (gd (inB (IntKind.wrap IntKind.i64 (p0 - (7 : Int))) (64 : Nat)) (gd (decide (Int.toNat (IntKind.wrap IntKind.i64 (p0 - (7 : Int))) < (64 : Nat)) && true) (gd (Sp.p_105 (List.getD p3 (Int.toNat (IntKind.wrap IntKind.i64 (p0 - (15 : Int)))) (0 : Int)) (7 : Int)) (gd (Sp.p_105 (List.getD p3 (Int.toNat (IntKind.wrap IntKind.i64 (p0 - (15 : Int)))) (0 : Int)) (18 : Int)) (gd (inB (IntKind.wrap IntKind.i64 (p0 - (16 : Int))) (64 : Nat)) (gd (decide (Int.toNat (IntKind.wrap IntKind.i64 (p0 - (16 : Int))) < (64 : Nat)) && true) (gd (inB p0 (64 : Nat)) (gd (decide (Int.toNat p0 < (64 : Nat)) && true) (Sp.L_101_1 m (IntKind.wrap IntKind.i64 (p0 + (1 : Int))) p1 p2 (List.set p3 (Int.toNat p0) (IntKind.wrap IntKind.u32 (IntKind.wrap IntKind.u32 (IntKind.wrap IntKind.u32 (Sp.xorI IntKind.u32 (Sp.xorI IntKind.u32 ((Sp.v_105 (List.getD p3 (Int.toNat (IntKind.wrap IntKind.i64 (p0 - (2 : Int)))) (0 : Int)) (17 : Int)).1) ((Sp.v_105 (List.getD p3 (Int.toNat (IntKind.wrap IntKind.i64 (p0 - (2 : Int)))) (0 : Int)) (19 : Int)).1)) (Int.fdiv (List.getD p3 (Int.toNat (IntKind.wrap IntKind.i64 (p0 - (2 : Int)))) (0 : Int)) (1024 : Int)) + List.getD p3 (Int.toNat (IntKind.wrap IntKind.i64 (p0 - (7 : Int)))) (0 : Int)) + Sp.xorI IntKind.u32 (Sp.xorI IntKind.u32 ((Sp.v_105 (List.getD p3 (Int.toNat (IntKind.wrap IntKind.i64 (p0 - (15 : Int)))) (0 : Int)) (7 : Int)).1) ((Sp.v_105 (List.getD p3 (Int.toNat (IntKind.wrap IntKind.i64 (p0 - (15 : Int)))) (0 : Int)) (18 : Int)).1)) (Int.fdiv (List.getD p3 (Int.toNat (IntKind.wrap IntKind.i64 (p0 - (15 : Int)))) (0 : Int)) (8 : Int))) + List.getD p3 (Int.toNat (IntKind.wrap IntKind.i64 (p0 - (16 : Int)))) (0 : Int)))))))))))))))))) else some (Sp.E_101_1.e0 p1 p2 p3)
noncomputable def G_101_1 {R : Type} (p0 : Int) (p1 : List Int) (p2 : List Int) (p3 : List Int) (k : Ex → St → Option R) : Option R := Sp.B_101_1 (Sp.L_101_1 FU p0 p1 p2 p3) (fun p1 p2 p3 => k (Ex.exit (2 : Nat)) (X_101_1_0 p1 p2 p3))
noncomputable def o_101_1 {R : Type} (G : (Int) → (List Int) → (List Int) → (List Int) → (Ex → St → Option R) → Option R) : St → (Ex → St → Option R) → Option R := fun T k => match T.sl.getD 2 .junk, T.sl.getD 4 .junk, T.sl.getD 5 .junk, T.sl.getD 7 .junk, T.hp with
  | CV.ptr (0 : Nat) [], CV.ptr (1 : Nat) [], CV.ptr (2 : Nat) [], CV.int IntKind.i64 p0, ((Blk.mem (CV.pure (Ty.arr (8 : Nat) (Ty.int IntKind.u32)) p1)) :: (Blk.mem (CV.pure (Ty.arr (8 : Nat) (Ty.int IntKind.u32)) p2)) :: (Blk.mem (CV.pure (Ty.arr (64 : Nat) (Ty.int IntKind.u32)) p3)) :: []) => gd (shapeOK T 196 [2, 4, 5, 7] (0 : Nat)) (G p0 p1 p2 p3 k)
  | _, _, _, _, _ => none
theorem o_101_1_inv {R : Type} {G : (Int) → (List Int) → (List Int) → (List Int) → (Ex → St → Option R) → Option R} {T : St} {k : Ex → St → Option R} {r : R} (h : o_101_1 G T k = some r) : ∃ p0 p1 p2 p3, T = T_101_1 p0 p1 p2 p3 ∧ G p0 p1 p2 p3 k = some r := by
  unfold o_101_1 at h
  split at h
  · obtain ⟨hs, h'⟩ := gd_some h
    refine ⟨_, _, _, _, (st_of (asg := [(2, _), (4, _), (5, _), (7, _)]) hs ⟨by assumption, by assumption, by assumption, by assumption, trivial⟩ (by assumption)).trans ?_, h'⟩
    kernel_rfl
  · cases h
noncomputable def T_101_2 (p0 : Int) (p1 : List Int) (p2 : List Int) (p3 : List Int) (p4 : List Int) (p5 : List Int) : St := St.mk ([jk, jk, CV.ptr (0 : Nat) [], jk, CV.ptr (1 : Nat) [], CV.ptr (2 : Nat) [], jk, jk, jk, jk, CV.ptr (3 : Nat) [], CV.ptr (4 : Nat) [], CV.int IntKind.i64 p0] ++ (jl 183)) [Blk.mem (CV.pure Zy101_0 p1), Blk.mem (CV.pure Zy101_0 p2), Blk.mem (CV.pure Zy101_1 p3), Blk.mem (CV.pure Zy101_1 p4), Blk.mem (CV.pure Zy101_0 p5)] (0 : Nat)
noncomputable def X_101_2_0 (p1 : List Int) (p2 : List Int) (p5 : List Int) : St := St.mk ([jk, jk, CV.ptr (0 : Nat) [], jk, CV.ptr (1 : Nat) []] ++ (jl 6 ++ ([CV.ptr (2 : Nat) []] ++ (jl 184)))) [Blk.mem (CV.pure Zy101_0 p1), Blk.mem (CV.pure Zy101_0 p2), Blk.mem (CV.pure Zy101_0 p5)] (0 : Nat)
inductive Sp.E_101_2 where
  | e0 (p1 : List Int) (p2 : List Int) (p5 : List Int)
noncomputable def Sp.B_101_2 {R : Type} (r : Option Sp.E_101_2) (k0 : (List Int) → (List Int) → (List Int) → Option R) : Option R := match r with
  | none => none
  | some (.e0 p1 p2 p5) => k0 p1 p2 p5
noncomputable def Sp.L_101_2 : Nat → (Int) → (List Int) → (List Int) → (List Int) → (List Int) → (List Int) → Option Sp.E_101_2
  | 0, _, _, _, _, _, _ => none
  | m + 1, p0, p1, p2, p3, p4, p5 => bif decide (p0 < (64 : Int)) then gd (Sp.p_105 (List.getD p5 (4 : Nat) (0 : Int)) (6 : Int)) (gd (Sp.p_105 (List.getD p5 (4 : Nat) (0 : Int)) (11 : Int)) (gd (Sp.p_105 (List.getD p5 (4 : Nat) (0 : Int)) (25 : Int)) (gd (inB p0 (64 : Nat)) (gd (decide (Int.toNat p0 < (64 : Nat)) && true) (gd (inB p0 (64 : Nat)) (gd (decide (Int.toNat p0 < (64 : Nat)) && true) (gd (Sp.p_105 (List.getD p5 (0 : Nat) (0 : Int)) (2 : Int)) (gd (Sp.p_105 (List.getD p5 (0 : Nat) (0 : Int)) (13 : Int)) (gd (Sp.p_105 (List.getD p5 (0 : Nat) (0 : Int)) (22 : Int)) (Sp.L_101_2 m (IntKind.wrap IntKind.i64 (p0 + (1 : Int))) p1 p2 p3 p4 [IntKind.wrap IntKind.u32 (IntKind.wrap IntKind.u32 (IntKind.wrap IntKind.u32 (IntKind.wrap IntKind.u32 (IntKind.wrap IntKind.u32 (List.getD p5 (7 : Nat) (0 : Int) + Sp.xorI IntKind.u32 (Sp.xorI IntKind.u32 ((Sp.v_105 (List.getD p5 (4 : Nat) (0 : Int)) (6 : Int)).1) ((Sp.v_105 (List.getD p5 (4 : Nat) (0 : Int)) (11 : Int)).1)) ((Sp.v_105 (List.getD p5 (4 : Nat) (0 : Int)) (25 : Int)).1)) + Sp.xorI IntKind.u32 (Sp.andI IntKind.u32 (List.getD p5 (4 : Nat) (0 : Int)) (List.getD p5 (5 : Nat) (0 : Int))) (Sp.andI IntKind.u32 (Sp.xorI IntKind.u32 (4294967295 : Int) (List.getD p5 (4 : Nat) (0 : Int))) (List.getD p5 (6 : Nat) (0 : Int)))) + List.getD p4 (Int.toNat p0) (0 : Int)) + List.getD p3 (Int.toNat p0) (0 : Int)) + IntKind.wrap IntKind.u32 (Sp.xorI IntKind.u32 (Sp.xorI IntKind.u32 ((Sp.v_105 (List.getD p5 (0 : Nat) (0 : Int)) (2 : Int)).1) ((Sp.v_105 (List.getD p5 (0 : Nat) (0 : Int)) (13 : Int)).1)) ((Sp.v_105 (List.getD p5 (0 : Nat) (0 : Int)) (22 : Int)).1) + Sp.xorI IntKind.u32 (Sp.xorI IntKind.u32 (Sp.andI IntKind.u32 (List.getD p5 (0 : Nat) (0 : Int)) (List.getD p5 (1 : Nat) (0 : Int))) (Sp.andI IntKind.u32 (List.getD p5 (0 : Nat) (0 : Int)) (List.getD p5 (2 : Nat) (0 : Int)))) (Sp.andI IntKind.u32 (List.getD p5 (1 : Nat) (0 : Int)) (List.getD p5 (2 : Nat) (0 : Int))))), List.getD p5 (0 : Nat) (0 : Int), List.getD p5 (1 : Nat) (0 : Int), List.getD p5 (2 : Nat) (0 : Int), IntKind.wrap IntKind.u32 (List.getD p5 (3 : Nat) (0 : Int) + IntKind.wrap IntKind.u32 (IntKind.wrap IntKind.u32 (IntKind.wrap IntKind.u32 (IntKind.wrap IntKind.u32 (List.getD p5 (7 : Nat) (0 : Int) + Sp.xorI IntKind.u32 (Sp.xorI IntKind.u32 ((Sp.v_105 (List.getD p5 (4 : Nat) (0 : Int)) (6 : Int)).1) ((Sp.v_105 (List.getD p5 (4 : Nat) (0 : Int)) (11 : Int)).1)) ((Sp.v_105 (List.getD p5 (4 : Nat) (0 : Int)) (25 : Int)).1)) + Sp.xorI IntKind.u32 (Sp.andI IntKind.u32 (List.getD p5 (4 : Nat) (0 : Int)) (List.getD p5 (5 : Nat) (0 : Int))) (Sp.andI IntKind.u32 (Sp.xorI IntKind.u32 (4294967295 : Int) (List.getD p5 (4 : Nat) (0 : Int))) (List.getD p5 (6 : Nat) (0 : Int)))) + List.getD p4 (Int.toNat p0) (0 : Int)) + List.getD p3 (Int.toNat p0) (0 : Int))), List.getD p5 (4 : Nat) (0 : Int), List.getD p5 (5 : Nat) (0 : Int), List.getD p5 (6 : Nat) (0 : Int)])))))))))) else some (Sp.E_101_2.e0 p1 p2 p5)
noncomputable def G_101_2 {R : Type} (p0 : Int) (p1 : List Int) (p2 : List Int) (p3 : List Int) (p4 : List Int) (p5 : List Int) (k : Ex → St → Option R) : Option R := Sp.B_101_2 (Sp.L_101_2 FU p0 p1 p2 p3 p4 p5) (fun p1 p2 p5 => k (Ex.exit (4 : Nat)) (X_101_2_0 p1 p2 p5))
noncomputable def o_101_2 {R : Type} (G : (Int) → (List Int) → (List Int) → (List Int) → (List Int) → (List Int) → (Ex → St → Option R) → Option R) : St → (Ex → St → Option R) → Option R := fun T k => match T.sl.getD 2 .junk, T.sl.getD 4 .junk, T.sl.getD 5 .junk, T.sl.getD 10 .junk, T.sl.getD 11 .junk, T.sl.getD 12 .junk, T.hp with
  | CV.ptr (0 : Nat) [], CV.ptr (1 : Nat) [], CV.ptr (2 : Nat) [], CV.ptr (3 : Nat) [], CV.ptr (4 : Nat) [], CV.int IntKind.i64 p0, ((Blk.mem (CV.pure (Ty.arr (8 : Nat) (Ty.int IntKind.u32)) p1)) :: (Blk.mem (CV.pure (Ty.arr (8 : Nat) (Ty.int IntKind.u32)) p2)) :: (Blk.mem (CV.pure (Ty.arr (64 : Nat) (Ty.int IntKind.u32)) p3)) :: (Blk.mem (CV.pure (Ty.arr (64 : Nat) (Ty.int IntKind.u32)) p4)) :: (Blk.mem (CV.pure (Ty.arr (8 : Nat) (Ty.int IntKind.u32)) p5)) :: []) => gd (shapeOK T 196 [2, 4, 5, 10, 11, 12] (0 : Nat)) (G p0 p1 p2 p3 p4 p5 k)
  | _, _, _, _, _, _, _ => none
theorem o_101_2_inv {R : Type} {G : (Int) → (List Int) → (List Int) → (List Int) → (List Int) → (List Int) → (Ex → St → Option R) → Option R} {T : St} {k : Ex → St → Option R} {r : R} (h : o_101_2 G T k = some r) : ∃ p0 p1 p2 p3 p4 p5, T = T_101_2 p0 p1 p2 p3 p4 p5 ∧ G p0 p1 p2 p3 p4 p5 k = some r := by
  unfold o_101_2 at h
  split at h
  · obtain ⟨hs, h'⟩ := gd_some h
    refine ⟨_, _, _, _, _, _, (st_of (asg := [(2, _), (4, _), (5, _), (10, _), (11, _), (12, _)]) hs ⟨by assumption, by assumption, by assumption, by assumption, by assumption, by assumption, trivial⟩ (by assumption)).trans ?_, h'⟩
    kernel_rfl
  · cases h
noncomputable def T_101_3 (p0 : Int) (p1 : List Int) (p2 : List Int) (p3 : List Int) : St := St.mk ([jk, jk, CV.ptr (0 : Nat) [], jk, CV.ptr (1 : Nat) []] ++ (jl 6 ++ ([CV.ptr (2 : Nat) []] ++ (jl 9 ++ ([CV.int IntKind.i64 p0] ++ (jl 174)))))) [Blk.mem (CV.pure Zy101_0 p1), Blk.mem (CV.pure Zy101_0 p2), Blk.mem (CV.pure Zy101_0 p3)] (0 : Nat)
noncomputable def X_101_3_0 (p1 : List Int) (p2 : List Int) : St := St.mk ([jk, jk, CV.ptr (0 : Nat) [], jk, CV.ptr (1 : Nat) []] ++ (jl 191)) [Blk.mem (CV.pure Zy101_0 p1), Blk.mem (CV.pure Zy101_0 p2)] (0 : Nat)
inductive Sp.E_101_3 where
  | e0 (p1 : List Int) (p2 : List Int)
noncomputable def Sp.B_101_3 {R : Type} (r : Option Sp.E_101_3) (k0 : (List Int) → (List Int) → Option R) : Option R := match r with
  | none => none
  | some (.e0 p1 p2) => k0 p1 p2
noncomputable def Sp.L_101_3 : Nat → (Int) → (List Int) → (List Int) → (List Int) → Option Sp.E_101_3
  | 0, _, _, _, _ => none
  | m + 1, p0, p1, p2, p3 => bif decide (p0 < (8 : Int)) then gd (inB p0 (8 : Nat)) (gd (decide (Int.toNat p0 < (8 : Nat)) && true) (gd (inB p0 (8 : Nat)) (gd (decide (Int.toNat p0 < (8 : Nat)) && true) (gd (inB p0 (8 : Nat)) (gd (decide (Int.toNat p0 < (8 : Nat)) && true) (Sp.L_101_3 m (IntKind.wrap IntKind.i64 (p0 + (1 : Int))) (List.set p1 (Int.toNat p0) (IntKind.wrap IntKind.u32 (List.getD p1 (Int.toNat p0) (0 : Int) + List.getD p3 (Int.toNat p0) (0 : Int)))) p2 p3)))))) else some (Sp.E_101_3.e0 p1 p2)
noncomputable def G_101_3 {R : Type} (p0 : Int) (p1 : List Int) (p2 : List Int) (p3 : List Int) (k : Ex → St → Option R) : Option R := Sp.B_101_3 (Sp.L_101_3 FU p0 p1 p2 p3) (fun p1 p2 => k (Ex.exit (6 : Nat)) (X_101_3_0 p1 p2))
noncomputable def o_101_3 {R : Type} (G : (Int) → (List Int) → (List Int) → (List Int) → (Ex → St → Option R) → Option R) : St → (Ex → St → Option R) → Option R := fun T k => match T.sl.getD 2 .junk, T.sl.getD 4 .junk, T.sl.getD 11 .junk, T.sl.getD 21 .junk, T.hp with
  | CV.ptr (0 : Nat) [], CV.ptr (1 : Nat) [], CV.ptr (2 : Nat) [], CV.int IntKind.i64 p0, ((Blk.mem (CV.pure (Ty.arr (8 : Nat) (Ty.int IntKind.u32)) p1)) :: (Blk.mem (CV.pure (Ty.arr (8 : Nat) (Ty.int IntKind.u32)) p2)) :: (Blk.mem (CV.pure (Ty.arr (8 : Nat) (Ty.int IntKind.u32)) p3)) :: []) => gd (shapeOK T 196 [2, 4, 11, 21] (0 : Nat)) (G p0 p1 p2 p3 k)
  | _, _, _, _, _ => none
theorem o_101_3_inv {R : Type} {G : (Int) → (List Int) → (List Int) → (List Int) → (Ex → St → Option R) → Option R} {T : St} {k : Ex → St → Option R} {r : R} (h : o_101_3 G T k = some r) : ∃ p0 p1 p2 p3, T = T_101_3 p0 p1 p2 p3 ∧ G p0 p1 p2 p3 k = some r := by
  unfold o_101_3 at h
  split at h
  · obtain ⟨hs, h'⟩ := gd_some h
    refine ⟨_, _, _, _, (st_of (asg := [(2, _), (4, _), (11, _), (21, _)]) hs ⟨by assumption, by assumption, by assumption, by assumption, trivial⟩ (by assumption)).trans ?_, h'⟩
    kernel_rfl
  · cases h
noncomputable def O_101_101_0 {R : Type} : St → (Ex → St → Option R) → Option R := fun T k => o_101_0 G_101_0 T k
noncomputable def O_101_101_1 {R : Type} : St → (Ex → St → Option R) → Option R := fun T k => o_101_1 G_101_1 T k
noncomputable def O_101_101_2 {R : Type} : St → (Ex → St → Option R) → Option R := fun T k => o_101_2 G_101_2 T k
noncomputable def O_101_101_3 {R : Type} : St → (Ex → St → Option R) → Option R := fun T k => o_101_3 G_101_3 T k
theorem body_101_0 {R : Type} (K0 : St → Option R) (K1 : Ex → St → Option R) (p0 : List Int) (p1 : Int) (p2 : List Int) (p3 : List Int) (p4 : List Int) : evLB (evCodeL sm_101 FU (ovr noO (evFn sm_101 fns FU 0)) .nil ir101_b0) (St.norm ir101_v0) (T_101_0 p0 p1 p2 p3 p4) K0 K1 =
  bif decide (p1 < (16 : Int)) then gd (inB (IntKind.wrap IntKind.i64 ((4 : Int) * p1)) (List.length p0)) (gd (inB (IntKind.wrap IntKind.i64 (IntKind.wrap IntKind.i64 ((4 : Int) * p1) + (1 : Int))) (List.length p0)) (gd (inB (IntKind.wrap IntKind.i64 (IntKind.wrap IntKind.i64 ((4 : Int) * p1) + (2 : Int))) (List.length p0)) (gd (inB (IntKind.wrap IntKind.i64 (IntKind.wrap IntKind.i64 ((4 : Int) * p1) + (3 : Int))) (List.length p0)) (gd (inB p1 (64 : Nat)) (gd (decide (Int.toNat p1 < (64 : Nat)) && true) (K0 (T_101_0 p0 (IntKind.wrap IntKind.i64 (p1 + (1 : Int))) p2 p3 (List.set p4 (Int.toNat p1) (Sp.orI IntKind.u32 (Sp.orI IntKind.u32 (Sp.orI IntKind.u32 (IntKind.wrap IntKind.u32 (IntKind.wrap IntKind.u32 (List.getD p0 (Int.toNat (IntKind.wrap IntKind.i64 ((4 : Int) * p1))) (0 : Int)) * (16777216 : Int))) (IntKind.wrap IntKind.u32 (IntKind.wrap IntKind.u32 (List.getD p0 (Int.toNat (IntKind.wrap IntKind.i64 (IntKind.wrap IntKind.i64 ((4 : Int) * p1) + (1 : Int)))) (0 : Int)) * (65536 : Int)))) (IntKind.wrap IntKind.u32 (IntKind.wrap IntKind.u32 (List.getD p0 (Int.toNat (IntKind.wrap IntKind.i64 (IntKind.wrap IntKind.i64 ((4 : Int) * p1) + (2 : Int)))) (0 : Int)) * (256 : Int)))) (IntKind.wrap IntKind.u32 (List.getD p0 (Int.toNat (IntKind.wrap IntKind.i64 (IntKind.wrap IntKind.i64 ((4 : Int) * p1) + (3 : Int)))) (0 : Int)))))))))))) else K1 (Ex.exit (0 : Nat)) (X_101_0_0 p2 p3 p4) := by kernel_rfl
theorem Bgd_101_0 {R : Type} {c : Bool} {x : Option R} {y : Option Sp.E_101_0} {k0 : (List Int) → (List Int) → (List Int) → Option R} (h : x = Sp.B_101_0 y k0) : gd c x = Sp.B_101_0 (gd c y) k0 := by cases c; rfl; exact h
theorem Bcond_101_0 {R : Type} {c : Bool} {x x' : Option R} {y y' : Option Sp.E_101_0} {k0 : (List Int) → (List Int) → (List Int) → Option R} (h : x = Sp.B_101_0 y k0) (h' : x' = Sp.B_101_0 y' k0) : (bif c then x else x') = Sp.B_101_0 (bif c then y else y') k0 := by cases c; exact h'; exact h
theorem loop_101_0 {R : Type} (k : Ex → St → Option R) : ∀ (m : Nat) (p0 : List Int) (p1 : Int) (p2 : List Int) (p3 : List Int) (p4 : List Int), evLoopN (evCodeL sm_101 FU (ovr noO (evFn sm_101 fns FU 0)) .nil ir101_b0) (St.norm ir101_v0) m (T_101_0 p0 p1 p2 p3 p4) k = Sp.B_101_0 (Sp.L_101_0 m p0 p1 p2 p3 p4) (fun p2 p3 p4 => k (Ex.exit (0 : Nat)) (X_101_0_0 p2 p3 p4))
  | 0, _, _, _, _, _ => rfl
  | m + 1, p0, p1, p2, p3, p4 => by
    rw [evLoopN_succ, body_101_0, Sp.L_101_0]
    repeat' first | apply Bgd_101_0 | apply Bcond_101_0 | exact loop_101_0 k m _ _ _ _ _ | rfl
theorem ok_101_0 {R : Type} (T : St) (k : Ex → St → Option R) (r : R) (h0 : o_101_0 G_101_0 T k = some r) : evLoopN (evCode sm_101 FU (evFn sm_101 fns FU 0) ir101_b0) (St.norm ir101_v0) FU T k = some r := by
  obtain ⟨p0, p1, p2, p3, p4, rfl, h⟩ := o_101_0_inv h0
  refine evLoopN_L (t := .nil) noO_ok trivial _ _ _ _ ?_
  rw [loop_101_0]
  exact h
theorem OK_101_101_0 {R : Type} (T : St) (k : Ex → St → Option R) (r : R) (h : O_101_101_0 T k = some r) : evLoopN (evCode sm_101 FU (evFn sm_101 fns FU 0) ir101_b0) (St.norm ir101_v0) FU T k = some r := ok_101_0 T k r h
theorem body_101_1 {R : Type} (K0 : St → Option R) (K1 : Ex → St → Option R) (p0 : Int) (p1 : List Int) (p2 : List Int) (p3 : List Int) : evLB (evCodeL sm_101 FU (ovr noO (evFn sm_101 fns FU 0)) .nil ir101_b1) (St.norm ir101_v1) (T_101_1 p0 p1 p2 p3) K0 K1 =
  bif decide (p0 < (64 : Int)) then gd (inB (IntKind.wrap IntKind.i64 (p0 - (15 : Int))) (64 : Nat)) (gd (decide (Int.toNat (IntKind.wrap IntKind.i64 (p0 - (15 : Int))) < (64 : Nat)) && true) (gd (inB (IntKind.wrap IntKind.i64 (p0 - (2 : Int))) (64 : Nat)) (gd (decide (Int.toNat (IntKind.wrap IntKind.i64 (p0 - (2 : Int))) < (64 : Nat)) && true) (gd (Sp.p_105 (List.getD p3 (Int.toNat (IntKind.wrap IntKind.i64 (p0 - (2 : Int)))) (0 : Int)) (17 : Int)) (gd (Sp.p_105 (List.getD p3 (Int.toNat (IntKind.wrap IntKind.i64 (p0 - (2 : Int)))) (0 : Int)) (19 : Int)) (gd (inB (IntKind.wrap IntKind.i64 (p0 - (7 : Int))) (64 : Nat)) (gd (decide (Int.toNat (IntKind.wrap IntKind.i64 (p0 - (7 : Int))) < (64 : Nat)) && true) (gd (Sp.p_105 (List.getD p3 (Int.toNat (IntKind.wrap IntKind.i64 (p0 - (15 : Int)))) (0 : Int)) (7 : Int)) (gd (Sp.p_105 (List.getD p3 (Int.toNat (IntKind.wrap IntKind.i64 (p0 - (15 : Int)))) (0 : Int)) (18 : Int)) (gd (inB (IntKind.wrap IntKind.i64 (p0 - (16 : Int))) (64 : Nat)) (gd (decide (Int.toNat (IntKind.wrap IntKind.i64 (p0 - (16 : Int))) < (64 : Nat)) && true) (gd (inB p0 (64 : Nat)) (gd (decide (Int.toNat p0 < (64 : Nat)) && true) (K0 (T_101_1 (IntKind.wrap IntKind.i64 (p0 + (1 : Int))) p1 p2 (List.set p3 (Int.toNat p0) (IntKind.wrap IntKind.u32 (IntKind.wrap IntKind.u32 (IntKind.wrap IntKind.u32 (Sp.xorI IntKind.u32 (Sp.xorI IntKind.u32 ((Sp.v_105 (List.getD p3 (Int.toNat (IntKind.wrap IntKind.i64 (p0 - (2 : Int)))) (0 : Int)) (17 : Int)).1) ((Sp.v_105 (List.getD p3 (Int.toNat (IntKind.wrap IntKind.i64 (p0 - (2 : Int)))) (0 : Int)) (19 : Int)).1)) (Int.fdiv (List.getD p3 (Int.toNat (IntKind.wrap IntKind.i64 (p0 - (2 : Int)))) (0 : Int)) (1024 : Int)) + List.getD p3 (Int.toNat (IntKind.wrap IntKind.i64 (p0 - (7 : Int)))) (0 : Int)) + Sp.xorI IntKind.u32 (Sp.xorI IntKind.u32 ((Sp.v_105 (List.getD p3 (Int.toNat (IntKind.wrap IntKind.i64 (p0 - (15 : Int)))) (0 : Int)) (7 : Int)).1) ((Sp.v_105 (List.getD p3 (Int.toNat (IntKind.wrap IntKind.i64 (p0 - (15 : Int)))) (0 : Int)) (18 : Int)).1)) (Int.fdiv (List.getD p3 (Int.toNat (IntKind.wrap IntKind.i64 (p0 - (15 : Int)))) (0 : Int)) (8 : Int))) + List.getD p3 (Int.toNat (IntKind.wrap IntKind.i64 (p0 - (16 : Int)))) (0 : Int))))))))))))))))))) else K1 (Ex.exit (2 : Nat)) (X_101_1_0 p1 p2 p3) := by kernel_rfl
theorem Bgd_101_1 {R : Type} {c : Bool} {x : Option R} {y : Option Sp.E_101_1} {k0 : (List Int) → (List Int) → (List Int) → Option R} (h : x = Sp.B_101_1 y k0) : gd c x = Sp.B_101_1 (gd c y) k0 := by cases c; rfl; exact h
theorem Bcond_101_1 {R : Type} {c : Bool} {x x' : Option R} {y y' : Option Sp.E_101_1} {k0 : (List Int) → (List Int) → (List Int) → Option R} (h : x = Sp.B_101_1 y k0) (h' : x' = Sp.B_101_1 y' k0) : (bif c then x else x') = Sp.B_101_1 (bif c then y else y') k0 := by cases c; exact h'; exact h
theorem loop_101_1 {R : Type} (k : Ex → St → Option R) : ∀ (m : Nat) (p0 : Int) (p1 : List Int) (p2 : List Int) (p3 : List Int), evLoopN (evCodeL sm_101 FU (ovr noO (evFn sm_101 fns FU 0)) .nil ir101_b1) (St.norm ir101_v1) m (T_101_1 p0 p1 p2 p3) k = Sp.B_101_1 (Sp.L_101_1 m p0 p1 p2 p3) (fun p1 p2 p3 => k (Ex.exit (2 : Nat)) (X_101_1_0 p1 p2 p3))
  | 0, _, _, _, _ => rfl
  | m + 1, p0, p1, p2, p3 => by
    rw [evLoopN_succ, body_101_1, Sp.L_101_1]
    repeat' first | apply Bgd_101_1 | apply Bcond_101_1 | exact loop_101_1 k m _ _ _ _ | rfl
theorem ok_101_1 {R : Type} (T : St) (k : Ex → St → Option R) (r : R) (h0 : o_101_1 G_101_1 T k = some r) : evLoopN (evCode sm_101 FU (evFn sm_101 fns FU 0) ir101_b1) (St.norm ir101_v1) FU T k = some r := by
  obtain ⟨p0, p1, p2, p3, rfl, h⟩ := o_101_1_inv h0
  refine evLoopN_L (t := .nil) noO_ok trivial _ _ _ _ ?_
  rw [loop_101_1]
  exact h
theorem OK_101_101_1 {R : Type} (T : St) (k : Ex → St → Option R) (r : R) (h : O_101_101_1 T k = some r) : evLoopN (evCode sm_101 FU (evFn sm_101 fns FU 0) ir101_b1) (St.norm ir101_v1) FU T k = some r := ok_101_1 T k r h
theorem body_101_2 {R : Type} (K0 : St → Option R) (K1 : Ex → St → Option R) (p0 : Int) (p1 : List Int) (p2 : List Int) (p3 : List Int) (p4 : List Int) (p5 : List Int) : evLB (evCodeL sm_101 FU (ovr noO (evFn sm_101 fns FU 0)) .nil ir101_b2) (St.norm ir101_v2) (T_101_2 p0 p1 p2 p3 p4 p5) K0 K1 =
  bif decide (p0 < (64 : Int)) then gd (Sp.p_105 (List.getD p5 (4 : Nat) (0 : Int)) (6 : Int)) (gd (Sp.p_105 (List.getD p5 (4 : Nat) (0 : Int)) (11 : Int)) (gd (Sp.p_105 (List.getD p5 (4 : Nat) (0 : Int)) (25 : Int)) (gd (inB p0 (64 : Nat)) (gd (decide (Int.toNat p0 < (64 : Nat)) && true) (gd (inB p0 (64 : Nat)) (gd (decide (Int.toNat p0 < (64 : Nat)) && true) (gd (Sp.p_105 (List.getD p5 (0 : Nat) (0 : Int)) (2 : Int)) (gd (Sp.p_105 (List.getD p5 (0 : Nat) (0 : Int)) (13 : Int)) (gd (Sp.p_105 (List.getD p5 (0 : Nat) (0 : Int)) (22 : Int)) (K0 (T_101_2 (IntKind.wrap IntKind.i64 (p0 + (1 : Int))) p1 p2 p3 p4 [IntKind.wrap IntKind.u32 (IntKind.wrap IntKind.u32 (IntKind.wrap IntKind.u32 (IntKind.wrap IntKind.u32 (IntKind.wrap IntKind.u32 (List.getD p5 (7 : Nat) (0 : Int) + Sp.xorI IntKind.u32 (Sp.xorI IntKind.u32 ((Sp.v_105 (List.getD p5 (4 : Nat) (0 : Int)) (6 : Int)).1) ((Sp.v_105 (List.getD p5 (4 : Nat) (0 : Int)) (11 : Int)).1)) ((Sp.v_105 (List.getD p5 (4 : Nat) (0 : Int)) (25 : Int)).1)) + Sp.xorI IntKind.u32 (Sp.andI IntKind.u32 (List.getD p5 (4 : Nat) (0 : Int)) (List.getD p5 (5 : Nat) (0 : Int))) (Sp.andI IntKind.u32 (Sp.xorI IntKind.u32 (4294967295 : Int) (List.getD p5 (4 : Nat) (0 : Int))) (List.getD p5 (6 : Nat) (0 : Int)))) + List.getD p4 (Int.toNat p0) (0 : Int)) + List.getD p3 (Int.toNat p0) (0 : Int)) + IntKind.wrap IntKind.u32 (Sp.xorI IntKind.u32 (Sp.xorI IntKind.u32 ((Sp.v_105 (List.getD p5 (0 : Nat) (0 : Int)) (2 : Int)).1) ((Sp.v_105 (List.getD p5 (0 : Nat) (0 : Int)) (13 : Int)).1)) ((Sp.v_105 (List.getD p5 (0 : Nat) (0 : Int)) (22 : Int)).1) + Sp.xorI IntKind.u32 (Sp.xorI IntKind.u32 (Sp.andI IntKind.u32 (List.getD p5 (0 : Nat) (0 : Int)) (List.getD p5 (1 : Nat) (0 : Int))) (Sp.andI IntKind.u32 (List.getD p5 (0 : Nat) (0 : Int)) (List.getD p5 (2 : Nat) (0 : Int)))) (Sp.andI IntKind.u32 (List.getD p5 (1 : Nat) (0 : Int)) (List.getD p5 (2 : Nat) (0 : Int))))), List.getD p5 (0 : Nat) (0 : Int), List.getD p5 (1 : Nat) (0 : Int), List.getD p5 (2 : Nat) (0 : Int), IntKind.wrap IntKind.u32 (List.getD p5 (3 : Nat) (0 : Int) + IntKind.wrap IntKind.u32 (IntKind.wrap IntKind.u32 (IntKind.wrap IntKind.u32 (IntKind.wrap IntKind.u32 (List.getD p5 (7 : Nat) (0 : Int) + Sp.xorI IntKind.u32 (Sp.xorI IntKind.u32 ((Sp.v_105 (List.getD p5 (4 : Nat) (0 : Int)) (6 : Int)).1) ((Sp.v_105 (List.getD p5 (4 : Nat) (0 : Int)) (11 : Int)).1)) ((Sp.v_105 (List.getD p5 (4 : Nat) (0 : Int)) (25 : Int)).1)) + Sp.xorI IntKind.u32 (Sp.andI IntKind.u32 (List.getD p5 (4 : Nat) (0 : Int)) (List.getD p5 (5 : Nat) (0 : Int))) (Sp.andI IntKind.u32 (Sp.xorI IntKind.u32 (4294967295 : Int) (List.getD p5 (4 : Nat) (0 : Int))) (List.getD p5 (6 : Nat) (0 : Int)))) + List.getD p4 (Int.toNat p0) (0 : Int)) + List.getD p3 (Int.toNat p0) (0 : Int))), List.getD p5 (4 : Nat) (0 : Int), List.getD p5 (5 : Nat) (0 : Int), List.getD p5 (6 : Nat) (0 : Int)]))))))))))) else K1 (Ex.exit (4 : Nat)) (X_101_2_0 p1 p2 p5) := by kernel_rfl
theorem Bgd_101_2 {R : Type} {c : Bool} {x : Option R} {y : Option Sp.E_101_2} {k0 : (List Int) → (List Int) → (List Int) → Option R} (h : x = Sp.B_101_2 y k0) : gd c x = Sp.B_101_2 (gd c y) k0 := by cases c; rfl; exact h
theorem Bcond_101_2 {R : Type} {c : Bool} {x x' : Option R} {y y' : Option Sp.E_101_2} {k0 : (List Int) → (List Int) → (List Int) → Option R} (h : x = Sp.B_101_2 y k0) (h' : x' = Sp.B_101_2 y' k0) : (bif c then x else x') = Sp.B_101_2 (bif c then y else y') k0 := by cases c; exact h'; exact h
theorem loop_101_2 {R : Type} (k : Ex → St → Option R) : ∀ (m : Nat) (p0 : Int) (p1 : List Int) (p2 : List Int) (p3 : List Int) (p4 : List Int) (p5 : List Int), evLoopN (evCodeL sm_101 FU (ovr noO (evFn sm_101 fns FU 0)) .nil ir101_b2) (St.norm ir101_v2) m (T_101_2 p0 p1 p2 p3 p4 p5) k = Sp.B_101_2 (Sp.L_101_2 m p0 p1 p2 p3 p4 p5) (fun p1 p2 p5 => k (Ex.exit (4 : Nat)) (X_101_2_0 p1 p2 p5))
  | 0, _, _, _, _, _, _ => rfl
  | m + 1, p0, p1, p2, p3, p4, p5 => by
    rw [evLoopN_succ, body_101_2, Sp.L_101_2]
    repeat' first | apply Bgd_101_2 | apply Bcond_101_2 | exact loop_101_2 k m _ _ _ _ _ _ | rfl
theorem ok_101_2 {R : Type} (T : St) (k : Ex → St → Option R) (r : R) (h0 : o_101_2 G_101_2 T k = some r) : evLoopN (evCode sm_101 FU (evFn sm_101 fns FU 0) ir101_b2) (St.norm ir101_v2) FU T k = some r := by
  obtain ⟨p0, p1, p2, p3, p4, p5, rfl, h⟩ := o_101_2_inv h0
  refine evLoopN_L (t := .nil) noO_ok trivial _ _ _ _ ?_
  rw [loop_101_2]
  exact h
theorem OK_101_101_2 {R : Type} (T : St) (k : Ex → St → Option R) (r : R) (h : O_101_101_2 T k = some r) : evLoopN (evCode sm_101 FU (evFn sm_101 fns FU 0) ir101_b2) (St.norm ir101_v2) FU T k = some r := ok_101_2 T k r h
theorem body_101_3 {R : Type} (K0 : St → Option R) (K1 : Ex → St → Option R) (p0 : Int) (p1 : List Int) (p2 : List Int) (p3 : List Int) : evLB (evCodeL sm_101 FU (ovr noO (evFn sm_101 fns FU 0)) .nil ir101_b3) (St.norm ir101_v3) (T_101_3 p0 p1 p2 p3) K0 K1 =
  bif decide (p0 < (8 : Int)) then gd (inB p0 (8 : Nat)) (gd (decide (Int.toNat p0 < (8 : Nat)) && true) (gd (inB p0 (8 : Nat)) (gd (decide (Int.toNat p0 < (8 : Nat)) && true) (gd (inB p0 (8 : Nat)) (gd (decide (Int.toNat p0 < (8 : Nat)) && true) (K0 (T_101_3 (IntKind.wrap IntKind.i64 (p0 + (1 : Int))) (List.set p1 (Int.toNat p0) (IntKind.wrap IntKind.u32 (List.getD p1 (Int.toNat p0) (0 : Int) + List.getD p3 (Int.toNat p0) (0 : Int)))) p2 p3))))))) else K1 (Ex.exit (6 : Nat)) (X_101_3_0 p1 p2) := by kernel_rfl
theorem Bgd_101_3 {R : Type} {c : Bool} {x : Option R} {y : Option Sp.E_101_3} {k0 : (List Int) → (List Int) → Option R} (h : x = Sp.B_101_3 y k0) : gd c x = Sp.B_101_3 (gd c y) k0 := by cases c; rfl; exact h
theorem Bcond_101_3 {R : Type} {c : Bool} {x x' : Option R} {y y' : Option Sp.E_101_3} {k0 : (List Int) → (List Int) → Option R} (h : x = Sp.B_101_3 y k0) (h' : x' = Sp.B_101_3 y' k0) : (bif c then x else x') = Sp.B_101_3 (bif c then y else y') k0 := by cases c; exact h'; exact h
theorem loop_101_3 {R : Type} (k : Ex → St → Option R) : ∀ (m : Nat) (p0 : Int) (p1 : List Int) (p2 : List Int) (p3 : List Int), evLoopN (evCodeL sm_101 FU (ovr noO (evFn sm_101 fns FU 0)) .nil ir101_b3) (St.norm ir101_v3) m (T_101_3 p0 p1 p2 p3) k = Sp.B_101_3 (Sp.L_101_3 m p0 p1 p2 p3) (fun p1 p2 => k (Ex.exit (6 : Nat)) (X_101_3_0 p1 p2))
  | 0, _, _, _, _ => rfl
  | m + 1, p0, p1, p2, p3 => by
    rw [evLoopN_succ, body_101_3, Sp.L_101_3]
    repeat' first | apply Bgd_101_3 | apply Bcond_101_3 | exact loop_101_3 k m _ _ _ _ | rfl
theorem ok_101_3 {R : Type} (T : St) (k : Ex → St → Option R) (r : R) (h0 : o_101_3 G_101_3 T k = some r) : evLoopN (evCode sm_101 FU (evFn sm_101 fns FU 0) ir101_b3) (St.norm ir101_v3) FU T k = some r := by
  obtain ⟨p0, p1, p2, p3, rfl, h⟩ := o_101_3_inv h0
  refine evLoopN_L (t := .nil) noO_ok trivial _ _ _ _ ?_
  rw [loop_101_3]
  exact h
theorem OK_101_101_3 {R : Type} (T : St) (k : Ex → St → Option R) (r : R) (h : O_101_101_3 T k = some r) : evLoopN (evCode sm_101 FU (evFn sm_101 fns FU 0) ir101_b3) (St.norm ir101_v3) FU T k = some r := ok_101_3 T k r h
noncomputable def F_101 (a0 : (List Int)) (a1 : (List Int)) : Option ((List Int) × Unit) :=
  Sp.B_101_0 (Sp.L_101_0 (4611686018427387904 : Nat) a1 (0 : Int) a0 (List.replicate (8 : Nat) (0 : Int)) (List.replicate (64 : Nat) (0 : Int))) fun y11 y12 y13 => Sp.B_101_1 (Sp.L_101_1 (4611686018427387904 : Nat) (16 : Int) y11 y12 y13) fun y14 y15 y16 => gd Sp.p_106 (Sp.B_101_2 (Sp.L_101_2 (4611686018427387904 : Nat) (0 : Int) y14 y15 y16 (Sp.v_106.1) y14) fun y17 y18 y19 => Sp.B_101_3 (Sp.L_101_3 (4611686018427387904 : Nat) (0 : Int) y17 y18 y19) fun y20 y21 => some (y20, PUnit.unit))
theorem fn_101 (a0 : (List Int)) (a1 : (List Int)) : evFnL sm_101 FU (ovr noO (evFn sm_101 fns FU 0)) (ir101_t O_101_101_0 O_101_101_1 O_101_101_2 O_101_101_3) ir101 (ofH [(.arr 8 (.int .u32)), (.slice (.int .u8))] (a0, a1, ())) [] (pureK [(.arr 8 (.int .u32))]) = F_101 a0 a1 := by kernel_rfl
noncomputable def Sp.p_101 (a0 : (List Int)) (a1 : (List Int)) : Bool := (F_101 a0 a1).isSome
noncomputable def Sp.v_101 (a0 : (List Int)) (a1 : (List Int)) : (List Int) × Unit := (F_101 a0 a1).getD (dfH [(.arr 8 (.int .u32))])
noncomputable def s_101 : Summ := shN [(.arr 8 (.int .u32)), (.slice (.int .u8))] [(.arr 8 (.int .u32))] (fun x => Sp.p_101 x.1 x.2.1) (fun x => Sp.v_101 x.1 x.2.1)
theorem pv_101 (a0 : (List Int)) (a1 : (List Int)) {y : (List Int) × Unit} (h : F_101 a0 a1 = some y) : Sp.p_101 a0 a1 = true ∧ Sp.v_101 a0 a1 = y := ⟨by rw [Sp.p_101, h]; rfl, by rw [Sp.v_101, h]; rfl⟩
theorem run_101 (x : HDen [(.arr 8 (.int .u32)), (.slice (.int .u8))]) (y : HDen [(.arr 8 (.int .u32))]) (h : F_101 x.1 x.2.1 = some y) : evFn sm_101 fns FU 1 101 (ofH [(.arr 8 (.int .u32)), (.slice (.int .u8))] x) [] (pureK [(.arr 8 (.int .u32))]) = some y :=
  evFnL_sound (fn := ir101) (t := (ir101_t O_101_101_0 O_101_101_1 O_101_101_2 O_101_101_3)) (o := noO) rfl noO_ok (ir101_tok (fun T k r => OK_101_101_0 T k r) (fun T k r => OK_101_101_1 T k r) (fun T k r => OK_101_101_2 T k r) (fun T k r => OK_101_101_3 T k r)) ((fn_101 _ _).trans h)
end
end Go.Ev
namespace Go.Ev
open Go
set_option maxRecDepth 100000
set_option maxHeartbeats 4000000
set_option linter.unusedVariables false
noncomputable section
abbrev Zy83_0 : Ty := (Ty.arr (32 : Nat) (Ty.int IntKind.u8))
abbrev Zy83_1 : Ty := (Ty.arr (8 : Nat) (Ty.int IntKind.u32))

noncomputable def sm_83 : Nat → Option Summ := fun f => bif Nat.beq f 100 then some s_100 else bif Nat.beq f 101 then some s_101 else none
noncomputable def T_83_0 (p0 : List Int) (p1 : Int) (p2 : List Int) (p3 : List Int) : St := St.mk ([jk, jk, CV.ptr (0 : Nat) [], CV.ptr (1 : Nat) [], CV.pure (Ty.slice (Ty.int IntKind.u8)) p0, CV.int IntKind.i64 p1] ++ (jl 36)) [Blk.mem (CV.pure Zy83_0 p2), Blk.mem (CV.pure Zy83_1 p3)] (0 : Nat)
noncomputable def X_83_0_0 (p2 : List Int) (p3 : List Int) : St := St.mk ([jk, jk, CV.ptr (0 : Nat) [], CV.ptr (1 : Nat) []] ++ (jl 38)) [Blk.mem (CV.pure Zy83_0 p2), Blk.mem (CV.pure Zy83_1 p3)] (0 : Nat)
inductive Sp.E_83_0 where
  | e0 (p2 : List Int) (p3 : List Int)
noncomputable def Sp.B_83_0 {R : Type} (r : Option Sp.E_83_0) (k0 : (List Int) → (List Int) → Option R) : Option R := match r with
  | none => none
  | some (.e0 p2 p3) => k0 p2 p3
noncomputable def Sp.L_83_0 : Nat → (List Int) → (Int) → (List Int) → (List Int) → Option Sp.E_83_0
  | 0, _, _, _, _ => none
  | m + 1, p0, p1, p2, p3 => bif decide (p1 < (↑(List.length p0) : Int)) then gd (sl3 p1 (IntKind.wrap IntKind.i64 (p1 + (64 : Int))) (↑(List.length p0) : Int)) (gd (Sp.p_101 p3 (List.take (Int.toNat (IntKind.wrap IntKind.i64 (p1 + (64 : Int))) - Int.toNat p1) (List.drop (Int.toNat p1) p0))) (Sp.L_83_0 m p0 (IntKind.wrap IntKind.i64 (p1 + (64 : Int))) p2 ((Sp.v_101 p3 (List.take (Int.toNat (IntKind.wrap IntKind.i64 (p1 + (64 : Int))) - Int.toNat p1) (List.drop (Int.toNat p1) p0))).1))) else some (Sp.E_83_0.e0 p2 p3)
noncomputable def G_83_0 {R : Type} (p0 : List Int) (p1 : Int) (p2 : List Int) (p3 : List Int) (k : Ex → St → Option R) : Option R := Sp.B_83_0 (Sp.L_83_0 FU p0 p1 p2 p3) (fun p2 p3 => k (Ex.exit (0 : Nat)) (X_83_0_0 p2 p3))
noncomputable def o_83_0 {R : Type} (G : (List Int) → (Int) → (List Int) → (List Int) → (Ex → St → Option R) → Option R) : St → (Ex → St → Option R) → Option R := fun T k => match T.sl.getD 2 .junk, T.sl.getD 3 .junk, T.sl.getD 4 .junk, T.sl.getD 5 .junk, T.hp with
  | CV.ptr (0 : Nat) [], CV.ptr (1 : Nat) [], CV.pure (Ty.slice (Ty.int IntKind.u8)) p0, CV.int IntKind.i64 p1, ((Blk.mem (CV.pure (Ty.arr (32 : Nat) (Ty.int IntKind.u8)) p2)) :: (Blk.mem (CV.pure (Ty.arr (8 : Nat) (Ty.int IntKind.u32)) p3)) :: []) => gd (shapeOK T 42 [2, 3, 4, 5] (0 : Nat)) (G p0 p1 p2 p3 k)
  | _, _, _, _, _ => none
theorem o_83_0_inv {R : Type} {G : (List Int) → (Int) → (List Int) → (List Int) → (Ex → St → Option R) → Option R} {T : St} {k : Ex → St → Option R} {r : R} (h : o_83_0 G T k = some r) : ∃ p0 p1 p2 p3, T = T_83_0 p0 p1 p2 p3 ∧ G p0 p1 p2 p3 k = some r := by
  unfold o_83_0 at h
  split at h
  · obtain ⟨hs, h'⟩ := gd_some h
    refine ⟨_, _, _, _, (st_of (asg := [(2, _), (3, _), (4, _), (5, _)]) hs ⟨by assumption, by assumption, by assumption, by assumption, trivial⟩ (by assumption)).trans ?_, h'⟩
    kernel_rfl
  · cases h
noncomputable def T_83_1 (p0 : Int) (p1 : List Int) (p2 : List Int) (p3 : List Int) : St := St.mk ([jk, jk, CV.ptr (0 : Nat) [], CV.ptr (1 : Nat) [], jk, jk, CV.ptr (2 : Nat) [], CV.int IntKind.i64 p0] ++ (jl 34)) [Blk.mem (CV.pure Zy83_0 p1), Blk.mem (CV.pure Zy83_1 p2), Blk.mem (CV.pure Zy83_0 p3)] (0 : Nat)
noncomputable def X_83_1_0 (p1 : List Int) (p3 : List Int) : St := St.mk ([jk, jk, CV.ptr (0 : Nat) [], jk, jk, jk, CV.ptr (1 : Nat) []] ++ (jl 35)) [Blk.mem (CV.pure Zy83_0 p1), Blk.mem (CV.pure Zy83_0 p3)] (0 : Nat)
inductive Sp.E_83_1 where
  | e0 (p1 : List Int) (p3 : List Int)
noncomputable def Sp.B_83_1 {R : Type} (r : Option Sp.E_83_1) (k0 : (List Int) → (List Int) → Option R) : Option R := match r with
  | none => none
  | some (.e0 p1 p3) => k0 p1 p3
noncomputable def Sp.L_83_1 : Nat → (Int) → (List Int) → (List Int) → (List Int) → Option Sp.E_83_1
  | 0, _, _, _, _ => none
  | m + 1, p0, p1, p2, p3 => bif decide (p0 < (32 : Int)) then gd (inB (IntKind.wrap IntKind.i64 (Int.tdiv p0 (4 : Int))) (8 : Nat)) (gd (decide (Int.toNat (IntKind.wrap IntKind.i64 (Int.tdiv p0 (4 : Int))) < (8 : Nat)) && true) (gd (decide ((0 : Int) ≤ IntKind.wrap IntKind.u64 (IntKind.wrap IntKind.i64 ((24 : Int) - IntKind.wrap IntKind.i64 (Int.tmod p0 (4 : Int) * (8 : Int)))))) (gd (inB p0 (32 : Nat)) (gd (decide (Int.toNat p0 < (32 : Nat)) && true) (Sp.L_83_1 m (IntKind.wrap IntKind.i64 (p0 + (1 : Int))) p1 p2 (List.set p3 (Int.toNat p0) (IntKind.wrap IntKind.u8 (Int.fdiv (List.getD p2 (Int.toNat (IntKind.wrap IntKind.i64 (Int.tdiv p0 (4 : Int)))) (0 : Int)) ((2 : Int) ^ Nat.min (Int.toNat (IntKind.wrap IntKind.u64 (IntKind.wrap IntKind.i64 ((24 : Int) - IntKind.wrap IntKind.i64 (Int.tmod p0 (4 : Int) * (8 : Int)))))) (32 : Nat)))))))))) else some (Sp.E_83_1.e0 p1 p3)
noncomputable def G_83_1 {R : Type} (p0 : Int) (p1 : List Int) (p2 : List Int) (p3 : List Int) (k : Ex → St → Option R) : Option R := Sp.B_83_1 (Sp.L_83_1 FU p0 p1 p2 p3) (fun p1 p3 => k (Ex.exit (2 : Nat)) (X_83_1_0 p1 p3))
noncomputable def o_83_1 {R : Type} (G : (Int) → (List Int) → (List Int) → (List Int) → (Ex → St → Option R) → Option R) : St → (Ex → St → Option R) → Option R := fun T k => match T.sl.getD 2 .junk, T.sl.getD 3 .junk, T.sl.getD 6 .junk, T.sl.getD 7 .junk, T.hp with
  | CV.ptr (0 : Nat) [], CV.ptr (1 : Nat) [], CV.ptr (2 : Nat) [], CV.int IntKind.i64 p0, ((Blk.mem (CV.pure (Ty.arr (32 : Nat) (Ty.int IntKind.u8)) p1)) :: (Blk.mem (CV.pure (Ty.arr (8 : Nat) (Ty.int IntKind.u32)) p2)) :: (Blk.mem (CV.pure (Ty.arr (32 : Nat) (Ty.int IntKind.u8)) p3)) :: []) => gd (shapeOK T 42 [2, 3, 6, 7] (0 : Nat)) (G p0 p1 p2 p3 k)
  | _, _, _, _, _ => none
theorem o_83_1_inv {R : Type} {G : (Int) → (List Int) → (List Int) → (List Int) → (Ex → St → Option R) → Option R} {T : St} {k : Ex → St → Option R} {r : R} (h : o_83_1 G T k = some r) : ∃ p0 p1 p2 p3, T = T_83_1 p0 p1 p2 p3 ∧ G p0 p1 p2 p3 k = some r := by
  unfold o_83_1 at h
  split at h
  · obtain ⟨hs, h'⟩ := gd_some h
    refine ⟨_, _, _, _, (st_of (asg := [(2, _), (3, _), (6, _), (7, _)]) hs ⟨by assumption, by assumption, by assumption, by assumption, trivial⟩ (by assumption)).trans ?_, h'⟩
    kernel_rfl
  · cases h
noncomputable def O_83_83_0 {R : Type} : St → (Ex → St → Option R) → Option R := fun T k => o_83_0 G_83_0 T k
noncomputable def O_83_83_1 {R : Type} : St → (Ex → St → Option R) → Option R := fun T k => o_83_1 G_83_1 T k
theorem body_83_0 {R : Type} (K0 : St → Option R) (K1 : Ex → St → Option R) (p0 : List Int) (p1 : Int) (p2 : List Int) (p3 : List Int) : evLB (evCodeL sm_83 FU (ovr noO (evFn sm_83 fns FU 0)) .nil ir83_b0) (St.norm ir83_v0) (T_83_0 p0 p1 p2 p3) K0 K1 =
  bif decide (p1 < (↑(List.length p0) : Int)) then gd (sl3 p1 (IntKind.wrap IntKind.i64 (p1 + (64 : Int))) (↑(List.length p0) : Int)) (gd (Sp.p_101 p3 (List.take (Int.toNat (IntKind.wrap IntKind.i64 (p1 + (64 : Int))) - Int.toNat p1) (List.drop (Int.toNat p1) p0))) (K0 (T_83_0 p0 (IntKind.wrap IntKind.i64 (p1 + (64 : Int))) p2 ((Sp.v_101 p3 (List.take (Int.toNat (IntKind.wrap IntKind.i64 (p1 + (64 : Int))) - Int.toNat p1) (List.drop (Int.toNat p1) p0))).1)))) else K1 (Ex.exit (0 : Nat)) (X_83_0_0 p2 p3) := by kernel_rfl
theorem Bgd_83_0 {R : Type} {c : Bool} {x : Option R} {y : Option Sp.E_83_0} {k0 : (List Int) → (List Int) → Option R} (h : x = Sp.B_83_0 y k0) : gd c x = Sp.B_83_0 (gd c y) k0 := by cases c; rfl; exact h
theorem Bcond_83_0 {R : Type} {c : Bool} {x x' : Option R} {y y' : Option Sp.E_83_0} {k0 : (List Int) → (List Int) → Option R} (h : x = Sp.B_83_0 y k0) (h' : x' = Sp.B_83_0 y' k0) : (bif c then x else x') = Sp.B_83_0 (bif c then y else y') k0 := by cases c; exact h'; exact h
theorem loop_83_0 {R : Type} (k : Ex → St → Option R) : ∀ (m : Nat) (p0 : List Int) (p1 : Int) (p2 : List Int) (p3 : List Int), evLoopN (evCodeL sm_83 FU (ovr noO (evFn sm_83 fns FU 0)) .nil ir83_b0) (St.norm ir83_v0) m (T_83_0 p0 p1 p2 p3) k = Sp.B_83_0 (Sp.L_83_0 m p0 p1 p2 p3) (fun p2 p3 => k (Ex.exit (0 : Nat)) (X_83_0_0 p2 p3))
  | 0, _, _, _, _ => rfl
  | m + 1, p0, p1, p2, p3 => by
    rw [evLoopN_succ, body_83_0, Sp.L_83_0]
    repeat' first | apply Bgd_83_0 | apply Bcond_83_0 | exact loop_83_0 k m _ _ _ _ | rfl
theorem ok_83_0 {R : Type} (T : St) (k : Ex → St → Option R) (r : R) (h0 : o_83_0 G_83_0 T k = some r) : evLoopN (evCode sm_83 FU (evFn sm_83 fns FU 0) ir83_b0) (St.norm ir83_v0) FU T k = some r := by
  obtain ⟨p0, p1, p2, p3, rfl, h⟩ := o_83_0_inv h0
  refine evLoopN_L (t := .nil) noO_ok trivial _ _ _ _ ?_
  rw [loop_83_0]
  exact h
theorem OK_83_83_0 {R : Type} (T : St) (k : Ex → St → Option R) (r : R) (h : O_83_83_0 T k = some r) : evLoopN (evCode sm_83 FU (evFn sm_83 fns FU 0) ir83_b0) (St.norm ir83_v0) FU T k = some r := ok_83_0 T k r h
theorem body_83_1 {R : Type} (K0 : St → Option R) (K1 : Ex → St → Option R) (p0 : Int) (p1 : List Int) (p2 : List Int) (p3 : List Int) : evLB (evCodeL sm_83 FU (ovr noO (evFn sm_83 fns FU 0)) .nil ir83_b1) (St.norm ir83_v1) (T_83_1 p0 p1 p2 p3) K0 K1 =
  bif decide (p0 < (32 : Int)) then gd (inB (IntKind.wrap IntKind.i64 (Int.tdiv p0 (4 : Int))) (8 : Nat)) (gd (decide (Int.toNat (IntKind.wrap IntKind.i64 (Int.tdiv p0 (4 : Int))) < (8 : Nat)) && true) (gd (decide ((0 : Int) ≤ IntKind.wrap IntKind.u64 (IntKind.wrap IntKind.i64 ((24 : Int) - IntKind.wrap IntKind.i64 (Int.tmod p0 (4 : Int) * (8 : Int)))))) (gd (inB p0 (32 : Nat)) (gd (decide (Int.toNat p0 < (32 : Nat)) && true) (K0 (T_83_1 (IntKind.wrap IntKind.i64 (p0 + (1 : Int))) p1 p2 (List.set p3 (Int.toNat p0) (IntKind.wrap IntKind.u8 (Int.fdiv (List.getD p2 (Int.toNat (IntKind.wrap IntKind.i64 (Int.tdiv p0 (4 : Int)))) (0 : Int)) ((2 : Int) ^ Nat.min (Int.toNat (IntKind.wrap IntKind.u64 (IntKind.wrap IntKind.i64 ((24 : Int) - IntKind.wrap IntKind.i64 (Int.tmod p0 (4 : Int) * (8 : Int)))))) (32 : Nat))))))))))) else K1 (Ex.exit (2 : Nat)) (X_83_1_0 p1 p3) := by kernel_rfl
theorem Bgd_83_1 {R : Type} {c : Bool} {x : Option R} {y : Option Sp.E_83_1} {k0 : (List Int) → (List Int) → Option R} (h : x = Sp.B_83_1 y k0) : gd c x = Sp.B_83_1 (gd c y) k0 := by cases c; rfl; exact h
theorem Bcond_83_1 {R : Type} {c : Bool} {x x' : Option R} {y y' : Option Sp.E_83_1} {k0 : (List Int) → (List Int) → Option R} (h : x = Sp.B_83_1 y k0) (h' : x' = Sp.B_83_1 y' k0) : (bif c then x else x') = Sp.B_83_1 (bif c then y else y') k0 := by cases c; exact h'; exact h
theorem loop_83_1 {R : Type} (k : Ex → St → Option R) : ∀ (m : Nat) (p0 : Int) (p1 : List Int) (p2 : List Int) (p3 : List Int), evLoopN (evCodeL sm_83 FU (ovr noO (evFn sm_83 fns FU 0)) .nil ir83_b1) (St.norm ir83_v1) m (T_83_1 p0 p1 p2 p3) k = Sp.B_83_1 (Sp.L_83_1 m p0 p1 p2 p3) (fun p1 p3 => k (Ex.exit (2 : Nat)) (X_83_1_0 p1 p3))
  | 0, _, _, _, _ => rfl
  | m + 1, p0, p1, p2, p3 => by
    rw [evLoopN_succ, body_83_1, Sp.L_83_1]
    repeat' first | apply Bgd_83_1 | apply Bcond_83_1 | exact loop_83_1 k m _ _ _ _ | rfl
theorem ok_83_1 {R : Type} (T : St) (k : Ex → St → Option R) (r : R) (h0 : o_83_1 G_83_1 T k = some r) : evLoopN (evCode sm_83 FU (evFn sm_83 fns FU 0) ir83_b1) (St.norm ir83_v1) FU T k = some r := by
  obtain ⟨p0, p1, p2, p3, rfl, h⟩ := o_83_1_inv h0
  refine evLoopN_L (t := .nil) noO_ok trivial _ _ _ _ ?_
  rw [loop_83_1]
  exact h
theorem OK_83_83_1 {R : Type} (T : St) (k : Ex → St → Option R) (r : R) (h : O_83_83_1 T k = some r) : evLoopN (evCode sm_83 FU (evFn sm_83 fns FU 0) ir83_b1) (St.norm ir83_v1) FU T k = some r := ok_83_1 T k r h
noncomputable def F_83 (a0 : (List Int)) : Option ((List Int) × Unit) :=
  gd (Sp.p_100 a0) (Sp.B_83_0 (Sp.L_83_0 (4611686018427387904 : Nat) ((Sp.v_100 a0).1) (0 : Int) (List.replicate (32 : Nat) (0 : Int)) [(1779033703 : Int), (3144134277 : Int), (1013904242 : Int), (2773480762 : Int), (1359893119 : Int), (2600822924 : Int), (528734635 : Int), (1541459225 : Int)]) fun y4 y5 => Sp.B_83_1 (Sp.L_83_1 (4611686018427387904 : Nat) (0 : Int) y4 y5 (List.replicate (32 : Nat) (0 : Int))) fun y6 y7 => some (y7, PUnit.unit))
theorem fn_83 (a0 : (List Int)) : evFnL sm_83 FU (ovr noO (evFn sm_83 fns FU 0)) (ir83_t O_83_83_0 O_83_83_1) ir83 (ofH [(.slice (.int .u8))] (a0, ())) [] (pureK [(.arr 32 (.int .u8))]) = F_83 a0 := by kernel_rfl
noncomputable def Sp.p_83 (a0 : (List Int)) : Bool := (F_83 a0).isSome
noncomputable def Sp.v_83 (a0 : (List Int)) : (List Int) × Unit := (F_83 a0).getD (dfH [(.arr 32 (.int .u8))])
noncomputable def s_83 : Summ := shN [(.slice (.int .u8))] [(.arr 32 (.int .u8))] (fun x => Sp.p_83 x.1) (fun x => Sp.v_83 x.1)
theorem pv_83 (a0 : (List Int)) {y : (List Int) × Unit} (h : F_83 a0 = some y) : Sp.p_83 a0 = true ∧ Sp.v_83 a0 = y := ⟨by rw [Sp.p_83, h]; rfl, by rw [Sp.v_83, h]; rfl⟩
theorem run_83 (x : HDen [(.slice (.int .u8))]) (y : HDen [(.arr 32 (.int .u8))]) (h : F_83 x.1 = some y) : evFn sm_83 fns FU 1 83 (ofH [(.slice (.int .u8))] x) [] (pureK [(.arr 32 (.int .u8))]) = some y :=
  evFnL_sound (fn := ir83) (t := (ir83_t O_83_83_0 O_83_83_1)) (o := noO) rfl noO_ok (ir83_tok (fun T k r => OK_83_83_0 T k r) (fun T k r => OK_83_83_1 T k r)) ((fn_83 _).trans h)
end
end Go.Ev
namespace Go.Ev
open Go
set_option maxRecDepth 100000
set_option maxHeartbeats 4000000
set_option linter.unusedVariables false
noncomputable section
abbrev Zy49_0 : Ty := (Ty.arr (32 : Nat) (Ty.int IntKind.u8))
abbrev Zy49_1 : Ty := (Ty.slice (Ty.int IntKind.u32))

noncomputable def sm_49 : Nat → Option Summ := fun f => bif Nat.beq f 83 then some s_83 else none
noncomputable def T_49_82_1_0 (p0 : Int) (p1 : Int) (p2 : List Int) (p3 : List Int) (p4 : List Int) : St := St.mk ([CV.whole (2 : Nat), CV.whole (1 : Nat), jk, jk, jk, CV.int IntKind.i64 p0, CV.int IntKind.i64 p1] ++ (jl 23)) [Blk.mem (CV.pure Zy49_0 p2), Blk.vec (42 : Nat) (Ty.int IntKind.u32) p3, Blk.vec (5 : Nat) (Ty.int IntKind.u8) p4] (2 : Nat)
noncomputable def X_49_82_1_0_0 (p0 : Int) (p2 : List Int) (p3 : List Int) (p4 : List Int) : St := St.mk ([CV.whole (2 : Nat), CV.whole (1 : Nat), jk, jk, jk, CV.int IntKind.i64 p0] ++ (jl 24)) [Blk.mem (CV.pure Zy49_0 p2), Blk.vec (42 : Nat) (Ty.int IntKind.u32) p3, Blk.vec (5 : Nat) (Ty.int IntKind.u8) p4] (2 : Nat)
inductive Sp.E_49_82_1_0 where
  | e0 (p0 : Int) (p2 : List Int) (p3 : List Int) (p4 : List Int)
noncomputable def Sp.B_49_82_1_0 {R : Type} (r : Option Sp.E_49_82_1_0) (k0 : (Int) → (List Int) → (List Int) → (List Int) → Option R) : Option R := match r with
  | none => none
  | some (.e0 p0 p2 p3 p4) => k0 p0 p2 p3 p4
noncomputable def Sp.L_49_82_1_0 : Nat → (Int) → (Int) → (List Int) → (List Int) → (List Int) → Option Sp.E_49_82_1_0
  | 0, _, _, _, _, _ => none
  | m + 1, p0, p1, p2, p3, p4 => bif decide (p1 < (4 : Int)) then gd (inB p0 (List.length p3)) (gd (decide (Int.toNat p0 < List.length p3) && true) (gd (decide ((0 : Int) ≤ IntKind.wrap IntKind.i64 ((24 : Int) - IntKind.wrap IntKind.i64 ((8 : Int) * p1)))) (gd (room (List.length p4 + (1 : Nat)) (1 : Nat)) (Sp.L_49_82_1_0 m p0 (IntKind.wrap IntKind.i64 (p1 + (1 : Int))) p2 p3 (p4 ++ [IntKind.wrap IntKind.u8 (Int.fdiv (List.getD p3 (Int.toNat p0) (0 : Int)) ((2 : Int) ^ Nat.min (Int.toNat (IntKind.wrap IntKind.i64 ((24 : Int) - IntKind.wrap IntKind.i64 ((8 : Int) * p1)))) (32 : Nat)))]))))) else some (Sp.E_49_82_1_0.e0 p0 p2 p3 p4)
noncomputable def G_49_82_1_0 {R : Type} (p0 : Int) (p1 : Int) (p2 : List Int) (p3 : List Int) (p4 : List Int) (k : Ex → St → Option R) : Option R := Sp.B_49_82_1_0 (Sp.L_49_82_1_0 FU p0 p1 p2 p3 p4) (fun p0 p2 p3 p4 => k (Ex.exit (2 : Nat)) (X_49_82_1_0_0 p0 p2 p3 p4))
noncomputable def m_49_82_1_0 : St → Bool := fun T => match T.sl.getD 0 .junk, T.sl.getD 1 .junk, T.sl.getD 5 .junk, T.sl.getD 6 .junk, T.hp with
  | CV.whole (2 : Nat), CV.whole (1 : Nat), CV.int IntKind.i64 p0, CV.int IntKind.i64 p1, ((Blk.mem (CV.pure (Ty.arr (32 : Nat) (Ty.int IntKind.u8)) p2)) :: (Blk.vec (42 : Nat) (Ty.int IntKind.u32) p3) :: (Blk.vec (5 : Nat) (Ty.int IntKind.u8) p4) :: []) => shapeOK T 30 [0, 1, 5, 6] (2 : Nat)
  | _, _, _, _, _ => false
noncomputable def o_49_82_1_0 {R : Type} (G : (Int) → (Int) → (List Int) → (List Int) → (List Int) → (Ex → St → Option R) → Option R) : St → (Ex → St → Option R) → Option R := fun T k => match T.sl.getD 0 .junk, T.sl.getD 1 .junk, T.sl.getD 5 .junk, T.sl.getD 6 .junk, T.hp with
  | CV.whole (2 : Nat), CV.whole (1 : Nat), CV.int IntKind.i64 p0, CV.int IntKind.i64 p1, ((Blk.mem (CV.pure (Ty.arr (32 : Nat) (Ty.int IntKind.u8)) p2)) :: (Blk.vec (42 : Nat) (Ty.int IntKind.u32) p3) :: (Blk.vec (5 : Nat) (Ty.int IntKind.u8) p4) :: []) => gd (shapeOK T 30 [0, 1, 5, 6] (2 : Nat)) (G p0 p1 p2 p3 p4 k)
  | _, _, _, _, _ => none
theorem o_49_82_1_0_inv {R : Type} {G : (Int) → (Int) → (List Int) → (List Int) → (List Int) → (Ex → St → Option R) → Option R} {T : St} {k : Ex → St → Option R} {r : R} (h : o_49_82_1_0 G T k = some r) : ∃ p0 p1 p2 p3 p4, T = T_49_82_1_0 p0 p1 p2 p3 p4 ∧ G p0 p1 p2 p3 p4 k = some r := by
  unfold o_49_82_1_0 at h
  split at h
  · obtain ⟨hs, h'⟩ := gd_some h
    refine ⟨_, _, _, _, _, (st_of (asg := [(0, _), (1, _), (5, _), (6, _)]) hs ⟨by assumption, by assumption, by assumption, by assumption, trivial⟩ (by assumption)).trans ?_, h'⟩
    kernel_rfl
  · cases h
noncomputable def T_49_82_0_0 (p0 : Int) (p1 : List Int) (p2 : List Int) (p3 : List Int) : St := St.mk ([CV.whole (2 : Nat), CV.whole (1 : Nat), jk, jk, jk, CV.int IntKind.i64 p0] ++ (jl 24)) [Blk.mem (CV.pure Zy49_0 p1), Blk.vec (42 : Nat) (Ty.int IntKind.u32) p2, Blk.vec (5 : Nat) (Ty.int IntKind.u8) p3] (2 : Nat)
noncomputable def X_49_82_0_0_0 (p1 : List Int) (p2 : List Int) (p3 : List Int) : St := St.mk ([CV.whole (2 : Nat)] ++ (jl 29)) [Blk.mem (CV.pure Zy49_0 p1), Blk.vec (42 : Nat) (Ty.int IntKind.u32) p2, Blk.vec (5 : Nat) (Ty.int IntKind.u8) p3] (2 : Nat)
inductive Sp.E_49_82_0_0 where
  | e0 (p1 : List Int) (p2 : List Int) (p3 : List Int)
noncomputable def Sp.B_49_82_0_0 {R : Type} (r : Option Sp.E_49_82_0_0) (k0 : (List Int) → (List Int) → (List Int) → Option R) : Option R := match r with
  | none => none
  | some (.e0 p1 p2 p3) => k0 p1 p2 p3
noncomputable def Sp.L_49_82_0_0 : Nat → (Int) → (List Int) → (List Int) → (List Int) → Option Sp.E_49_82_0_0
  | 0, _, _, _, _ => none
  | m + 1, p0, p1, p2, p3 => bif decide (p0 < (↑(List.length p2) : Int)) then Sp.B_49_82_1_0 (Sp.L_49_82_1_0 (4611686018427387904 : Nat) p0 (0 : Int) p1 p2 p3) fun y8 y9 y10 y11 => Sp.L_49_82_0_0 m (IntKind.wrap IntKind.i64 (y8 + (1 : Int))) y9 y10 y11 else some (Sp.E_49_82_0_0.e0 p1 p2 p3)
noncomputable def G_49_82_0_0 {R : Type} (p0 : Int) (p1 : List Int) (p2 : List Int) (p3 : List Int) (k : Ex → St → Option R) : Option R := Sp.B_49_82_0_0 (Sp.L_49_82_0_0 FU p0 p1 p2 p3) (fun p1 p2 p3 => k (Ex.exit (0 : Nat)) (X_49_82_0_0_0 p1 p2 p3))
noncomputable def m_49_82_0_0 : St → Bool := fun T => match T.sl.getD 0 .junk, T.sl.getD 1 .junk, T.sl.getD 5 .junk, T.hp with
  | CV.whole (2 : Nat), CV.whole (1 : Nat), CV.int IntKind.i64 p0, ((Blk.mem (CV.pure (Ty.arr (32 : Nat) (Ty.int IntKind.u8)) p1)) :: (Blk.vec (42 : Nat) (Ty.int IntKind.u32) p2) :: (Blk.vec (5 : Nat) (Ty.int IntKind.u8) p3) :: []) => shapeOK T 30 [0, 1, 5] (2 : Nat)
  | _, _, _, _ => false
noncomputable def o_49_82_0_0 {R : Type} (G : (Int) → (List Int) → (List Int) → (List Int) → (Ex → St → Option R) → Option R) : St → (Ex → St → Option R) → Option R := fun T k => match T.sl.getD 0 .junk, T.sl.getD 1 .junk, T.sl.getD 5 .junk, T.hp with
  | CV.whole (2 : Nat), CV.whole (1 : Nat), CV.int IntKind.i64 p0, ((Blk.mem (CV.pure (Ty.arr (32 : Nat) (Ty.int IntKind.u8)) p1)) :: (Blk.vec (42 : Nat) (Ty.int IntKind.u32) p2) :: (Blk.vec (5 : Nat) (Ty.int IntKind.u8) p3) :: []) => gd (shapeOK T 30 [0, 1, 5] (2 : Nat)) (G p0 p1 p2 p3 k)
  | _, _, _, _ => none
theorem o_49_82_0_0_inv {R : Type} {G : (Int) → (List Int) → (List Int) → (List Int) → (Ex → St → Option R) → Option R} {T : St} {k : Ex → St → Option R} {r : R} (h : o_49_82_0_0 G T k = some r) : ∃ p0 p1 p2 p3, T = T_49_82_0_0 p0 p1 p2 p3 ∧ G p0 p1 p2 p3 k = some r := by
  unfold o_49_82_0_0 at h
  split at h
  · obtain ⟨hs, h'⟩ := gd_some h
    refine ⟨_, _, _, _, (st_of (asg := [(0, _), (1, _), (5, _)]) hs ⟨by assumption, by assumption, by assumption, trivial⟩ (by assumption)).trans ?_, h'⟩
    kernel_rfl
  · cases h
noncomputable def T_49_82_1_2 (p0 : List Int) (p1 : Int) (p2 : Int) (p3 : List Int) (p4 : List Int) (p5 : List Int) : St := St.mk ([CV.whole (3 : Nat), CV.pure Zy49_1 p0, jk, jk, jk, CV.int IntKind.i64 p1, CV.int IntKind.i64 p2] ++ (jl 23)) [Blk.mem (CV.pure Zy49_0 p3), Blk.vec (42 : Nat) (Ty.int IntKind.u32) p4, Blk.dead, Blk.vec (5 : Nat) (Ty.int IntKind.u8) p5] (3 : Nat)
noncomputable def X_49_82_1_2_0 (p0 : List Int) (p1 : Int) (p3 : List Int) (p4 : List Int) (p5 : List Int) : St := St.mk ([CV.whole (3 : Nat), CV.pure Zy49_1 p0, jk, jk, jk, CV.int IntKind.i64 p1] ++ (jl 24)) [Blk.mem (CV.pure Zy49_0 p3), Blk.vec (42 : Nat) (Ty.int IntKind.u32) p4, Blk.dead, Blk.vec (5 : Nat) (Ty.int IntKind.u8) p5] (3 : Nat)
inductive Sp.E_49_82_1_2 where
  | e0 (p0 : List Int) (p1 : Int) (p3 : List Int) (p4 : List Int) (p5 : List Int)
noncomputable def Sp.B_49_82_1_2 {R : Type} (r : Option Sp.E_49_82_1_2) (k0 : (List Int) → (Int) → (List Int) → (List Int) → (List Int) → Option R) : Option R := match r with
  | none => none
  | some (.e0 p0 p1 p3 p4 p5) => k0 p0 p1 p3 p4 p5
noncomputable def Sp.L_49_82_1_2 : Nat → (List Int) → (Int) → (Int) → (List Int) → (List Int) → (List Int) → Option Sp.E_49_82_1_2
  | 0, _, _, _, _, _, _ => none
  | m + 1, p0, p1, p2, p3, p4, p5 => bif decide (p2 < (4 : Int)) then gd (inB p1 (List.length p0)) (gd (decide ((0 : Int) ≤ IntKind.wrap IntKind.i64 ((24 : Int) - IntKind.wrap IntKind.i64 ((8 : Int) * p2)))) (gd (room (List.length p5 + (1 : Nat)) (1 : Nat)) (Sp.L_49_82_1_2 m p0 p1 (IntKind.wrap IntKind.i64 (p2 + (1 : Int))) p3 p4 (p5 ++ [IntKind.wrap IntKind.u8 (Int.fdiv (List.getD p0 (Int.toNat p1) (0 : Int)) ((2 : Int) ^ Nat.min (Int.toNat (IntKind.wrap IntKind.i64 ((24 : Int) - IntKind.wrap IntKind.i64 ((8 : Int) * p2)))) (32 : Nat)))])))) else some (Sp.E_49_82_1_2.e0 p0 p1 p3 p4 p5)
noncomputable def G_49_82_1_2 {R : Type} (p0 : List Int) (p1 : Int) (p2 : Int) (p3 : List Int) (p4 : List Int) (p5 : List Int) (k : Ex → St → Option R) : Option R := Sp.B_49_82_1_2 (Sp.L_49_82_1_2 FU p0 p1 p2 p3 p4 p5) (fun p0 p1 p3 p4 p5 => k (Ex.exit (2 : Nat)) (X_49_82_1_2_0 p0 p1 p3 p4 p5))
noncomputable def m_49_82_1_2 : St → Bool := fun T => match T.sl.getD 0 .junk, T.sl.getD 1 .junk, T.sl.getD 5 .junk, T.sl.getD 6 .junk, T.hp with
  | CV.whole (3 : Nat), CV.pure (Ty.slice (Ty.int IntKind.u32)) p0, CV.int IntKind.i64 p1, CV.int IntKind.i64 p2, ((Blk.mem (CV.pure (Ty.arr (32 : Nat) (Ty.int IntKind.u8)) p3)) :: (Blk.vec (42 : Nat) (Ty.int IntKind.u32) p4) :: (Blk.dead) :: (Blk.vec (5 : Nat) (Ty.int IntKind.u8) p5) :: []) => shapeOK T 30 [0, 1, 5, 6] (3 : Nat)
  | _, _, _, _, _ => false
noncomputable def o_49_82_1_2 {R : Type} (G : (List Int) → (Int) → (Int) → (List Int) → (List Int) → (List Int) → (Ex → St → Option R) → Option R) : St → (Ex → St → Option R) → Option R := fun T k => match T.sl.getD 0 .junk, T.sl.getD 1 .junk, T.sl.getD 5 .junk, T.sl.getD 6 .junk, T.hp with
  | CV.whole (3 : Nat), CV.pure (Ty.slice (Ty.int IntKind.u32)) p0, CV.int IntKind.i64 p1, CV.int IntKind.i64 p2, ((Blk.mem (CV.pure (Ty.arr (32 : Nat) (Ty.int IntKind.u8)) p3)) :: (Blk.vec (42 : Nat) (Ty.int IntKind.u32) p4) :: (Blk.dead) :: (Blk.vec (5 : Nat) (Ty.int IntKind.u8) p5) :: []) => gd (shapeOK T 30 [0, 1, 5, 6] (3 : Nat)) (G p0 p1 p2 p3 p4 p5 k)
  | _, _, _, _, _ => none
theorem o_49_82_1_2_inv {R : Type} {G : (List Int) → (Int) → (Int) → (List Int) → (List Int) → (List Int) → (Ex → St → Option R) → Option R} {T : St} {k : Ex → St → Option R} {r : R} (h : o_49_82_1_2 G T k = some r) : ∃ p0 p1 p2 p3 p4 p5, T = T_49_82_1_2 p0 p1 p2 p3 p4 p5 ∧ G p0 p1 p2 p3 p4 p5 k = some r := by
  unfold o_49_82_1_2 at h
  split at h
  · obtain ⟨hs, h'⟩ := gd_some h
    refine ⟨_, _, _, _, _, _, (st_of (asg := [(0, _), (1, _), (5, _), (6, _)]) hs ⟨by assumption, by assumption, by assumption, by assumption, trivial⟩ (by assumption)).trans ?_, h'⟩
    kernel_rfl
  · cases h
noncomputable def T_49_82_1_1 (p0 : List Int) (p1 : Int) (p2 : Int) (p3 : List Int) (p4 : List Int) (p5 : List Int) : St := St.mk ([CV.whole (2 : Nat), CV.pure Zy49_1 p0, jk, jk, jk, CV.int IntKind.i64 p1, CV.int IntKind.i64 p2] ++ (jl 23)) [Blk.mem (CV.pure Zy49_0 p3), Blk.vec (42 : Nat) (Ty.int IntKind.u32) p4, Blk.vec (5 : Nat) (Ty.int IntKind.u8) p5] (3 : Nat)
noncomputable def X_49_82_1_1_0 (p0 : List Int) (p1 : Int) (p3 : List Int) (p4 : List Int) (p5 : List Int) : St := St.mk ([CV.whole (2 : Nat), CV.pure Zy49_1 p0, jk, jk, jk, CV.int IntKind.i64 p1] ++ (jl 24)) [Blk.mem (CV.pure Zy49_0 p3), Blk.vec (42 : Nat) (Ty.int IntKind.u32) p4, Blk.vec (5 : Nat) (Ty.int IntKind.u8) p5] (3 : Nat)
noncomputable def X_49_82_1_1_1 (p0 : List Int) (p1 : Int) (p3 : List Int) (p4 : List Int) (p5 : List Int) : St := St.mk ([CV.whole (3 : Nat), CV.pure Zy49_1 p0, jk, jk, jk, CV.int IntKind.i64 p1] ++ (jl 24)) [Blk.mem (CV.pure Zy49_0 p3), Blk.vec (42 : Nat) (Ty.int IntKind.u32) p4, Blk.dead, Blk.vec (5 : Nat) (Ty.int IntKind.u8) p5] (3 : Nat)
inductive Sp.E_49_82_1_1 where
  | e0 (p0 : List Int) (p1 : Int) (p3 : List Int) (p4 : List Int) (p5 : List Int)
  | e1 (p0 : List Int) (p1 : Int) (p3 : List Int) (p4 : List Int) (p5 : List Int)
noncomputable def Sp.B_49_82_1_1 {R : Type} (r : Option Sp.E_49_82_1_1) (k0 : (List Int) → (Int) → (List Int) → (List Int) → (List Int) → Option R) (k1 : (List Int) → (Int) → (List Int) → (List Int) → (List Int) → Option R) : Option R := match r with
  | none => none
  | some (.e0 p0 p1 p3 p4 p5) => k0 p0 p1 p3 p4 p5
  | some (.e1 p0 p1 p3 p4 p5) => k1 p0 p1 p3 p4 p5
noncomputable def Sp.L_49_82_1_1 : Nat → (List Int) → (Int) → (Int) → (List Int) → (List Int) → (List Int) → Option Sp.E_49_82_1_1
  | 0, _, _, _, _, _, _ => none
  | m + 1, p0, p1, p2, p3, p4, p5 => bif decide (p2 < (4 : Int)) then gd (inB p1 (List.length p0)) (gd (decide ((0 : Int) ≤ IntKind.wrap IntKind.i64 ((24 : Int) - IntKind.wrap IntKind.i64 ((8 : Int) * p2)))) (gd (room (List.length p5 + (1 : Nat)) (1 : Nat)) (Sp.B_49_82_1_2 (Sp.L_49_82_1_2 m p0 p1 (IntKind.wrap IntKind.i64 (p2 + (1 : Int))) p3 p4 (p5 ++ [IntKind.wrap IntKind.u8 (Int.fdiv (List.getD p0 (Int.toNat p1) (0 : Int)) ((2 : Int) ^ Nat.min (Int.toNat (IntKind.wrap IntKind.i64 ((24 : Int) - IntKind.wrap IntKind.i64 ((8 : Int) * p2)))) (32 : Nat)))])) (fun p0 p1 p3 p4 p5 => some (Sp.E_49_82_1_1.e1 p0 p1 p3 p4 p5))))) else some (Sp.E_49_82_1_1.e0 p0 p1 p3 p4 p5)
noncomputable def G_49_82_1_1 {R : Type} (p0 : List Int) (p1 : Int) (p2 : Int) (p3 : List Int) (p4 : List Int) (p5 : List Int) (k : Ex → St → Option R) : Option R := Sp.B_49_82_1_1 (Sp.L_49_82_1_1 FU p0 p1 p2 p3 p4 p5) (fun p0 p1 p3 p4 p5 => k (Ex.exit (2 : Nat)) (X_49_82_1_1_0 p0 p1 p3 p4 p5)) (fun p0 p1 p3 p4 p5 => k (Ex.exit (2 : Nat)) (X_49_82_1_1_1 p0 p1 p3 p4 p5))
noncomputable def m_49_82_1_1 : St → Bool := fun T => match T.sl.getD 0 .junk, T.sl.getD 1 .junk, T.sl.getD 5 .junk, T.sl.getD 6 .junk, T.hp with
  | CV.whole (2 : Nat), CV.pure (Ty.slice (Ty.int IntKind.u32)) p0, CV.int IntKind.i64 p1, CV.int IntKind.i64 p2, ((Blk.mem (CV.pure (Ty.arr (32 : Nat) (Ty.int IntKind.u8)) p3)) :: (Blk.vec (42 : Nat) (Ty.int IntKind.u32) p4) :: (Blk.vec (5 : Nat) (Ty.int IntKind.u8) p5) :: []) => shapeOK T 30 [0, 1, 5, 6] (3 : Nat)
  | _, _, _, _, _ => false
noncomputable def o_49_82_1_1 {R : Type} (G : (List Int) → (Int) → (Int) → (List Int) → (List Int) → (List Int) → (Ex → St → Option R) → Option R) : St → (Ex → St → Option R) → Option R := fun T k => match T.sl.getD 0 .junk, T.sl.getD 1 .junk, T.sl.getD 5 .junk, T.sl.getD 6 .junk, T.hp with
  | CV.whole (2 : Nat), CV.pure (Ty.slice (Ty.int IntKind.u32)) p0, CV.int IntKind.i64 p1, CV.int IntKind.i64 p2, ((Blk.mem (CV.pure (Ty.arr (32 : Nat) (Ty.int IntKind.u8)) p3)) :: (Blk.vec (42 : Nat) (Ty.int IntKind.u32) p4) :: (Blk.vec (5 : Nat) (Ty.int IntKind.u8) p5) :: []) => gd (shapeOK T 30 [0, 1, 5, 6] (3 : Nat)) (G p0 p1 p2 p3 p4 p5 k)
  | _, _, _, _, _ => none
theorem o_49_82_1_1_inv {R : Type} {G : (List Int) → (Int) → (Int) → (List Int) → (List Int) → (List Int) → (Ex → St → Option R) → Option R} {T : St} {k : Ex → St → Option R} {r : R} (h : o_49_82_1_1 G T k = some r) : ∃ p0 p1 p2 p3 p4 p5, T = T_49_82_1_1 p0 p1 p2 p3 p4 p5 ∧ G p0 p1 p2 p3 p4 p5 k = some r := by
  unfold o_49_82_1_1 at h
  split at h
  · obtain ⟨hs, h'⟩ := gd_some h
    refine ⟨_, _, _, _, _, _, (st_of (asg := [(0, _), (1, _), (5, _), (6, _)]) hs ⟨by assumption, by assumption, by assumption, by assumption, trivial⟩ (by assumption)).trans ?_, h'⟩
    kernel_rfl
  · cases h
noncomputable def T_49_82_0_2 (p0 : List Int) (p1 : Int) (p2 : List Int) (p3 : List Int) (p4 : List Int) : St := St.mk ([CV.whole (3 : Nat), CV.pure Zy49_1 p0, jk, jk, jk, CV.int IntKind.i64 p1] ++ (jl 24)) [Blk.mem (CV.pure Zy49_0 p2), Blk.vec (42 : Nat) (Ty.int IntKind.u32) p3, Blk.dead, Blk.vec (5 : Nat) (Ty.int IntKind.u8) p4] (3 : Nat)
noncomputable def X_49_82_0_2_0 (p2 : List Int) (p3 : List Int) (p4 : List Int) : St := St.mk ([CV.whole (3 : Nat)] ++ (jl 29)) [Blk.mem (CV.pure Zy49_0 p2), Blk.vec (42 : Nat) (Ty.int IntKind.u32) p3, Blk.dead, Blk.vec (5 : Nat) (Ty.int IntKind.u8) p4] (3 : Nat)
inductive Sp.E_49_82_0_2 where
  | e0 (p2 : List Int) (p3 : List Int) (p4 : List Int)
noncomputable def Sp.B_49_82_0_2 {R : Type} (r : Option Sp.E_49_82_0_2) (k0 : (List Int) → (List Int) → (List Int) → Option R) : Option R := match r with
  | none => none
  | some (.e0 p2 p3 p4) => k0 p2 p3 p4
noncomputable def Sp.L_49_82_0_2 : Nat → (List Int) → (Int) → (List Int) → (List Int) → (List Int) → Option Sp.E_49_82_0_2
  | 0, _, _, _, _, _ => none
  | m + 1, p0, p1, p2, p3, p4 => bif decide (p1 < (↑(List.length p0) : Int)) then Sp.B_49_82_1_2 (Sp.L_49_82_1_2 (4611686018427387904 : Nat) p0 p1 (0 : Int) p2 p3 p4) fun y9 y10 y11 y12 y13 => Sp.L_49_82_0_2 m y9 (IntKind.wrap IntKind.i64 (y10 + (1 : Int))) y11 y12 y13 else some (Sp.E_49_82_0_2.e0 p2 p3 p4)
noncomputable def G_49_82_0_2 {R : Type} (p0 : List Int) (p1 : Int) (p2 : List Int) (p3 : List Int) (p4 : List Int) (k : Ex → St → Option R) : Option R := Sp.B_49_82_0_2 (Sp.L_49_82_0_2 FU p0 p1 p2 p3 p4) (fun p2 p3 p4 => k (Ex.exit (0 : Nat)) (X_49_82_0_2_0 p2 p3 p4))
noncomputable def m_49_82_0_2 : St → Bool := fun T => match T.sl.getD 0 .junk, T.sl.getD 1 .junk, T.sl.getD 5 .junk, T.hp with
  | CV.whole (3 : Nat), CV.pure (Ty.slice (Ty.int IntKind.u32)) p0, CV.int IntKind.i64 p1, ((Blk.mem (CV.pure (Ty.arr (32 : Nat) (Ty.int IntKind.u8)) p2)) :: (Blk.vec (42 : Nat) (Ty.int IntKind.u32) p3) :: (Blk.dead) :: (Blk.vec (5 : Nat) (Ty.int IntKind.u8) p4) :: []) => shapeOK T 30 [0, 1, 5] (3 : Nat)
  | _, _, _, _ => false
noncomputable def o_49_82_0_2 {R : Type} (G : (List Int) → (Int) → (List Int) → (List Int) → (List Int) → (Ex → St → Option R) → Option R) : St → (Ex → St → Option R) → Option R := fun T k => match T.sl.getD 0 .junk, T.sl.getD 1 .junk, T.sl.getD 5 .junk, T.hp with
  | CV.whole (3 : Nat), CV.pure (Ty.slice (Ty.int IntKind.u32)) p0, CV.int IntKind.i64 p1, ((Blk.mem (CV.pure (Ty.arr (32 : Nat) (Ty.int IntKind.u8)) p2)) :: (Blk.vec (42 : Nat) (Ty.int IntKind.u32) p3) :: (Blk.dead) :: (Blk.vec (5 : Nat) (Ty.int IntKind.u8) p4) :: []) => gd (shapeOK T 30 [0, 1, 5] (3 : Nat)) (G p0 p1 p2 p3 p4 k)
  | _, _, _, _ => none
theorem o_49_82_0_2_inv {R : Type} {G : (List Int) → (Int) → (List Int) → (List Int) → (List Int) → (Ex → St → Option R) → Option R} {T : St} {k : Ex → St → Option R} {r : R} (h : o_49_82_0_2 G T k = some r) : ∃ p0 p1 p2 p3 p4, T = T_49_82_0_2 p0 p1 p2 p3 p4 ∧ G p0 p1 p2 p3 p4 k = some r := by
  unfold o_49_82_0_2 at h
  split at h
  · obtain ⟨hs, h'⟩ := gd_some h
    refine ⟨_, _, _, _, _, (st_of (asg := [(0, _), (1, _), (5, _)]) hs ⟨by assumption, by assumption, by assumption, trivial⟩ (by assumption)).trans ?_, h'⟩
    kernel_rfl
  · cases h
noncomputable def T_49_82_0_1 (p0 : List Int) (p1 : Int) (p2 : List Int) (p3 : List Int) (p4 : List Int) : St := St.mk ([CV.whole (2 : Nat), CV.pure Zy49_1 p0, jk, jk, jk, CV.int IntKind.i64 p1] ++ (jl 24)) [Blk.mem (CV.pure Zy49_0 p2), Blk.vec (42 : Nat) (Ty.int IntKind.u32) p3, Blk.vec (5 : Nat) (Ty.int IntKind.u8) p4] (3 : Nat)
noncomputable def X_49_82_0_1_0 (p2 : List Int) (p3 : List Int) (p4 : List Int) : St := St.mk ([CV.whole (2 : Nat)] ++ (jl 29)) [Blk.mem (CV.pure Zy49_0 p2), Blk.vec (42 : Nat) (Ty.int IntKind.u32) p3, Blk.vec (5 : Nat) (Ty.int IntKind.u8) p4] (3 : Nat)
noncomputable def X_49_82_0_1_1 (p2 : List Int) (p3 : List Int) (p4 : List Int) : St := St.mk ([CV.whole (3 : Nat)] ++ (jl 29)) [Blk.mem (CV.pure Zy49_0 p2), Blk.vec (42 : Nat) (Ty.int IntKind.u32) p3, Blk.dead, Blk.vec (5 : Nat) (Ty.int IntKind.u8) p4] (3 : Nat)
inductive Sp.E_49_82_0_1 where
  | e0 (p2 : List Int) (p3 : List Int) (p4 : List Int)
  | e1 (p2 : List Int) (p3 : List Int) (p4 : List Int)
noncomputable def Sp.B_49_82_0_1 {R : Type} (r : Option Sp.E_49_82_0_1) (k0 : (List Int) → (List Int) → (List Int) → Option R) (k1 : (List Int) → (List Int) → (List Int) → Option R) : Option R := match r with
  | none => none
  | some (.e0 p2 p3 p4) => k0 p2 p3 p4
  | some (.e1 p2 p3 p4) => k1 p2 p3 p4
noncomputable def Sp.L_49_82_0_1 : Nat → (List Int) → (Int) → (List Int) → (List Int) → (List Int) → Option Sp.E_49_82_0_1
  | 0, _, _, _, _, _ => none
  | m + 1, p0, p1, p2, p3, p4 => bif decide (p1 < (↑(List.length p0) : Int)) then Sp.B_49_82_1_1 (Sp.L_49_82_1_1 (4611686018427387904 : Nat) p0 p1 (0 : Int) p2 p3 p4) (fun y14 y15 y16 y17 y18 => Sp.L_49_82_0_1 m y14 (IntKind.wrap IntKind.i64 (y15 + (1 : Int))) y16 y17 y18) fun y19 y20 y21 y22 y23 => Sp.B_49_82_0_2 (Sp.L_49_82_0_2 m y19 (IntKind.wrap IntKind.i64 (y20 + (1 : Int))) y21 y22 y23) (fun p2 p3 p4 => some (Sp.E_49_82_0_1.e1 p2 p3 p4)) else some (Sp.E_49_82_0_1.e0 p2 p3 p4)
noncomputable def G_49_82_0_1 {R : Type} (p0 : List Int) (p1 : Int) (p2 : List Int) (p3 : List Int) (p4 : List Int) (k : Ex → St → Option R) : Option R := Sp.B_49_82_0_1 (Sp.L_49_82_0_1 FU p0 p1 p2 p3 p4) (fun p2 p3 p4 => k (Ex.exit (0 : Nat)) (X_49_82_0_1_0 p2 p3 p4)) (fun p2 p3 p4 => k (Ex.exit (0 : Nat)) (X_49_82_0_1_1 p2 p3 p4))
noncomputable def m_49_82_0_1 : St → Bool := fun T => match T.sl.getD 0 .junk, T.sl.getD 1 .junk, T.sl.getD 5 .junk, T.hp with
  | CV.whole (2 : Nat), CV.pure (Ty.slice (Ty.int IntKind.u32)) p0, CV.int IntKind.i64 p1, ((Blk.mem (CV.pure (Ty.arr (32 : Nat) (Ty.int IntKind.u8)) p2)) :: (Blk.vec (42 : Nat) (Ty.int IntKind.u32) p3) :: (Blk.vec (5 : Nat) (Ty.int IntKind.u8) p4) :: []) => shapeOK T 30 [0, 1, 5] (3 : Nat)
  | _, _, _, _ => false
noncomputable def o_49_82_0_1 {R : Type} (G : (List Int) → (Int) → (List Int) → (List Int) → (List Int) → (Ex → St → Option R) → Option R) : St → (Ex → St → Option R) → Option R := fun T k => match T.sl.getD 0 .junk, T.sl.getD 1 .junk, T.sl.getD 5 .junk, T.hp with
  | CV.whole (2 : Nat), CV.pure (Ty.slice (Ty.int IntKind.u32)) p0, CV.int IntKind.i64 p1, ((Blk.mem (CV.pure (Ty.arr (32 : Nat) (Ty.int IntKind.u8)) p2)) :: (Blk.vec (42 : Nat) (Ty.int IntKind.u32) p3) :: (Blk.vec (5 : Nat) (Ty.int IntKind.u8) p4) :: []) => gd (shapeOK T 30 [0, 1, 5] (3 : Nat)) (G p0 p1 p2 p3 p4 k)
  | _, _, _, _ => none
theorem o_49_82_0_1_inv {R : Type} {G : (List Int) → (Int) → (List Int) → (List Int) → (List Int) → (Ex → St → Option R) → Option R} {T : St} {k : Ex → St → Option R} {r : R} (h : o_49_82_0_1 G T k = some r) : ∃ p0 p1 p2 p3 p4, T = T_49_82_0_1 p0 p1 p2 p3 p4 ∧ G p0 p1 p2 p3 p4 k = some r := by
  unfold o_49_82_0_1 at h
  split at h
  · obtain ⟨hs, h'⟩ := gd_some h
    refine ⟨_, _, _, _, _, (st_of (asg := [(0, _), (1, _), (5, _)]) hs ⟨by assumption, by assumption, by assumption, trivial⟩ (by assumption)).trans ?_, h'⟩
    kernel_rfl
  · cases h
noncomputable def O_49_82_1 {R : Type} : St → (Ex → St → Option R) → Option R := fun T k => bif m_49_82_1_0 T then o_49_82_1_0 G_49_82_1_0 T k else bif m_49_82_1_1 T then o_49_82_1_1 G_49_82_1_1 T k else bif m_49_82_1_2 T then o_49_82_1_2 G_49_82_1_2 T k else none
noncomputable def O_49_82_0 {R : Type} : St → (Ex → St → Option R) → Option R := fun T k => bif m_49_82_0_0 T then o_49_82_0_0 G_49_82_0_0 T k else bif m_49_82_0_1 T then o_49_82_0_1 G_49_82_0_1 T k else bif m_49_82_0_2 T then o_49_82_0_2 G_49_82_0_2 T k else none
noncomputable def g_49_82 {R : Type} : List CV → List Blk → (CV → List Blk → Option R) → Option R := evFnL sm_49 FU (ovr noO (evFn sm_49 fns FU 0)) (ir82_t O_49_82_0) ir82
theorem body_49_82_1_0 {R : Type} (K0 : St → Option R) (K1 : Ex → St → Option R) (p0 : Int) (p1 : Int) (p2 : List Int) (p3 : List Int) (p4 : List Int) : evLB (evCodeL sm_49 FU (ovr noO (evFn sm_49 fns FU 0)) .nil ir82_b1) (St.norm ir82_v1) (T_49_82_1_0 p0 p1 p2 p3 p4) K0 K1 =
  bif decide (p1 < (4 : Int)) then gd (inB p0 (List.length p3)) (gd (decide (Int.toNat p0 < List.length p3) && true) (gd (decide ((0 : Int) ≤ IntKind.wrap IntKind.i64 ((24 : Int) - IntKind.wrap IntKind.i64 ((8 : Int) * p1)))) (gd (room (List.length p4 + (1 : Nat)) (1 : Nat)) (K0 (T_49_82_1_0 p0 (IntKind.wrap IntKind.i64 (p1 + (1 : Int))) p2 p3 (p4 ++ [IntKind.wrap IntKind.u8 (Int.fdiv (List.getD p3 (Int.toNat p0) (0 : Int)) ((2 : Int) ^ Nat.min (Int.toNat (IntKind.wrap IntKind.i64 ((24 : Int) - IntKind.wrap IntKind.i64 ((8 : Int) * p1)))) (32 : Nat)))])))))) else K1 (Ex.exit (2 : Nat)) (X_49_82_1_0_0 p0 p2 p3 p4) := by kernel_rfl
theorem Bgd_49_82_1_0 {R : Type} {c : Bool} {x : Option R} {y : Option Sp.E_49_82_1_0} {k0 : (Int) → (List Int) → (List Int) → (List Int) → Option R} (h : x = Sp.B_49_82_1_0 y k0) : gd c x = Sp.B_49_82_1_0 (gd c y) k0 := by cases c; rfl; exact h
theorem Bcond_49_82_1_0 {R : Type} {c : Bool} {x x' : Option R} {y y' : Option Sp.E_49_82_1_0} {k0 : (Int) → (List Int) → (List Int) → (List Int) → Option R} (h : x = Sp.B_49_82_1_0 y k0) (h' : x' = Sp.B_49_82_1_0 y' k0) : (bif c then x else x') = Sp.B_49_82_1_0 (bif c then y else y') k0 := by cases c; exact h'; exact h
theorem loop_49_82_1_0 {R : Type} (k : Ex → St → Option R) : ∀ (m : Nat) (p0 : Int) (p1 : Int) (p2 : List Int) (p3 : List Int) (p4 : List Int), evLoopN (evCodeL sm_49 FU (ovr noO (evFn sm_49 fns FU 0)) .nil ir82_b1) (St.norm ir82_v1) m (T_49_82_1_0 p0 p1 p2 p3 p4) k = Sp.B_49_82_1_0 (Sp.L_49_82_1_0 m p0 p1 p2 p3 p4) (fun p0 p2 p3 p4 => k (Ex.exit (2 : Nat)) (X_49_82_1_0_0 p0 p2 p3 p4))
  | 0, _, _, _, _, _ => rfl
  | m + 1, p0, p1, p2, p3, p4 => by
    rw [evLoopN_succ, body_49_82_1_0, Sp.L_49_82_1_0]
    repeat' first | apply Bgd_49_82_1_0 | apply Bcond_49_82_1_0 | exact loop_49_82_1_0 k m _ _ _ _ _ | rfl
theorem ok_49_82_1_0 {R : Type} (T : St) (k : Ex → St → Option R) (r : R) (h0 : o_49_82_1_0 G_49_82_1_0 T k = some r) : evLoopN (evCode sm_49 FU (evFn sm_49 fns FU 0) ir82_b1) (St.norm ir82_v1) FU T k = some r := by
  obtain ⟨p0, p1, p2, p3, p4, rfl, h⟩ := o_49_82_1_0_inv h0
  refine evLoopN_L (t := .nil) noO_ok trivial _ _ _ _ ?_
  rw [loop_49_82_1_0]
  exact h
theorem body_49_82_1_2 {R : Type} (K0 : St → Option R) (K1 : Ex → St → Option R) (p0 : List Int) (p1 : Int) (p2 : Int) (p3 : List Int) (p4 : List Int) (p5 : List Int) : evLB (evCodeL sm_49 FU (ovr noO (evFn sm_49 fns FU 0)) .nil ir82_b1) (St.norm ir82_v1) (T_49_82_1_2 p0 p1 p2 p3 p4 p5) K0 K1 =
  bif decide (p2 < (4 : Int)) then gd (inB p1 (List.length p0)) (gd (decide ((0 : Int) ≤ IntKind.wrap IntKind.i64 ((24 : Int) - IntKind.wrap IntKind.i64 ((8 : Int) * p2)))) (gd (room (List.length p5 + (1 : Nat)) (1 : Nat)) (K0 (T_49_82_1_2 p0 p1 (IntKind.wrap IntKind.i64 (p2 + (1 : Int))) p3 p4 (p5 ++ [IntKind.wrap IntKind.u8 (Int.fdiv (List.getD p0 (Int.toNat p1) (0 : Int)) ((2 : Int) ^ Nat.min (Int.toNat (IntKind.wrap IntKind.i64 ((24 : Int) - IntKind.wrap IntKind.i64 ((8 : Int) * p2)))) (32 : Nat)))]))))) else K1 (Ex.exit (2 : Nat)) (X_49_82_1_2_0 p0 p1 p3 p4 p5) := by kernel_rfl
theorem Bgd_49_82_1_2 {R : Type} {c : Bool} {x : Option R} {y : Option Sp.E_49_82_1_2} {k0 : (List Int) → (Int) → (List Int) → (List Int) → (List Int) → Option R} (h : x = Sp.B_49_82_1_2 y k0) : gd c x = Sp.B_49_82_1_2 (gd c y) k0 := by cases c; rfl; exact h
theorem Bcond_49_82_1_2 {R : Type} {c : Bool} {x x' : Option R} {y y' : Option Sp.E_49_82_1_2} {k0 : (List Int) → (Int) → (List Int) → (List Int) → (List Int) → Option R} (h : x = Sp.B_49_82_1_2 y k0) (h' : x' = Sp.B_49_82_1_2 y' k0) : (bif c then x else x') = Sp.B_49_82_1_2 (bif c then y else y') k0 := by cases c; exact h'; exact h
theorem loop_49_82_1_2 {R : Type} (k : Ex → St → Option R) : ∀ (m : Nat) (p0 : List Int) (p1 : Int) (p2 : Int) (p3 : List Int) (p4 : List Int) (p5 : List Int), evLoopN (evCodeL sm_49 FU (ovr noO (evFn sm_49 fns FU 0)) .nil ir82_b1) (St.norm ir82_v1) m (T_49_82_1_2 p0 p1 p2 p3 p4 p5) k = Sp.B_49_82_1_2 (Sp.L_49_82_1_2 m p0 p1 p2 p3 p4 p5) (fun p0 p1 p3 p4 p5 => k (Ex.exit (2 : Nat)) (X_49_82_1_2_0 p0 p1 p3 p4 p5))
  | 0, _, _, _, _, _, _ => rfl
  | m + 1, p0, p1, p2, p3, p4, p5 => by
    rw [evLoopN_succ, body_49_82_1_2, Sp.L_49_82_1_2]
    repeat' first | apply Bgd_49_82_1_2 | apply Bcond_49_82_1_2 | exact loop_49_82_1_2 k m _ _ _ _ _ _ | rfl
theorem ok_49_82_1_2 {R : Type} (T : St) (k : Ex → St → Option R) (r : R) (h0 : o_49_82_1_2 G_49_82_1_2 T k = some r) : evLoopN (evCode sm_49 FU (evFn sm_49 fns FU 0) ir82_b1) (St.norm ir82_v1) FU T k = some r := by
  obtain ⟨p0, p1, p2, p3, p4, p5, rfl, h⟩ := o_49_82_1_2_inv h0
  refine evLoopN_L (t := .nil) noO_ok trivial _ _ _ _ ?_
  rw [loop_49_82_1_2]
  exact h
theorem body_49_82_1_1 {R : Type} (K0 : St → Option R) (K1 : Ex → St → Option R) (p0 : List Int) (p1 : Int) (p2 : Int) (p3 : List Int) (p4 : List Int) (p5 : List Int) : evLB (evCodeL sm_49 FU (ovr noO (evFn sm_49 fns FU 0)) .nil ir82_b1) (St.norm ir82_v1) (T_49_82_1_1 p0 p1 p2 p3 p4 p5) K0 K1 =
  bif decide (p2 < (4 : Int)) then gd (inB p1 (List.length p0)) (gd (decide ((0 : Int) ≤ IntKind.wrap IntKind.i64 ((24 : Int) - IntKind.wrap IntKind.i64 ((8 : Int) * p2)))) (gd (room (List.length p5 + (1 : Nat)) (1 : Nat)) (K0 (T_49_82_1_2 p0 p1 (IntKind.wrap IntKind.i64 (p2 + (1 : Int))) p3 p4 (p5 ++ [IntKind.wrap IntKind.u8 (Int.fdiv (List.getD p0 (Int.toNat p1) (0 : Int)) ((2 : Int) ^ Nat.min (Int.toNat (IntKind.wrap IntKind.i64 ((24 : Int) - IntKind.wrap IntKind.i64 ((8 : Int) * p2)))) (32 : Nat)))]))))) else K1 (Ex.exit (2 : Nat)) (X_49_82_1_1_0 p0 p1 p3 p4 p5) := by kernel_rfl
theorem Bgd_49_82_1_1 {R : Type} {c : Bool} {x : Option R} {y : Option Sp.E_49_82_1_1} {k0 : (List Int) → (Int) → (List Int) → (List Int) → (List Int) → Option R} {k1 : (List Int) → (Int) → (List Int) → (List Int) → (List Int) → Option R} (h : x = Sp.B_49_82_1_1 y k0 k1) : gd c x = Sp.B_49_82_1_1 (gd c y) k0 k1 := by cases c; rfl; exact h
theorem Bcond_49_82_1_1 {R : Type} {c : Bool} {x x' : Option R} {y y' : Option Sp.E_49_82_1_1} {k0 : (List Int) → (Int) → (List Int) → (List Int) → (List Int) → Option R} {k1 : (List Int) → (Int) → (List Int) → (List Int) → (List Int) → Option R} (h : x = Sp.B_49_82_1_1 y k0 k1) (h' : x' = Sp.B_49_82_1_1 y' k0 k1) : (bif c then x else x') = Sp.B_49_82_1_1 (bif c then y else y') k0 k1 := by cases c; exact h'; exact h
theorem Bin_49_82_1_1_49_82_1_2 {R : Type} {r : Option Sp.E_49_82_1_2} {k0 : (List Int) → (Int) → (List Int) → (List Int) → (List Int) → Option R} {k1 : (List Int) → (Int) → (List Int) → (List Int) → (List Int) → Option R} {f0 : (List Int) → (Int) → (List Int) → (List Int) → (List Int) → Option R} {g0 : (List Int) → (Int) → (List Int) → (List Int) → (List Int) → Option Sp.E_49_82_1_1} (h0 : ∀ z0 z1 z2 z3 z4, f0 z0 z1 z2 z3 z4 = Sp.B_49_82_1_1 (g0 z0 z1 z2 z3 z4) k0 k1) : Sp.B_49_82_1_2 r f0 = Sp.B_49_82_1_1 (Sp.B_49_82_1_2 r g0) k0 k1 := by
  cases r with
  | none => rfl
  | some e => cases e with
    | e0 z0 z1 z2 z3 z4 => exact h0 _ _ _ _ _
theorem loop_49_82_1_1 {R : Type} (k : Ex → St → Option R) : ∀ (m : Nat) (p0 : List Int) (p1 : Int) (p2 : Int) (p3 : List Int) (p4 : List Int) (p5 : List Int), evLoopN (evCodeL sm_49 FU (ovr noO (evFn sm_49 fns FU 0)) .nil ir82_b1) (St.norm ir82_v1) m (T_49_82_1_1 p0 p1 p2 p3 p4 p5) k = Sp.B_49_82_1_1 (Sp.L_49_82_1_1 m p0 p1 p2 p3 p4 p5) (fun p0 p1 p3 p4 p5 => k (Ex.exit (2 : Nat)) (X_49_82_1_1_0 p0 p1 p3 p4 p5)) (fun p0 p1 p3 p4 p5 => k (Ex.exit (2 : Nat)) (X_49_82_1_1_1 p0 p1 p3 p4 p5))
  | 0, _, _, _, _, _, _ => rfl
  | m + 1, p0, p1, p2, p3, p4, p5 => by
    rw [evLoopN_succ, body_49_82_1_1, Sp.L_49_82_1_1]
    repeat' first | (refine (loop_49_82_1_2 k m _ _ _ _ _ _).trans ?_; apply Bin_49_82_1_1_49_82_1_2 <;> intros) | apply Bgd_49_82_1_1 | apply Bcond_49_82_1_1 | (apply Bin_49_82_1_1_49_82_1_2 <;> intros) | exact loop_49_82_1_1 k m _ _ _ _ _ _ | rfl
theorem ok_49_82_1_1 {R : Type} (T : St) (k : Ex → St → Option R) (r : R) (h0 : o_49_82_1_1 G_49_82_1_1 T k = some r) : evLoopN (evCode sm_49 FU (evFn sm_49 fns FU 0) ir82_b1) (St.norm ir82_v1) FU T k = some r := by
  obtain ⟨p0, p1, p2, p3, p4, p5, rfl, h⟩ := o_49_82_1_1_inv h0
  refine evLoopN_L (t := .nil) noO_ok trivial _ _ _ _ ?_
  rw [loop_49_82_1_1]
  exact h
theorem OK_49_82_1 {R : Type} (T : St) (k : Ex → St → Option R) (r : R) (h : O_49_82_1 T k = some r) : evLoopN (evCode sm_49 FU (evFn sm_49 fns FU 0) ir82_b1) (St.norm ir82_v1) FU T k = some r := by
  unfold O_49_82_1 at h
  cases hm : m_49_82_1_0 T
  rotate_left
  · rw [hm, cond_true] at h; exact ok_49_82_1_0 T k r h
  rw [hm, cond_false] at h
  clear hm
  cases hm : m_49_82_1_1 T
  rotate_left
  · rw [hm, cond_true] at h; exact ok_49_82_1_1 T k r h
  rw [hm, cond_false] at h
  clear hm
  cases hm : m_49_82_1_2 T
  rotate_left
  · rw [hm, cond_true] at h; exact ok_49_82_1_2 T k r h
  rw [hm, cond_false] at h
  clear hm
  cases h
theorem body_49_82_0_0 {R : Type} (K0 : St → Option R) (K1 : Ex → St → Option R) (p0 : Int) (p1 : List Int) (p2 : List Int) (p3 : List Int) : evLB (evCodeL sm_49 FU (ovr noO (evFn sm_49 fns FU 0)) (ir82_bt0 O_49_82_1) ir82_b0) (St.norm ir82_v0) (T_49_82_0_0 p0 p1 p2 p3) K0 K1 =
  bif decide (p0 < (↑(List.length p2) : Int)) then Sp.B_49_82_1_0 (Sp.L_49_82_1_0 (4611686018427387904 : Nat) p0 (0 : Int) p1 p2 p3) fun y8 y9 y10 y11 => K0 (T_49_82_0_0 (IntKind.wrap IntKind.i64 (y8 + (1 : Int))) y9 y10 y11) else K1 (Ex.exit (0 : Nat)) (X_49_82_0_0_0 p1 p2 p3) := by kernel_rfl
theorem Bgd_49_82_0_0 {R : Type} {c : Bool} {x : Option R} {y : Option Sp.E_49_82_0_0} {k0 : (List Int) → (List Int) → (List Int) → Option R} (h : x = Sp.B_49_82_0_0 y k0) : gd c x = Sp.B_49_82_0_0 (gd c y) k0 := by cases c; rfl; exact h
theorem Bcond_49_82_0_0 {R : Type} {c : Bool} {x x' : Option R} {y y' : Option Sp.E_49_82_0_0} {k0 : (List Int) → (List Int) → (List Int) → Option R} (h : x = Sp.B_49_82_0_0 y k0) (h' : x' = Sp.B_49_82_0_0 y' k0) : (bif c then x else x') = Sp.B_49_82_0_0 (bif c then y else y') k0 := by cases c; exact h'; exact h
theorem Bin_49_82_0_0_49_82_1_0 {R : Type} {r : Option Sp.E_49_82_1_0} {k0 : (List Int) → (List Int) → (List Int) → Option R} {f0 : (Int) → (List Int) → (List Int) → (List Int) → Option R} {g0 : (Int) → (List Int) → (List Int) → (List Int) → Option Sp.E_49_82_0_0} (h0 : ∀ z0 z1 z2 z3, f0 z0 z1 z2 z3 = Sp.B_49_82_0_0 (g0 z0 z1 z2 z3) k0) : Sp.B_49_82_1_0 r f0 = Sp.B_49_82_0_0 (Sp.B_49_82_1_0 r g0) k0 := by
  cases r with
  | none => rfl
  | some e => cases e with
    | e0 z0 z1 z2 z3 => exact h0 _ _ _ _
theorem loop_49_82_0_0 {R : Type} (k : Ex → St → Option R) : ∀ (m : Nat) (p0 : Int) (p1 : List Int) (p2 : List Int) (p3 : List Int), evLoopN (evCodeL sm_49 FU (ovr noO (evFn sm_49 fns FU 0)) (ir82_bt0 O_49_82_1) ir82_b0) (St.norm ir82_v0) m (T_49_82_0_0 p0 p1 p2 p3) k = Sp.B_49_82_0_0 (Sp.L_49_82_0_0 m p0 p1 p2 p3) (fun p1 p2 p3 => k (Ex.exit (0 : Nat)) (X_49_82_0_0_0 p1 p2 p3))
  | 0, _, _, _, _ => rfl
  | m + 1, p0, p1, p2, p3 => by
    rw [evLoopN_succ, body_49_82_0_0, Sp.L_49_82_0_0]
    repeat' first | apply Bgd_49_82_0_0 | apply Bcond_49_82_0_0 | (apply Bin_49_82_0_0_49_82_1_0 <;> intros) | exact loop_49_82_0_0 k m _ _ _ _ | rfl
theorem ok_49_82_0_0 {R : Type} (T : St) (k : Ex → St → Option R) (r : R) (h0 : o_49_82_0_0 G_49_82_0_0 T k = some r) : evLoopN (evCode sm_49 FU (evFn sm_49 fns FU 0) ir82_b0) (St.norm ir82_v0) FU T k = some r := by
  obtain ⟨p0, p1, p2, p3, rfl, h⟩ := o_49_82_0_0_inv h0
  refine evLoopN_L (t := (ir82_bt0 O_49_82_1)) noO_ok (ir82_bt0ok (fun T k r => OK_49_82_1 T k r)) _ _ _ _ ?_
  rw [loop_49_82_0_0]
  exact h
theorem body_49_82_0_2 {R : Type} (K0 : St → Option R) (K1 : Ex → St → Option R) (p0 : List Int) (p1 : Int) (p2 : List Int) (p3 : List Int) (p4 : List Int) : evLB (evCodeL sm_49 FU (ovr noO (evFn sm_49 fns FU 0)) (ir82_bt0 O_49_82_1) ir82_b0) (St.norm ir82_v0) (T_49_82_0_2 p0 p1 p2 p3 p4) K0 K1 =
  bif decide (p1 < (↑(List.length p0) : Int)) then Sp.B_49_82_1_2 (Sp.L_49_82_1_2 (4611686018427387904 : Nat) p0 p1 (0 : Int) p2 p3 p4) fun y9 y10 y11 y12 y13 => K0 (T_49_82_0_2 y9 (IntKind.wrap IntKind.i64 (y10 + (1 : Int))) y11 y12 y13) else K1 (Ex.exit (0 : Nat)) (X_49_82_0_2_0 p2 p3 p4) := by kernel_rfl
theorem Bgd_49_82_0_2 {R : Type} {c : Bool} {x : Option R} {y : Option Sp.E_49_82_0_2} {k0 : (List Int) → (List Int) → (List Int) → Option R} (h : x = Sp.B_49_82_0_2 y k0) : gd c x = Sp.B_49_82_0_2 (gd c y) k0 := by cases c; rfl; exact h
theorem Bcond_49_82_0_2 {R : Type} {c : Bool} {x x' : Option R} {y y' : Option Sp.E_49_82_0_2} {k0 : (List Int) → (List Int) → (List Int) → Option R} (h : x = Sp.B_49_82_0_2 y k0) (h' : x' = Sp.B_49_82_0_2 y' k0) : (bif c then x else x') = Sp.B_49_82_0_2 (bif c then y else y') k0 := by cases c; exact h'; exact h
theorem Bin_49_82_0_2_49_82_1_2 {R : Type} {r : Option Sp.E_49_82_1_2} {k0 : (List Int) → (List Int) → (List Int) → Option R} {f0 : (List Int) → (Int) → (List Int) → (List Int) → (List Int) → Option R} {g0 : (List Int) → (Int) → (List Int) → (List Int) → (List Int) → Option Sp.E_49_82_0_2} (h0 : ∀ z0 z1 z2 z3 z4, f0 z0 z1 z2 z3 z4 = Sp.B_49_82_0_2 (g0 z0 z1 z2 z3 z4) k0) : Sp.B_49_82_1_2 r f0 = Sp.B_49_82_0_2 (Sp.B_49_82_1_2 r g0) k0 := by
  cases r with
  | none => rfl
  | some e => cases e with
    | e0 z0 z1 z2 z3 z4 => exact h0 _ _ _ _ _
theorem loop_49_82_0_2 {R : Type} (k : Ex → St → Option R) : ∀ (m : Nat) (p0 : List Int) (p1 : Int) (p2 : List Int) (p3 : List Int) (p4 : List Int), evLoopN (evCodeL sm_49 FU (ovr noO (evFn sm_49 fns FU 0)) (ir82_bt0 O_49_82_1) ir82_b0) (St.norm ir82_v0) m (T_49_82_0_2 p0 p1 p2 p3 p4) k = Sp.B_49_82_0_2 (Sp.L_49_82_0_2 m p0 p1 p2 p3 p4) (fun p2 p3 p4 => k (Ex.exit (0 : Nat)) (X_49_82_0_2_0 p2 p3 p4))
  | 0, _, _, _, _, _ => rfl
  | m + 1, p0, p1, p2, p3, p4 => by
    rw [evLoopN_succ, body_49_82_0_2, Sp.L_49_82_0_2]
    repeat' first | apply Bgd_49_82_0_2 | apply Bcond_49_82_0_2 | (apply Bin_49_82_0_2_49_82_1_2 <;> intros) | exact loop_49_82_0_2 k m _ _ _ _ _ | rfl
theorem ok_49_82_0_2 {R : Type} (T : St) (k : Ex → St → Option R) (r : R) (h0 : o_49_82_0_2 G_49_82_0_2 T k = some r) : evLoopN (evCode sm_49 FU (evFn sm_49 fns FU 0) ir82_b0) (St.norm ir82_v0) FU T k = some r := by
  obtain ⟨p0, p1, p2, p3, p4, rfl, h⟩ := o_49_82_0_2_inv h0
  refine evLoopN_L (t := (ir82_bt0 O_49_82_1)) noO_ok (ir82_bt0ok (fun T k r => OK_49_82_1 T k r)) _ _ _ _ ?_
  rw [loop_49_82_0_2]
  exact h
theorem body_49_82_0_1 {R : Type} (K0 : St → Option R) (K1 : Ex → St → Option R) (p0 : List Int) (p1 : Int) (p2 : List Int) (p3 : List Int) (p4 : List Int) : evLB (evCodeL sm_49 FU (ovr noO (evFn sm_49 fns FU 0)) (ir82_bt0 O_49_82_1) ir82_b0) (St.norm ir82_v0) (T_49_82_0_1 p0 p1 p2 p3 p4) K0 K1 =
  bif decide (p1 < (↑(List.length p0) : Int)) then Sp.B_49_82_1_1 (Sp.L_49_82_1_1 (4611686018427387904 : Nat) p0 p1 (0 : Int) p2 p3 p4) (fun y14 y15 y16 y17 y18 => K0 (T_49_82_0_1 y14 (IntKind.wrap IntKind.i64 (y15 + (1 : Int))) y16 y17 y18)) fun y19 y20 y21 y22 y23 => K0 (T_49_82_0_2 y19 (IntKind.wrap IntKind.i64 (y20 + (1 : Int))) y21 y22 y23) else K1 (Ex.exit (0 : Nat)) (X_49_82_0_1_0 p2 p3 p4) := by kernel_rfl
theorem Bgd_49_82_0_1 {R : Type} {c : Bool} {x : Option R} {y : Option Sp.E_49_82_0_1} {k0 : (List Int) → (List Int) → (List Int) → Option R} {k1 : (List Int) → (List Int) → (List Int) → Option R} (h : x = Sp.B_49_82_0_1 y k0 k1) : gd c x = Sp.B_49_82_0_1 (gd c y) k0 k1 := by cases c; rfl; exact h
theorem Bcond_49_82_0_1 {R : Type} {c : Bool} {x x' : Option R} {y y' : Option Sp.E_49_82_0_1} {k0 : (List Int) → (List Int) → (List Int) → Option R} {k1 : (List Int) → (List Int) → (List Int) → Option R} (h : x = Sp.B_49_82_0_1 y k0 k1) (h' : x' = Sp.B_49_82_0_1 y' k0 k1) : (bif c then x else x') = Sp.B_49_82_0_1 (bif c then y else y') k0 k1 := by cases c; exact h'; exact h
theorem Bin_49_82_0_1_49_82_0_2 {R : Type} {r : Option Sp.E_49_82_0_2} {k0 : (List Int) → (List Int) → (List Int) → Option R} {k1 : (List Int) → (List Int) → (List Int) → Option R} {f0 : (List Int) → (List Int) → (List Int) → Option R} {g0 : (List Int) → (List Int) → (List Int) → Option Sp.E_49_82_0_1} (h0 : ∀ z0 z1 z2, f0 z0 z1 z2 = Sp.B_49_82_0_1 (g0 z0 z1 z2) k0 k1) : Sp.B_49_82_0_2 r f0 = Sp.B_49_82_0_1 (Sp.B_49_82_0_2 r g0) k0 k1 := by
  cases r with
  | none => rfl
  | some e => cases e with
    | e0 z0 z1 z2 => exact h0 _ _ _
theorem Bin_49_82_0_1_49_82_1_1 {R : Type} {r : Option Sp.E_49_82_1_1} {k0 : (List Int) → (List Int) → (List Int) → Option R} {k1 : (List Int) → (List Int) → (List Int) → Option R} {f0 : (List Int) → (Int) → (List Int) → (List Int) → (List Int) → Option R} {f1 : (List Int) → (Int) → (List Int) → (List Int) → (List Int) → Option R} {g0 : (List Int) → (Int) → (List Int) → (List Int) → (List Int) → Option Sp.E_49_82_0_1} {g1 : (List Int) → (Int) → (List Int) → (List Int) → (List Int) → Option Sp.E_49_82_0_1} (h0 : ∀ z0 z1 z2 z3 z4, f0 z0 z1 z2 z3 z4 = Sp.B_49_82_0_1 (g0 z0 z1 z2 z3 z4) k0 k1) (h1 : ∀ z0 z1 z2 z3 z4, f1 z0 z1 z2 z3 z4 = Sp.B_49_82_0_1 (g1 z0 z1 z2 z3 z4) k0 k1) : Sp.B_49_82_1_1 r f0 f1 = Sp.B_49_82_0_1 (Sp.B_49_82_1_1 r g0 g1) k0 k1 := by
  cases r with
  | none => rfl
  | some e => cases e with
    | e0 z0 z1 z2 z3 z4 => exact h0 _ _ _ _ _
    | e1 z0 z1 z2 z3 z4 => exact h1 _ _ _ _ _
theorem loop_49_82_0_1 {R : Type} (k : Ex → St → Option R) : ∀ (m : Nat) (p0 : List Int) (p1 : Int) (p2 : List Int) (p3 : List Int) (p4 : List Int), evLoopN (evCodeL sm_49 FU (ovr noO (evFn sm_49 fns FU 0)) (ir82_bt0 O_49_82_1) ir82_b0) (St.norm ir82_v0) m (T_49_82_0_1 p0 p1 p2 p3 p4) k = Sp.B_49_82_0_1 (Sp.L_49_82_0_1 m p0 p1 p2 p3 p4) (fun p2 p3 p4 => k (Ex.exit (0 : Nat)) (X_49_82_0_1_0 p2 p3 p4)) (fun p2 p3 p4 => k (Ex.exit (0 : Nat)) (X_49_82_0_1_1 p2 p3 p4))
  | 0, _, _, _, _, _ => rfl
  | m + 1, p0, p1, p2, p3, p4 => by
    rw [evLoopN_succ, body_49_82_0_1, Sp.L_49_82_0_1]
    repeat' first | (refine (loop_49_82_0_2 k m _ _ _ _ _).trans ?_; apply Bin_49_82_0_1_49_82_0_2 <;> intros) | apply Bgd_49_82_0_1 | apply Bcond_49_82_0_1 | (apply Bin_49_82_0_1_49_82_0_2 <;> intros) | (apply Bin_49_82_0_1_49_82_1_1 <;> intros) | exact loop_49_82_0_1 k m _ _ _ _ _ | rfl
theorem ok_49_82_0_1 {R : Type} (T : St) (k : Ex → St → Option R) (r : R) (h0 : o_49_82_0_1 G_49_82_0_1 T k = some r) : evLoopN (evCode sm_49 FU (evFn sm_49 fns FU 0) ir82_b0) (St.norm ir82_v0) FU T k = some r := by
  obtain ⟨p0, p1, p2, p3, p4, rfl, h⟩ := o_49_82_0_1_inv h0
  refine evLoopN_L (t := (ir82_bt0 O_49_82_1)) noO_ok (ir82_bt0ok (fun T k r => OK_49_82_1 T k r)) _ _ _ _ ?_
  rw [loop_49_82_0_1]
  exact h
theorem OK_49_82_0 {R : Type} (T : St) (k : Ex → St → Option R) (r : R) (h : O_49_82_0 T k = some r) : evLoopN (evCode sm_49 FU (evFn sm_49 fns FU 0) ir82_b0) (St.norm ir82_v0) FU T k = some r := by
  unfold O_49_82_0 at h
  cases hm : m_49_82_0_0 T
  rotate_left
  · rw [hm, cond_true] at h; exact ok_49_82_0_0 T k r h
  rw [hm, cond_false] at h
  clear hm
  cases hm : m_49_82_0_1 T
  rotate_left
  · rw [hm, cond_true] at h; exact ok_49_82_0_1 T k r h
  rw [hm, cond_false] at h
  clear hm
  cases hm : m_49_82_0_2 T
  rotate_left
  · rw [hm, cond_true] at h; exact ok_49_82_0_2 T k r h
  rw [hm, cond_false] at h
  clear hm
  cases h
theorem g_49_82_ok {R : Type} (args : List CV) (hp : List Blk) (k : CV → List Blk → Option R) (r : R) (h : g_49_82 args hp k = some r) : evFn sm_49 fns FU 1 82 args hp k = some r :=
  evFnL_sound (fn := ir82) (t := (ir82_t O_49_82_0)) (o := noO) rfl noO_ok (ir82_tok (fun T k r => OK_49_82_0 T k r)) h
theorem ov_49_49_ok {R : Type} : OvrOK (R := R) (fun f' => bif Nat.beq f' 82 then some (g_49_82) else none) (evFn sm_49 fns FU 1) := by
  intro f' g h args hp k r hg
  dsimp only at h
  by_cases h82 : f' = 82
  · subst h82
    injection h with h
    subst h
    exact evFn_le 0 (g_49_82_ok _ _ _ _ hg)
  rw [nbeq_ne h82, cond_false] at h
  cases h
noncomputable def F_49 (a0 : Int) (a1 : (List Int)) : Option ((List Int) × Unit) :=
  Sp.B_49_82_0_0 (Sp.L_49_82_0_0 (4611686018427387904 : Nat) (0 : Int) (List.replicate (32 : Nat) (0 : Int)) [IntKind.wrap IntKind.u32 a0, IntKind.wrap IntKind.u32 (↑(List.length a1) : Int)] []) fun y9 y10 y11 => Sp.B_49_82_0_1 (Sp.L_49_82_0_1 (4611686018427387904 : Nat) a1 (0 : Int) y9 y10 y11) (fun y12 y13 y14 => gd (Sp.p_83 y14) (some ((Sp.v_83 y14).1, PUnit.unit))) fun y15 y16 y17 => gd (Sp.p_83 y17) (some ((Sp.v_83 y17).1, PUnit.unit))
theorem fn_49 (a0 : Int) (a1 : (List Int)) : evFnL sm_49 FU (ovr (fun f' => bif Nat.beq f' 82 then some (g_49_82) else none) (evFn sm_49 fns FU 1)) .nil ir49 (ofH [(.int .i64), (.slice (.int .u32))] (a0, a1, ())) [] (pureK [(.arr 32 (.int .u8))]) = F_49 a0 a1 := by kernel_rfl
noncomputable def Sp.p_49 (a0 : Int) (a1 : (List Int)) : Bool := (F_49 a0 a1).isSome
noncomputable def Sp.v_49 (a0 : Int) (a1 : (List Int)) : (List Int) × Unit := (F_49 a0 a1).getD (dfH [(.arr 32 (.int .u8))])
noncomputable def s_49 : Summ := shN [(.int .i64), (.slice (.int .u32))] [(.arr 32 (.int .u8))] (fun x => Sp.p_49 x.1 x.2.1) (fun x => Sp.v_49 x.1 x.2.1)
theorem pv_49 (a0 : Int) (a1 : (List Int)) {y : (List Int) × Unit} (h : F_49 a0 a1 = some y) : Sp.p_49 a0 a1 = true ∧ Sp.v_49 a0 a1 = y := ⟨by rw [Sp.p_49, h]; rfl, by rw [Sp.v_49, h]; rfl⟩
theorem run_49 (x : HDen [(.int .i64), (.slice (.int .u32))]) (y : HDen [(.arr 32 (.int .u8))]) (h : F_49 x.1 x.2.1 = some y) : evFn sm_49 fns FU 2 49 (ofH [(.int .i64), (.slice (.int .u32))] x) [] (pureK [(.arr 32 (.int .u8))]) = some y :=
  evFnL_sound (fn := ir49) (t := .nil) (o := (fun f' => bif Nat.beq f' 82 then some (g_49_82) else none)) rfl ov_49_49_ok trivial ((fn_49 _ _).trans h)
end
end Go.Ev
namespace Go.Ev
open Go
set_option maxRecDepth 100000
set_option maxHeartbeats 4000000
set_option linter.unusedVariables false
noncomputable section

noncomputable def sm_84 : Nat → Option Summ := fun f => none


noncomputable def F_84 (a0 : (Int × ((List (List Int)) × ((List (List Int)) × Unit)))) : Option (Bool × Unit) :=
  bif decide (a0.1 ≥ (0 : Int)) then bif decide (a0.1 ≤ (3 : Int)) then bif (↑(List.length (a0.2.1)) : Int) == (67 : Int) then some ((↑(List.length (a0.2.2.1)) : Int) == (2 : Int), PUnit.unit) else some (false, PUnit.unit) else some (false, PUnit.unit) else some (false, PUnit.unit)
theorem fn_84 (a0 : (Int × ((List (List Int)) × ((List (List Int)) × Unit)))) : evFnL sm_84 FU (ovr noO (evFn sm_84 fns FU 0)) .nil ir84 (ofH [(.pair (.int .i64) (.pair (.slice (.arr 32 (.int .u8))) (.pair (.slice (.arr 32 (.int .u8))) .unit)))] (a0, ())) [] (pureK [.bool]) = F_84 a0 := by kernel_rfl
noncomputable def Sp.p_84 (a0 : (Int × ((List (List Int)) × ((List (List Int)) × Unit)))) : Bool := (F_84 a0).isSome
noncomputable def Sp.v_84 (a0 : (Int × ((List (List Int)) × ((List (List Int)) × Unit)))) : Bool × Unit := (F_84 a0).getD (dfH [.bool])
noncomputable def s_84 : Summ := shN [(.pair (.int .i64) (.pair (.slice (.arr 32 (.int .u8))) (.pair (.slice (.arr 32 (.int .u8))) .unit)))] [.bool] (fun x => Sp.p_84 x.1) (fun x => Sp.v_84 x.1)
theorem pv_84 (a0 : (Int × ((List (List Int)) × ((List (List Int)) × Unit)))) {y : Bool × Unit} (h : F_84 a0 = some y) : Sp.p_84 a0 = true ∧ Sp.v_84 a0 = y := ⟨by rw [Sp.p_84, h]; rfl, by rw [Sp.v_84, h]; rfl⟩
theorem run_84 (x : HDen [(.pair (.int .i64) (.pair (.slice (.arr 32 (.int .u8))) (.pair (.slice (.arr 32 (.int .u8))) .unit)))]) (y : HDen [.bool]) (h : F_84 x.1 = some y) : evFn sm_84 fns FU 1 84 (ofH [(.pair (.int .i64) (.pair (.slice (.arr 32 (.int .u8))) (.pair (.slice (.arr 32 (.int .u8))) .unit)))] x) [] (pureK [.bool]) = some y :=
  evFnL_sound (fn := ir84) (t := .nil) (o := noO) rfl noO_ok trivial ((fn_84 _).trans h)
end
end Go.Ev
namespace Go.Ev
open Go
set_option maxRecDepth 100000
set_option maxHeartbeats 4000000
set_option linter.unusedVariables false
noncomputable section

noncomputable def sm_85 : Nat → Option Summ := fun f => none
noncomputable def T_85_0 (p0 : Int) (p1 : Int) (p2 : List Int) (p3 : List Int) : St := St.mk ([jk, CV.ptr (0 : Nat) [], jk, CV.whole (1 : Nat), CV.int IntKind.i64 p0, CV.int IntKind.i64 p1] ++ (jl 38)) [Blk.mem (CV.pure (Ty.arr (32 : Nat) (Ty.int IntKind.u8)) p2), Blk.vec (3 : Nat) (Ty.int IntKind.i64) p3] (0 : Nat)
noncomputable def X_85_0_0 (p0 : Int) (p3 : List Int) : St := St.mk ([jk, jk, jk, CV.whole (0 : Nat), CV.int IntKind.i64 p0] ++ (jl 39)) [Blk.vec (3 : Nat) (Ty.int IntKind.i64) p3] (0 : Nat)
inductive Sp.E_85_0 where
  | e0 (p0 : Int) (p3 : List Int)
noncomputable def Sp.B_85_0 {R : Type} (r : Option Sp.E_85_0) (k0 : (Int) → (List Int) → Option R) : Option R := match r with
  | none => none
  | some (.e0 p0 p3) => k0 p0 p3
noncomputable def Sp.L_85_0 : Nat → (Int) → (Int) → (List Int) → (List Int) → Option Sp.E_85_0
  | 0, _, _, _, _ => none
  | m + 1, p0, p1, p2, p3 => bif decide (p1 < (64 : Int)) then gd (inB (IntKind.wrap IntKind.i64 (Int.tdiv p1 (2 : Int))) (32 : Nat)) (gd (decide (Int.toNat (IntKind.wrap IntKind.i64 (Int.tdiv p1 (2 : Int))) < (32 : Nat)) && true) (bif Int.tmod p1 (2 : Int) == (1 : Int) then gd (inB (IntKind.wrap IntKind.i64 (Int.tdiv p1 (2 : Int))) (32 : Nat)) (gd (decide (Int.toNat (IntKind.wrap IntKind.i64 (Int.tdiv p1 (2 : Int))) < (32 : Nat)) && true) (gd (room (List.length p3 + (1 : Nat)) (8 : Nat)) (Sp.L_85_0 m (IntKind.wrap IntKind.i64 (IntKind.wrap IntKind.i64 (p0 + (15 : Int)) - IntKind.wrap IntKind.i64 (Sp.andI IntKind.u8 (List.getD p2 (Int.toNat (IntKind.wrap IntKind.i64 (Int.tdiv p1 (2 : Int)))) (0 : Int)) (15 : Int)))) (IntKind.wrap IntKind.i64 (p1 + (1 : Int))) p2 (p3 ++ [IntKind.wrap IntKind.i64 (Sp.andI IntKind.u8 (List.getD p2 (Int.toNat (IntKind.wrap IntKind.i64 (Int.tdiv p1 (2 : Int)))) (0 : Int)) (15 : Int))])))) else gd (room (List.length p3 + (1 : Nat)) (8 : Nat)) (Sp.L_85_0 m (IntKind.wrap IntKind.i64 (IntKind.wrap IntKind.i64 (p0 + (15 : Int)) - IntKind.wrap IntKind.i64 (Int.fdiv (List.getD p2 (Int.toNat (IntKind.wrap IntKind.i64 (Int.tdiv p1 (2 : Int)))) (0 : Int)) (16 : Int)))) (IntKind.wrap IntKind.i64 (p1 + (1 : Int))) p2 (p3 ++ [IntKind.wrap IntKind.i64 (Int.fdiv (List.getD p2 (Int.toNat (IntKind.wrap IntKind.i64 (Int.tdiv p1 (2 : Int)))) (0 : Int)) (16 : Int))])))) else some (Sp.E_85_0.e0 p0 p3)
noncomputable def G_85_0 {R : Type} (p0 : Int) (p1 : Int) (p2 : List Int) (p3 : List Int) (k : Ex → St → Option R) : Option R := Sp.B_85_0 (Sp.L_85_0 FU p0 p1 p2 p3) (fun p0 p3 => k (Ex.exit (0 : Nat)) (X_85_0_0 p0 p3))
noncomputable def o_85_0 {R : Type} (G : (Int) → (Int) → (List Int) → (List Int) → (Ex → St → Option R) → Option R) : St → (Ex → St → Option R) → Option R := fun T k => match T.sl.getD 1 .junk, T.sl.getD 3 .junk, T.sl.getD 4 .junk, T.sl.getD 5 .junk, T.hp with
  | CV.ptr (0 : Nat) [], CV.whole (1 : Nat), CV.int IntKind.i64 p0, CV.int IntKind.i64 p1, ((Blk.mem (CV.pure (Ty.arr (32 : Nat) (Ty.int IntKind.u8)) p2)) :: (Blk.vec (3 : Nat) (Ty.int IntKind.i64) p3) :: []) => gd (shapeOK T 44 [1, 3, 4, 5] (0 : Nat)) (G p0 p1 p2 p3 k)
  | _, _, _, _, _ => none
theorem o_85_0_inv {R : Type} {G : (Int) → (Int) → (List Int) → (List Int) → (Ex → St → Option R) → Option R} {T : St} {k : Ex → St → Option R} {r : R} (h : o_85_0 G T k = some r) : ∃ p0 p1 p2 p3, T = T_85_0 p0 p1 p2 p3 ∧ G p0 p1 p2 p3 k = some r := by
  unfold o_85_0 at h
  split at h
  · obtain ⟨hs, h'⟩ := gd_some h
    refine ⟨_, _, _, _, (st_of (asg := [(1, _), (3, _), (4, _), (5, _)]) hs ⟨by assumption, by assumption, by assumption, by assumption, trivial⟩ (by assumption)).trans ?_, h'⟩
    kernel_rfl
  · cases h
noncomputable def O_85_85_0 {R : Type} : St → (Ex → St → Option R) → Option R := fun T k => o_85_0 G_85_0 T k
theorem body_85_0 {R : Type} (K0 : St → Option R) (K1 : Ex → St → Option R) (p0 : Int) (p1 : Int) (p2 : List Int) (p3 : List Int) : evLB (evCodeL sm_85 FU (ovr noO (evFn sm_85 fns FU 0)) .nil ir85_b0) (St.norm ir85_v0) (T_85_0 p0 p1 p2 p3) K0 K1 =
  bif decide (p1 < (64 : Int)) then gd (inB (IntKind.wrap IntKind.i64 (Int.tdiv p1 (2 : Int))) (32 : Nat)) (gd (decide (Int.toNat (IntKind.wrap IntKind.i64 (Int.tdiv p1 (2 : Int))) < (32 : Nat)) && true) (bif Int.tmod p1 (2 : Int) == (1 : Int) then gd (inB (IntKind.wrap IntKind.i64 (Int.tdiv p1 (2 : Int))) (32 : Nat)) (gd (decide (Int.toNat (IntKind.wrap IntKind.i64 (Int.tdiv p1 (2 : Int))) < (32 : Nat)) && true) (gd (room (List.length p3 + (1 : Nat)) (8 : Nat)) (K0 (T_85_0 (IntKind.wrap IntKind.i64 (IntKind.wrap IntKind.i64 (p0 + (15 : Int)) - IntKind.wrap IntKind.i64 (Sp.andI IntKind.u8 (List.getD p2 (Int.toNat (IntKind.wrap IntKind.i64 (Int.tdiv p1 (2 : Int)))) (0 : Int)) (15 : Int)))) (IntKind.wrap IntKind.i64 (p1 + (1 : Int))) p2 (p3 ++ [IntKind.wrap IntKind.i64 (Sp.andI IntKind.u8 (List.getD p2 (Int.toNat (IntKind.wrap IntKind.i64 (Int.tdiv p1 (2 : Int)))) (0 : Int)) (15 : Int))]))))) else gd (room (List.length p3 + (1 : Nat)) (8 : Nat)) (K0 (T_85_0 (IntKind.wrap IntKind.i64 (IntKind.wrap IntKind.i64 (p0 + (15 : Int)) - IntKind.wrap IntKind.i64 (Int.fdiv (List.getD p2 (Int.toNat (IntKind.wrap IntKind.i64 (Int.tdiv p1 (2 : Int)))) (0 : Int)) (16 : Int)))) (IntKind.wrap IntKind.i64 (p1 + (1 : Int))) p2 (p3 ++ [IntKind.wrap IntKind.i64 (Int.fdiv (List.getD p2 (Int.toNat (IntKind.wrap IntKind.i64 (Int.tdiv p1 (2 : Int)))) (0 : Int)) (16 : Int))]))))) else K1 (Ex.exit (0 : Nat)) (X_85_0_0 p0 p3) := by kernel_rfl
theorem Bgd_85_0 {R : Type} {c : Bool} {x : Option R} {y : Option Sp.E_85_0} {k0 : (Int) → (List Int) → Option R} (h : x = Sp.B_85_0 y k0) : gd c x = Sp.B_85_0 (gd c y) k0 := by cases c; rfl; exact h
theorem Bcond_85_0 {R : Type} {c : Bool} {x x' : Option R} {y y' : Option Sp.E_85_0} {k0 : (Int) → (List Int) → Option R} (h : x = Sp.B_85_0 y k0) (h' : x' = Sp.B_85_0 y' k0) : (bif c then x else x') = Sp.B_85_0 (bif c then y else y') k0 := by cases c; exact h'; exact h
theorem loop_85_0 {R : Type} (k : Ex → St → Option R) : ∀ (m : Nat) (p0 : Int) (p1 : Int) (p2 : List Int) (p3 : List Int), evLoopN (evCodeL sm_85 FU (ovr noO (evFn sm_85 fns FU 0)) .nil ir85_b0) (St.norm ir85_v0) m (T_85_0 p0 p1 p2 p3) k = Sp.B_85_0 (Sp.L_85_0 m p0 p1 p2 p3) (fun p0 p3 => k (Ex.exit (0 : Nat)) (X_85_0_0 p0 p3))
  | 0, _, _, _, _ => rfl
  | m + 1, p0, p1, p2, p3 => by
    rw [evLoopN_succ, body_85_0, Sp.L_85_0]
    repeat' first | apply Bgd_85_0 | apply Bcond_85_0 | exact loop_85_0 k m _ _ _ _ | rfl
theorem ok_85_0 {R : Type} (T : St) (k : Ex → St → Option R) (r : R) (h0 : o_85_0 G_85_0 T k = some r) : evLoopN (evCode sm_85 FU (evFn sm_85 fns FU 0) ir85_b0) (St.norm ir85_v0) FU T k = some r := by
  obtain ⟨p0, p1, p2, p3, rfl, h⟩ := o_85_0_inv h0
  refine evLoopN_L (t := .nil) noO_ok trivial _ _ _ _ ?_
  rw [loop_85_0]
  exact h
theorem OK_85_85_0 {R : Type} (T : St) (k : Ex → St → Option R) (r : R) (h : O_85_85_0 T k = some r) : evLoopN (evCode sm_85 FU (evFn sm_85 fns FU 0) ir85_b0) (St.norm ir85_v0) FU T k = some r := ok_85_0 T k r h
noncomputable def F_85 (a0 : (List Int)) : Option ((List Int) × Unit) :=
  Sp.B_85_0 (Sp.L_85_0 (4611686018427387904 : Nat) (0 : Int) (0 : Int) a0 []) fun y2 y3 => gd (room (List.length y3 + (3 : Nat)) (8 : Nat)) (some (y3 ++ [IntKind.wrap IntKind.i64 (Int.tdiv y2 (256 : Int)), Int.tmod (IntKind.wrap IntKind.i64 (Int.tdiv y2 (16 : Int))) (16 : Int), Int.tmod y2 (16 : Int)], PUnit.unit))
theorem fn_85 (a0 : (List Int)) : evFnL sm_85 FU (ovr noO (evFn sm_85 fns FU 0)) (ir85_t O_85_85_0) ir85 (ofH [(.arr 32 (.int .u8))] (a0, ())) [] (pureK [(.slice (.int .i64))]) = F_85 a0 := by kernel_rfl
noncomputable def Sp.p_85 (a0 : (List Int)) : Bool := (F_85 a0).isSome
noncomputable def Sp.v_85 (a0 : (List Int)) : (List Int) × Unit := (F_85 a0).getD (dfH [(.slice (.int .i64))])
noncomputable def s_85 : Summ := shS [(.arr 32 (.int .u8))] [(.slice (.int .i64))] (fun x => Sp.p_85 x.1) (fun x => Sp.v_85 x.1)
theorem pv_85 (a0 : (List Int)) {y : (List Int) × Unit} (h : F_85 a0 = some y) : Sp.p_85 a0 = true ∧ Sp.v_85 a0 = y := ⟨by rw [Sp.p_85, h]; rfl, by rw [Sp.v_85, h]; rfl⟩
theorem run_85 (x : HDen [(.arr 32 (.int .u8))]) (y : HDen [(.slice (.int .i64))]) (h : F_85 x.1 = some y) : evFn sm_85 fns FU 1 85 (ofH [(.arr 32 (.int .u8))] x) [] (pureK [(.slice (.int .i64))]) = some y :=
  evFnL_sound (fn := ir85) (t := (ir85_t O_85_85_0)) (o := noO) rfl noO_ok (ir85_tok (fun T k r => OK_85_85_0 T k r)) ((fn_85 _).trans h)
end
end Go.Ev
namespace Go.Ev
open Go
set_option maxRecDepth 100000
set_option maxHeartbeats 4000000
set_option linter.unusedVariables false
noncomputable section

noncomputable def sm_86 : Nat → Option Summ := fun f => bif Nat.beq f 83 then some s_83 else none
noncomputable def T_86_0 (p0 : Int) (p1 : Int) (p2 : List Int) (p3 : List Int) : St := St.mk ([jk, jk, CV.int IntKind.i64 p0, CV.ptr (0 : Nat) [], jk, jk, CV.ptr (1 : Nat) [], CV.int IntKind.i64 p1] ++ (jl 13)) [Blk.mem (CV.pure (Ty.arr (32 : Nat) (Ty.int IntKind.u8)) p2), Blk.mem (CV.pure (Ty.arr (32 : Nat) (Ty.int IntKind.u8)) p3)] (0 : Nat)
noncomputable def X_86_0_0 (p2 : List Int) (p3 : List Int) : St := St.mk ([jk, jk, jk, CV.ptr (0 : Nat) [], jk, jk, CV.ptr (1 : Nat) []] ++ (jl 14)) [Blk.mem (CV.pure (Ty.arr (32 : Nat) (Ty.int IntKind.u8)) p2), Blk.mem (CV.pure (Ty.arr (32 : Nat) (Ty.int IntKind.u8)) p3)] (0 : Nat)
inductive Sp.E_86_0 where
  | e0 (p2 : List Int) (p3 : List Int)
noncomputable def Sp.B_86_0 {R : Type} (r : Option Sp.E_86_0) (k0 : (List Int) → (List Int) → Option R) : Option R := match r with
  | none => none
  | some (.e0 p2 p3) => k0 p2 p3
noncomputable def Sp.L_86_0 : Nat → (Int) → (Int) → (List Int) → (List Int) → Option Sp.E_86_0
  | 0, _, _, _, _ => none
  | m + 1, p0, p1, p2, p3 => bif decide (p1 < p0) then gd (room ((1 : Nat) + List.length (List.take (32 : Nat) (List.drop (0 : Nat) p2))) (1 : Nat)) (gd (Sp.p_83 ([IntKind.wrap IntKind.u8 p1] ++ List.take (32 : Nat) (List.drop (0 : Nat) p2))) (Sp.L_86_0 m p0 (IntKind.wrap IntKind.i64 (p1 + (1 : Int))) ((Sp.v_83 ([IntKind.wrap IntKind.u8 p1] ++ List.take (32 : Nat) (List.drop (0 : Nat) p2))).1) p3)) else some (Sp.E_86_0.e0 p2 p3)
noncomputable def G_86_0 {R : Type} (p0 : Int) (p1 : Int) (p2 : List Int) (p3 : List Int) (k : Ex → St → Option R) : Option R := Sp.B_86_0 (Sp.L_86_0 FU p0 p1 p2 p3) (fun p2 p3 => k (Ex.exit (0 : Nat)) (X_86_0_0 p2 p3))
noncomputable def o_86_0 {R : Type} (G : (Int) → (Int) → (List Int) → (List Int) → (Ex → St → Option R) → Option R) : St → (Ex → St → Option R) → Option R := fun T k => match T.sl.getD 2 .junk, T.sl.getD 3 .junk, T.sl.getD 6 .junk, T.sl.getD 7 .junk, T.hp with
  | CV.int IntKind.i64 p0, CV.ptr (0 : Nat) [], CV.ptr (1 : Nat) [], CV.int IntKind.i64 p1, ((Blk.mem (CV.pure (Ty.arr (32 : Nat) (Ty.int IntKind.u8)) p2)) :: (Blk.mem (CV.pure (Ty.arr (32 : Nat) (Ty.int IntKind.u8)) p3)) :: []) => gd (shapeOK T 21 [2, 3, 6, 7] (0 : Nat)) (G p0 p1 p2 p3 k)
  | _, _, _, _, _ => none
theorem o_86_0_inv {R : Type} {G : (Int) → (Int) → (List Int) → (List Int) → (Ex → St → Option R) → Option R} {T : St} {k : Ex → St → Option R} {r : R} (h : o_86_0 G T k = some r) : ∃ p0 p1 p2 p3, T = T_86_0 p0 p1 p2 p3 ∧ G p0 p1 p2 p3 k = some r := by
  unfold o_86_0 at h
  split at h
  · obtain ⟨hs, h'⟩ := gd_some h
    refine ⟨_, _, _, _, (st_of (asg := [(2, _), (3, _), (6, _), (7, _)]) hs ⟨by assumption, by assumption, by assumption, by assumption, trivial⟩ (by assumption)).trans ?_, h'⟩
    kernel_rfl
  · cases h
noncomputable def O_86_86_0 {R : Type} : St → (Ex → St → Option R) → Option R := fun T k => o_86_0 G_86_0 T k
theorem body_86_0 {R : Type} (K0 : St → Option R) (K1 : Ex → St → Option R) (p0 : Int) (p1 : Int) (p2 : List Int) (p3 : List Int) : evLB (evCodeL sm_86 FU (ovr noO (evFn sm_86 fns FU 0)) .nil ir86_b0) (St.norm ir86_v0) (T_86_0 p0 p1 p2 p3) K0 K1 =
  bif decide (p1 < p0) then gd (room ((1 : Nat) + List.length (List.take (32 : Nat) (List.drop (0 : Nat) p2))) (1 : Nat)) (gd (Sp.p_83 ([IntKind.wrap IntKind.u8 p1] ++ List.take (32 : Nat) (List.drop (0 : Nat) p2))) (K0 (T_86_0 p0 (IntKind.wrap IntKind.i64 (p1 + (1 : Int))) ((Sp.v_83 ([IntKind.wrap IntKind.u8 p1] ++ List.take (32 : Nat) (List.drop (0 : Nat) p2))).1) p3))) else K1 (Ex.exit (0 : Nat)) (X_86_0_0 p2 p3) := by kernel_rfl
theorem Bgd_86_0 {R : Type} {c : Bool} {x : Option R} {y : Option Sp.E_86_0} {k0 : (List Int) → (List Int) → Option R} (h : x = Sp.B_86_0 y k0) : gd c x = Sp.B_86_0 (gd c y) k0 := by cases c; rfl; exact h
theorem Bcond_86_0 {R : Type} {c : Bool} {x x' : Option R} {y y' : Option Sp.E_86_0} {k0 : (List Int) → (List Int) → Option R} (h : x = Sp.B_86_0 y k0) (h' : x' = Sp.B_86_0 y' k0) : (bif c then x else x') = Sp.B_86_0 (bif c then y else y') k0 := by cases c; exact h'; exact h
theorem loop_86_0 {R : Type} (k : Ex → St → Option R) : ∀ (m : Nat) (p0 : Int) (p1 : Int) (p2 : List Int) (p3 : List Int), evLoopN (evCodeL sm_86 FU (ovr noO (evFn sm_86 fns FU 0)) .nil ir86_b0) (St.norm ir86_v0) m (T_86_0 p0 p1 p2 p3) k = Sp.B_86_0 (Sp.L_86_0 m p0 p1 p2 p3) (fun p2 p3 => k (Ex.exit (0 : Nat)) (X_86_0_0 p2 p3))
  | 0, _, _, _, _ => rfl
  | m + 1, p0, p1, p2, p3 => by
    rw [evLoopN_succ, body_86_0, Sp.L_86_0]
    repeat' first | apply Bgd_86_0 | apply Bcond_86_0 | exact loop_86_0 k m _ _ _ _ | rfl
theorem ok_86_0 {R : Type} (T : St) (k : Ex → St → Option R) (r : R) (h0 : o_86_0 G_86_0 T k = some r) : evLoopN (evCode sm_86 FU (evFn sm_86 fns FU 0) ir86_b0) (St.norm ir86_v0) FU T k = some r := by
  obtain ⟨p0, p1, p2, p3, rfl, h⟩ := o_86_0_inv h0
  refine evLoopN_L (t := .nil) noO_ok trivial _ _ _ _ ?_
  rw [loop_86_0]
  exact h
theorem OK_86_86_0 {R : Type} (T : St) (k : Ex → St → Option R) (r : R) (h : O_86_86_0 T k = some r) : evLoopN (evCode sm_86 FU (evFn sm_86 fns FU 0) ir86_b0) (St.norm ir86_v0) FU T k = some r := ok_86_0 T k r h
noncomputable def F_86 (a0 : (List Int)) (a1 : Int) (a2 : Int) : Option ((List Int) × Unit) :=
  Sp.B_86_0 (Sp.L_86_0 (4611686018427387904 : Nat) a2 a1 a0 (List.replicate (32 : Nat) (0 : Int))) fun y2 y3 => some (y2, PUnit.unit)
theorem fn_86 (a0 : (List Int)) (a1 : Int) (a2 : Int) : evFnL sm_86 FU (ovr noO (evFn sm_86 fns FU 0)) (ir86_t O_86_86_0) ir86 (ofH [(.arr 32 (.int .u8)), (.int .i64), (.int .i64)] (a0, a1, a2, ())) [] (pureK [(.arr 32 (.int .u8))]) = F_86 a0 a1 a2 := by kernel_rfl
noncomputable def Sp.p_86 (a0 : (List Int)) (a1 : Int) (a2 : Int) : Bool := (F_86 a0 a1 a2).isSome
noncomputable def Sp.v_86 (a0 : (List Int)) (a1 : Int) (a2 : Int) : (List Int) × Unit := (F_86 a0 a1 a2).getD (dfH [(.arr 32 (.int .u8))])
noncomputable def s_86 : Summ := shN [(.arr 32 (.int .u8)), (.int .i64), (.int .i64)] [(.arr 32 (.int .u8))] (fun x => Sp.p_86 x.1 x.2.1 x.2.2.1) (fun x => Sp.v_86 x.1 x.2.1 x.2.2.1)
theorem pv_86 (a0 : (List Int)) (a1 : Int) (a2 : Int) {y : (List Int) × Unit} (h : F_86 a0 a1 a2 = some y) : Sp.p_86 a0 a1 a2 = true ∧ Sp.v_86 a0 a1 a2 = y := ⟨by rw [Sp.p_86, h]; rfl, by rw [Sp.v_86, h]; rfl⟩
theorem run_86 (x : HDen [(.arr 32 (.int .u8)), (.int .i64), (.int .i64)]) (y : HDen [(.arr 32 (.int .u8))]) (h : F_86 x.1 x.2.1 x.2.2.1 = some y) : evFn sm_86 fns FU 1 86 (ofH [(.arr 32 (.int .u8)), (.int .i64), (.int .i64)] x) [] (pureK [(.arr 32 (.int .u8))]) = some y :=
  evFnL_sound (fn := ir86) (t := (ir86_t O_86_86_0)) (o := noO) rfl noO_ok (ir86_tok (fun T k r => OK_86_86_0 T k r)) ((fn_86 _ _ _).trans h)
end
end Go.Ev
namespace Go.Ev
open Go
set_option maxRecDepth 100000
set_option maxHeartbeats 4000000
set_option linter.unusedVariables false
noncomputable section

noncomputable def sm_87 : Nat → Option Summ := fun f => bif Nat.beq f 83 then some s_83 else none
noncomputable def T_87_0 (p0 : List (List Int)) (p1 : Int) (p2 : List Int) (p3 : List Int) : St := St.mk ([CV.pure (Ty.slice (Ty.arr (32 : Nat) (Ty.int IntKind.u8))) p0, jk, CV.ptr (0 : Nat) [], CV.whole (1 : Nat), CV.int IntKind.i64 p1] ++ (jl 14)) [Blk.mem (CV.pure (Ty.arr (32 : Nat) (Ty.int IntKind.u8)) p2), Blk.vec (5 : Nat) (Ty.int IntKind.u8) p3] (0 : Nat)
noncomputable def X_87_0_0 (p2 : List Int) (p3 : List Int) : St := St.mk ([jk, jk, CV.ptr (0 : Nat) [], CV.whole (1 : Nat)] ++ (jl 15)) [Blk.mem (CV.pure (Ty.arr (32 : Nat) (Ty.int IntKind.u8)) p2), Blk.vec (5 : Nat) (Ty.int IntKind.u8) p3] (0 : Nat)
inductive Sp.E_87_0 where
  | e0 (p2 : List Int) (p3 : List Int)
noncomputable def Sp.B_87_0 {R : Type} (r : Option Sp.E_87_0) (k0 : (List Int) → (List Int) → Option R) : Option R := match r with
  | none => none
  | some (.e0 p2 p3) => k0 p2 p3
noncomputable def Sp.L_87_0 : Nat → (List (List Int)) → (Int) → (List Int) → (List Int) → Option Sp.E_87_0
  | 0, _, _, _, _ => none
  | m + 1, p0, p1, p2, p3 => bif decide (p1 < (↑(List.length p0) : Int)) then gd (inB p1 (List.length p0)) (gd (room (List.length p3 + List.length (List.take (32 : Nat) (List.drop (0 : Nat) (List.getD p0 (Int.toNat p1) (Ty.dflt (Ty.arr (32 : Nat) (Ty.int IntKind.u8))))))) (1 : Nat)) (Sp.L_87_0 m p0 (IntKind.wrap IntKind.i64 (p1 + (1 : Int))) p2 (p3 ++ List.take (32 : Nat) (List.drop (0 : Nat) (List.getD p0 (Int.toNat p1) (Ty.dflt (Ty.arr (32 : Nat) (Ty.int IntKind.u8)))))))) else some (Sp.E_87_0.e0 p2 p3)
noncomputable def G_87_0 {R : Type} (p0 : List (List Int)) (p1 : Int) (p2 : List Int) (p3 : List Int) (k : Ex → St → Option R) : Option R := Sp.B_87_0 (Sp.L_87_0 FU p0 p1 p2 p3) (fun p2 p3 => k (Ex.exit (0 : Nat)) (X_87_0_0 p2 p3))
noncomputable def o_87_0 {R : Type} (G : (List (List Int)) → (Int) → (List Int) → (List Int) → (Ex → St → Option R) → Option R) : St → (Ex → St → Option R) → Option R := fun T k => match T.sl.getD 0 .junk, T.sl.getD 2 .junk, T.sl.getD 3 .junk, T.sl.getD 4 .junk, T.hp with
  | CV.pure (Ty.slice (Ty.arr (32 : Nat) (Ty.int IntKind.u8))) p0, CV.ptr (0 : Nat) [], CV.whole (1 : Nat), CV.int IntKind.i64 p1, ((Blk.mem (CV.pure (Ty.arr (32 : Nat) (Ty.int IntKind.u8)) p2)) :: (Blk.vec (5 : Nat) (Ty.int IntKind.u8) p3) :: []) => gd (shapeOK T 19 [0, 2, 3, 4] (0 : Nat)) (G p0 p1 p2 p3 k)
  | _, _, _, _, _ => none
theorem o_87_0_inv {R : Type} {G : (List (List Int)) → (Int) → (List Int) → (List Int) → (Ex → St → Option R) → Option R} {T : St} {k : Ex → St → Option R} {r : R} (h : o_87_0 G T k = some r) : ∃ p0 p1 p2 p3, T = T_87_0 p0 p1 p2 p3 ∧ G p0 p1 p2 p3 k = some r := by
  unfold o_87_0 at h
  split at h
  · obtain ⟨hs, h'⟩ := gd_some h
    refine ⟨_, _, _, _, (st_of (asg := [(0, _), (2, _), (3, _), (4, _)]) hs ⟨by assumption, by assumption, by assumption, by assumption, trivial⟩ (by assumption)).trans ?_, h'⟩
    kernel_rfl
  · cases h
noncomputable def O_87_87_0 {R : Type} : St → (Ex → St → Option R) → Option R := fun T k => o_87_0 G_87_0 T k
theorem body_87_0 {R : Type} (K0 : St → Option R) (K1 : Ex → St → Option R) (p0 : List (List Int)) (p1 : Int) (p2 : List Int) (p3 : List Int) : evLB (evCodeL sm_87 FU (ovr noO (evFn sm_87 fns FU 0)) .nil ir87_b0) (St.norm ir87_v0) (T_87_0 p0 p1 p2 p3) K0 K1 =
  bif decide (p1 < (↑(List.length p0) : Int)) then gd (inB p1 (List.length p0)) (gd (room (List.length p3 + List.length (List.take (32 : Nat) (List.drop (0 : Nat) (List.getD p0 (Int.toNat p1) (Ty.dflt (Ty.arr (32 : Nat) (Ty.int IntKind.u8))))))) (1 : Nat)) (K0 (T_87_0 p0 (IntKind.wrap IntKind.i64 (p1 + (1 : Int))) p2 (p3 ++ List.take (32 : Nat) (List.drop (0 : Nat) (List.getD p0 (Int.toNat p1) (Ty.dflt (Ty.arr (32 : Nat) (Ty.int IntKind.u8))))))))) else K1 (Ex.exit (0 : Nat)) (X_87_0_0 p2 p3) := by kernel_rfl
theorem Bgd_87_0 {R : Type} {c : Bool} {x : Option R} {y : Option Sp.E_87_0} {k0 : (List Int) → (List Int) → Option R} (h : x = Sp.B_87_0 y k0) : gd c x = Sp.B_87_0 (gd c y) k0 := by cases c; rfl; exact h
theorem Bcond_87_0 {R : Type} {c : Bool} {x x' : Option R} {y y' : Option Sp.E_87_0} {k0 : (List Int) → (List Int) → Option R} (h : x = Sp.B_87_0 y k0) (h' : x' = Sp.B_87_0 y' k0) : (bif c then x else x') = Sp.B_87_0 (bif c then y else y') k0 := by cases c; exact h'; exact h
theorem loop_87_0 {R : Type} (k : Ex → St → Option R) : ∀ (m : Nat) (p0 : List (List Int)) (p1 : Int) (p2 : List Int) (p3 : List Int), evLoopN (evCodeL sm_87 FU (ovr noO (evFn sm_87 fns FU 0)) .nil ir87_b0) (St.norm ir87_v0) m (T_87_0 p0 p1 p2 p3) k = Sp.B_87_0 (Sp.L_87_0 m p0 p1 p2 p3) (fun p2 p3 => k (Ex.exit (0 : Nat)) (X_87_0_0 p2 p3))
  | 0, _, _, _, _ => rfl
  | m + 1, p0, p1, p2, p3 => by
    rw [evLoopN_succ, body_87_0, Sp.L_87_0]
    repeat' first | apply Bgd_87_0 | apply Bcond_87_0 | exact loop_87_0 k m _ _ _ _ | rfl
theorem ok_87_0 {R : Type} (T : St) (k : Ex → St → Option R) (r : R) (h0 : o_87_0 G_87_0 T k = some r) : evLoopN (evCode sm_87 FU (evFn sm_87 fns FU 0) ir87_b0) (St.norm ir87_v0) FU T k = some r := by
  obtain ⟨p0, p1, p2, p3, rfl, h⟩ := o_87_0_inv h0
  refine evLoopN_L (t := .nil) noO_ok trivial _ _ _ _ ?_
  rw [loop_87_0]
  exact h
theorem OK_87_87_0 {R : Type} (T : St) (k : Ex → St → Option R) (r : R) (h : O_87_87_0 T k = some r) : evLoopN (evCode sm_87 FU (evFn sm_87 fns FU 0) ir87_b0) (St.norm ir87_v0) FU T k = some r := ok_87_0 T k r h
noncomputable def F_87 (a0 : (List (List Int))) : Option ((List Int) × Unit) :=
  Sp.B_87_0 (Sp.L_87_0 (4611686018427387904 : Nat) a0 (0 : Int) (List.replicate (32 : Nat) (0 : Int)) []) fun y2 y3 => gd (Sp.p_83 y3) (some ((Sp.v_83 y3).1, PUnit.unit))
theorem fn_87 (a0 : (List (List Int))) : evFnL sm_87 FU (ovr noO (evFn sm_87 fns FU 0)) (ir87_t O_87_87_0) ir87 (ofH [(.slice (.arr 32 (.int .u8)))] (a0, ())) [] (pureK [(.arr 32 (.int .u8))]) = F_87 a0 := by kernel_rfl
noncomputable def Sp.p_87 (a0 : (List (List Int))) : Bool := (F_87 a0).isSome
noncomputable def Sp.v_87 (a0 : (List (List Int))) : (List Int) × Unit := (F_87 a0).getD (dfH [(.arr 32 (.int .u8))])
noncomputable def s_87 : Summ := shN [(.slice (.arr 32 (.int .u8)))] [(.arr 32 (.int .u8))] (fun x => Sp.p_87 x.1) (fun x => Sp.v_87 x.1)
theorem pv_87 (a0 : (List (List Int))) {y : (List Int) × Unit} (h : F_87 a0 = some y) : Sp.p_87 a0 = true ∧ Sp.v_87 a0 = y := ⟨by rw [Sp.p_87, h]; rfl, by rw [Sp.v_87, h]; rfl⟩
theorem run_87 (x : HDen [(.slice (.arr 32 (.int .u8)))]) (y : HDen [(.arr 32 (.int .u8))]) (h : F_87 x.1 = some y) : evFn sm_87 fns FU 1 87 (ofH [(.slice (.arr 32 (.int .u8)))] x) [] (pureK [(.arr 32 (.int .u8))]) = some y :=
  evFnL_sound (fn := ir87) (t := (ir87_t O_87_87_0)) (o := noO) rfl noO_ok (ir87_tok (fun T k r => OK_87_87_0 T k r)) ((fn_87 _).trans h)
end
end Go.Ev
namespace Go.Ev
open Go
set_option maxRecDepth 100000
set_option maxHeartbeats 4000000
set_option linter.unusedVariables false
noncomputable section

noncomputable def sm_88 : Nat → Option Summ := fun f => bif Nat.beq f 83 then some s_83 else none


noncomputable def F_88 (a0 : (List Int)) (a1 : (List Int)) : Option ((List Int) × Unit) :=
  gd (room ((1 : Nat) + List.length (List.take (32 : Nat) (List.drop (0 : Nat) a0))) (1 : Nat)) (gd (room (List.length ([(255 : Int)] ++ List.take (32 : Nat) (List.drop (0 : Nat) a0)) + List.length (List.take (32 : Nat) (List.drop (0 : Nat) a1))) (1 : Nat)) (gd (Sp.p_83 ([(255 : Int)] ++ List.take (32 : Nat) (List.drop (0 : Nat) a0) ++ List.take (32 : Nat) (List.drop (0 : Nat) a1))) (some ((Sp.v_83 ([(255 : Int)] ++ List.take (32 : Nat) (List.drop (0 : Nat) a0) ++ List.take (32 : Nat) (List.drop (0 : Nat) a1))).1, PUnit.unit))))
theorem fn_88 (a0 : (List Int)) (a1 : (List Int)) : evFnL sm_88 FU (ovr noO (evFn sm_88 fns FU 0)) .nil ir88 (ofH [(.arr 32 (.int .u8)), (.arr 32 (.int .u8))] (a0, a1, ())) [] (pureK [(.arr 32 (.int .u8))]) = F_88 a0 a1 := by kernel_rfl
noncomputable def Sp.p_88 (a0 : (List Int)) (a1 : (List Int)) : Bool := (F_88 a0 a1).isSome
noncomputable def Sp.v_88 (a0 : (List Int)) (a1 : (List Int)) : (List Int) × Unit := (F_88 a0 a1).getD (dfH [(.arr 32 (.int .u8))])
noncomputable def s_88 : Summ := shN [(.arr 32 (.int .u8)), (.arr 32 (.int .u8))] [(.arr 32 (.int .u8))] (fun x => Sp.p_88 x.1 x.2.1) (fun x => Sp.v_88 x.1 x.2.1)
theorem pv_88 (a0 : (List Int)) (a1 : (List Int)) {y : (List Int) × Unit} (h : F_88 a0 a1 = some y) : Sp.p_88 a0 a1 = true ∧ Sp.v_88 a0 a1 = y := ⟨by rw [Sp.p_88, h]; rfl, by rw [Sp.v_88, h]; rfl⟩
theorem run_88 (x : HDen [(.arr 32 (.int .u8)), (.arr 32 (.int .u8))]) (y : HDen [(.arr 32 (.int .u8))]) (h : F_88 x.1 x.2.1 = some y) : evFn sm_88 fns FU 1 88 (ofH [(.arr 32 (.int .u8)), (.arr 32 (.int .u8))] x) [] (pureK [(.arr 32 (.int .u8))]) = some y :=
  evFnL_sound (fn := ir88) (t := .nil) (o := noO) rfl noO_ok trivial ((fn_88 _ _).trans h)
end
end Go.Ev
namespace Go.Ev
open Go
set_option maxRecDepth 100000
set_option maxHeartbeats 4000000
set_option linter.unusedVariables false
noncomputable section
abbrev Zt50_0 : Type := Int × List (List Int) × List (List Int) × Unit
abbrev Zy50_1 : Ty := (Ty.arr (32 : Nat) (Ty.int IntKind.u8))
abbrev Zy50_2 : Ty := (Ty.pair (Ty.int IntKind.i64) (Ty.pair (Ty.slice (Ty.arr (32 : Nat) (Ty.int IntKind.u8))) (Ty.pair (Ty.slice (Ty.arr (32 : Nat) (Ty.int IntKind.u8))) Ty.unit)))
abbrev Zy50_3 : Ty := (.pair (.int .i64) (.pair (.slice (.arr 32 (.int .u8))) (.pair (.slice (.arr 32 (.int .u8))) .unit)))
abbrev Zt50_4 : Type := List (List Int)

noncomputable def sm_50 : Nat → Option Summ := fun f => bif Nat.beq f 84 then some s_84 else bif Nat.beq f 85 then some s_85 else bif Nat.beq f 86 then some s_86 else bif Nat.beq f 87 then some s_87 else bif Nat.beq f 88 then some s_88 else none
noncomputable def T_50_0 (p0 : List Int) (p1 : Int) (p2 : List Int) (p3 : Zt50_0) (p4 : Zt50_4) : St := St.mk ([jk, jk, jk, CV.ptr (0 : Nat) [], jk, CV.ptr (1 : Nat) [], jk, CV.pure (Ty.slice (Ty.int IntKind.i64)) p0, CV.whole (2 : Nat), CV.int IntKind.i64 p1] ++ (jl 60)) [Blk.mem (CV.pure Zy50_1 p2), Blk.mem (CV.pure Zy50_2 p3), Blk.vec (27 : Nat) Zy50_1 p4] (0 : Nat)
noncomputable def X_50_0_0 (p2 : List Int) (p3 : Zt50_0) (p4 : Zt50_4) : St := St.mk ([jk, jk, jk, CV.ptr (0 : Nat) [], jk, CV.ptr (1 : Nat) [], jk, jk, CV.whole (2 : Nat)] ++ (jl 61)) [Blk.mem (CV.pure Zy50_1 p2), Blk.mem (CV.pure Zy50_2 p3), Blk.vec (27 : Nat) Zy50_1 p4] (0 : Nat)
inductive Sp.E_50_0 where
  | e0 (p2 : List Int) (p3 : Zt50_0) (p4 : Zt50_4)
noncomputable def Sp.B_50_0 {R : Type} (r : Option Sp.E_50_0) (k0 : (List Int) → (Zt50_0) → (Zt50_4) → Option R) : Option R := match r with
  | none => none
  | some (.e0 p2 p3 p4) => k0 p2 p3 p4
noncomputable def Sp.L_50_0 : Nat → (List Int) → (Int) → (List Int) → (Int × List (List Int) × List (List Int) × Unit) → (List (List Int)) → Option Sp.E_50_0
  | 0, _, _, _, _, _ => none
  | m + 1, p0, p1, p2, p3, p4 => bif decide (p1 < (67 : Int)) then gd (inB p1 (List.length (p3.2.1))) (gd (inB p1 (List.length p0)) (gd (Sp.p_86 (List.getD (p3.2.1) (Int.toNat p1) (Ty.dflt (Ty.arr (32 : Nat) (Ty.int IntKind.u8)))) (List.getD p0 (Int.toNat p1) (0 : Int)) (15 : Int)) (gd (room (List.length p4 + (1 : Nat)) (32 : Nat)) (Sp.L_50_0 m p0 (IntKind.wrap IntKind.i64 (p1 + (1 : Int))) p2 p3 (p4 ++ [(Sp.v_86 (List.getD (p3.2.1) (Int.toNat p1) (Ty.dflt (Ty.arr (32 : Nat) (Ty.int IntKind.u8)))) (List.getD p0 (Int.toNat p1) (0 : Int)) (15 : Int)).1]))))) else some (Sp.E_50_0.e0 p2 p3 p4)
noncomputable def G_50_0 {R : Type} (p0 : List Int) (p1 : Int) (p2 : List Int) (p3 : Zt50_0) (p4 : Zt50_4) (k : Ex → St → Option R) : Option R := Sp.B_50_0 (Sp.L_50_0 FU p0 p1 p2 p3 p4) (fun p2 p3 p4 => k (Ex.exit (0 : Nat)) (X_50_0_0 p2 p3 p4))
noncomputable def o_50_0 {R : Type} (G : (List Int) → (Int) → (List Int) → (Zt50_0) → (Zt50_4) → (Ex → St → Option R) → Option R) : St → (Ex → St → Option R) → Option R := fun T k => match T.sl.getD 3 .junk, T.sl.getD 5 .junk, T.sl.getD 7 .junk, T.sl.getD 8 .junk, T.sl.getD 9 .junk, T.hp with
  | CV.ptr (0 : Nat) [], CV.ptr (1 : Nat) [], CV.pure (Ty.slice (Ty.int IntKind.i64)) p0, CV.whole (2 : Nat), CV.int IntKind.i64 p1, ((Blk.mem (CV.pure (Ty.arr (32 : Nat) (Ty.int IntKind.u8)) p2)) :: (Blk.mem (CV.pure (Ty.pair (Ty.int IntKind.i64) (Ty.pair (Ty.slice (Ty.arr (32 : Nat) (Ty.int IntKind.u8))) (Ty.pair (Ty.slice (Ty.arr (32 : Nat) (Ty.int IntKind.u8))) Ty.unit))) p3)) :: (Blk.vec (27 : Nat) (Ty.arr (32 : Nat) (Ty.int IntKind.u8)) p4) :: []) => gd (shapeOK T 70 [3, 5, 7, 8, 9] (0 : Nat)) (G p0 p1 p2 p3 p4 k)
  | _, _, _, _, _, _ => none
theorem o_50_0_inv {R : Type} {G : (List Int) → (Int) → (List Int) → (Zt50_0) → (Zt50_4) → (Ex → St → Option R) → Option R} {T : St} {k : Ex → St → Option R} {r : R} (h : o_50_0 G T k = some r) : ∃ p0 p1 p2 p3 p4, T = T_50_0 p0 p1 p2 p3 p4 ∧ G p0 p1 p2 p3 p4 k = some r := by
  unfold o_50_0 at h
  split at h
  · obtain ⟨hs, h'⟩ := gd_some h
    refine ⟨_, _, _, _, _, (st_of (asg := [(3, _), (5, _), (7, _), (8, _), (9, _)]) hs ⟨by assumption, by assumption, by assumption, by assumption, by assumption, trivial⟩ (by assumption)).trans ?_, h'⟩
    kernel_rfl
  · cases h
noncomputable def T_50_1 (p0 : List Int) (p1 : Zt50_0) (p2 : List Int) : St := St.mk ([jk, jk, jk, CV.ptr (0 : Nat) [], jk, CV.ptr (1 : Nat) [], jk, jk, jk, jk, CV.ptr (2 : Nat) []] ++ (jl 59)) [Blk.mem (CV.pure Zy50_1 p0), Blk.mem (CV.pure Zy50_2 p1), Blk.mem (CV.pure Zy50_1 p2)] (0 : Nat)
noncomputable def X_50_1_0 (p0 : List Int) (p1 : Zt50_0) (p2 : List Int) : St := St.mk (jl 6 ++ ([CV.bool (Ty.beq Zy50_1 ((Sp.v_88 (List.getD (p1.2.2.1) (1 : Nat) (Ty.dflt Zy50_1)) p2).1) p0)] ++ (jl 63))) [] (0 : Nat)
noncomputable def X_50_1_1 (p0 : List Int) (p1 : Zt50_0) (p2 : List Int) : St := St.mk (jl 6 ++ ([CV.bool (Ty.beq Zy50_1 ((Sp.v_88 p2 (List.getD (p1.2.2.1) (1 : Nat) (Ty.dflt Zy50_1))).1) p0)] ++ (jl 63))) [] (0 : Nat)
inductive Sp.E_50_1 where
  | e0 (p0 : List Int) (p1 : Zt50_0) (p2 : List Int)
  | e1 (p0 : List Int) (p1 : Zt50_0) (p2 : List Int)
noncomputable def Sp.B_50_1 {R : Type} (r : Option Sp.E_50_1) (k0 : (List Int) → (Zt50_0) → (List Int) → Option R) (k1 : (List Int) → (Zt50_0) → (List Int) → Option R) : Option R := match r with
  | none => none
  | some (.e0 p0 p1 p2) => k0 p0 p1 p2
  | some (.e1 p0 p1 p2) => k1 p0 p1 p2
noncomputable def Sp.J_50_1 (p0 : List Int) (p1 : Int × List (List Int) × List (List Int) × Unit) (p2 : List Int) : Option Sp.E_50_1 :=
  bif IntKind.wrap IntKind.i64 (Int.tdiv (p1.1) (2 : Int)) == (1 : Int) then gd (inB (1 : Int) (List.length (p1.2.2.1))) (gd (Sp.p_88 (List.getD (p1.2.2.1) (1 : Nat) (Ty.dflt (Ty.arr (32 : Nat) (Ty.int IntKind.u8)))) p2) (some (Sp.E_50_1.e0 p0 p1 p2))) else gd (inB (1 : Int) (List.length (p1.2.2.1))) (gd (Sp.p_88 p2 (List.getD (p1.2.2.1) (1 : Nat) (Ty.dflt (Ty.arr (32 : Nat) (Ty.int IntKind.u8))))) (some (Sp.E_50_1.e1 p0 p1 p2)))
noncomputable def G_50_1 {R : Type} (p0 : List Int) (p1 : Zt50_0) (p2 : List Int) (k : Ex → St → Option R) : Option R := Sp.B_50_1 (Sp.J_50_1 p0 p1 p2) (fun p0 p1 p2 => k Ex.ret (X_50_1_0 p0 p1 p2)) (fun p0 p1 p2 => k Ex.ret (X_50_1_1 p0 p1 p2))
noncomputable def o_50_1 {R : Type} (G : (List Int) → (Zt50_0) → (List Int) → (Ex → St → Option R) → Option R) : St → (Ex → St → Option R) → Option R := fun T k => match T.sl.getD 3 .junk, T.sl.getD 5 .junk, T.sl.getD 10 .junk, T.hp with
  | CV.ptr (0 : Nat) [], CV.ptr (1 : Nat) [], CV.ptr (2 : Nat) [], ((Blk.mem (CV.pure (Ty.arr (32 : Nat) (Ty.int IntKind.u8)) p0)) :: (Blk.mem (CV.pure (Ty.pair (Ty.int IntKind.i64) (Ty.pair (Ty.slice (Ty.arr (32 : Nat) (Ty.int IntKind.u8))) (Ty.pair (Ty.slice (Ty.arr (32 : Nat) (Ty.int IntKind.u8))) Ty.unit))) p1)) :: (Blk.mem (CV.pure (Ty.arr (32 : Nat) (Ty.int IntKind.u8)) p2)) :: []) => gd (shapeOK T 70 [3, 5, 10] (0 : Nat)) (G p0 p1 p2 k)
  | _, _, _, _ => none
theorem o_50_1_inv {R : Type} {G : (List Int) → (Zt50_0) → (List Int) → (Ex → St → Option R) → Option R} {T : St} {k : Ex → St → Option R} {r : R} (h : o_50_1 G T k = some r) : ∃ p0 p1 p2, T = T_50_1 p0 p1 p2 ∧ G p0 p1 p2 k = some r := by
  unfold o_50_1 at h
  split at h
  · obtain ⟨hs, h'⟩ := gd_some h
    refine ⟨_, _, _, (st_of (asg := [(3, _), (5, _), (10, _)]) hs ⟨by assumption, by assumption, by assumption, trivial⟩ (by assumption)).trans ?_, h'⟩
    kernel_rfl
  · cases h
noncomputable def O_50_50_0 {R : Type} : St → (Ex → St → Option R) → Option R := fun T k => o_50_0 G_50_0 T k
noncomputable def O_50_50_1 {R : Type} : St → (Ex → St → Option R) → Option R := fun T k => o_50_1 G_50_1 T k
theorem body_50_0 {R : Type} (K0 : St → Option R) (K1 : Ex → St → Option R) (p0 : List Int) (p1 : Int) (p2 : List Int) (p3 : Zt50_0) (p4 : Zt50_4) : evLB (evCodeL sm_50 FU (ovr noO (evFn sm_50 fns FU 0)) .nil ir50_b0) (St.norm ir50_v0) (T_50_0 p0 p1 p2 p3 p4) K0 K1 =
  bif decide (p1 < (67 : Int)) then gd (inB p1 (List.length (p3.2.1))) (gd (inB p1 (List.length p0)) (gd (Sp.p_86 (List.getD (p3.2.1) (Int.toNat p1) (Ty.dflt Zy50_1)) (List.getD p0 (Int.toNat p1) (0 : Int)) (15 : Int)) (gd (room (List.length p4 + (1 : Nat)) (32 : Nat)) (K0 (T_50_0 p0 (IntKind.wrap IntKind.i64 (p1 + (1 : Int))) p2 p3 (p4 ++ [(Sp.v_86 (List.getD (p3.2.1) (Int.toNat p1) (Ty.dflt Zy50_1)) (List.getD p0 (Int.toNat p1) (0 : Int)) (15 : Int)).1])))))) else K1 (Ex.exit (0 : Nat)) (X_50_0_0 p2 p3 p4) := by kernel_rfl
theorem Bgd_50_0 {R : Type} {c : Bool} {x : Option R} {y : Option Sp.E_50_0} {k0 : (List Int) → (Zt50_0) → (Zt50_4) → Option R} (h : x = Sp.B_50_0 y k0) : gd c x = Sp.B_50_0 (gd c y) k0 := by cases c; rfl; exact h
theorem Bcond_50_0 {R : Type} {c : Bool} {x x' : Option R} {y y' : Option Sp.E_50_0} {k0 : (List Int) → (Zt50_0) → (Zt50_4) → Option R} (h : x = Sp.B_50_0 y k0) (h' : x' = Sp.B_50_0 y' k0) : (bif c then x else x') = Sp.B_50_0 (bif c then y else y') k0 := by cases c; exact h'; exact h
theorem loop_50_0 {R : Type} (k : Ex → St → Option R) : ∀ (m : Nat) (p0 : List Int) (p1 : Int) (p2 : List Int) (p3 : Zt50_0) (p4 : Zt50_4), evLoopN (evCodeL sm_50 FU (ovr noO (evFn sm_50 fns FU 0)) .nil ir50_b0) (St.norm ir50_v0) m (T_50_0 p0 p1 p2 p3 p4) k = Sp.B_50_0 (Sp.L_50_0 m p0 p1 p2 p3 p4) (fun p2 p3 p4 => k (Ex.exit (0 : Nat)) (X_50_0_0 p2 p3 p4))
  | 0, _, _, _, _, _ => rfl
  | m + 1, p0, p1, p2, p3, p4 => by
    rw [evLoopN_succ, body_50_0, Sp.L_50_0]
    repeat' first | apply Bgd_50_0 | apply Bcond_50_0 | exact loop_50_0 k m _ _ _ _ _ | rfl
theorem ok_50_0 {R : Type} (T : St) (k : Ex → St → Option R) (r : R) (h0 : o_50_0 G_50_0 T k = some r) : evLoopN (evCode sm_50 FU (evFn sm_50 fns FU 0) ir50_b0) (St.norm ir50_v0) FU T k = some r := by
  obtain ⟨p0, p1, p2, p3, p4, rfl, h⟩ := o_50_0_inv h0
  refine evLoopN_L (t := .nil) noO_ok trivial _ _ _ _ ?_
  rw [loop_50_0]
  exact h
theorem OK_50_50_0 {R : Type} (T : St) (k : Ex → St → Option R) (r : R) (h : O_50_50_0 T k = some r) : evLoopN (evCode sm_50 FU (evFn sm_50 fns FU 0) ir50_b0) (St.norm ir50_v0) FU T k = some r := ok_50_0 T k r h
theorem body_50_1 {R : Type} (K1 : Ex → St → Option R) (p0 : List Int) (p1 : Zt50_0) (p2 : List Int) : evJ (evCodeL sm_50 FU (ovr noO (evFn sm_50 fns FU 0)) .nil ir50_b1) (T_50_1 p0 p1 p2) K1 =
  bif IntKind.wrap IntKind.i64 (Int.tdiv (p1.1) (2 : Int)) == (1 : Int) then gd (inB (1 : Int) (List.length (p1.2.2.1))) (gd (Sp.p_88 (List.getD (p1.2.2.1) (1 : Nat) (Ty.dflt Zy50_1)) p2) (K1 Ex.ret (X_50_1_0 p0 p1 p2))) else gd (inB (1 : Int) (List.length (p1.2.2.1))) (gd (Sp.p_88 p2 (List.getD (p1.2.2.1) (1 : Nat) (Ty.dflt Zy50_1))) (K1 Ex.ret (X_50_1_1 p0 p1 p2))) := by kernel_rfl
theorem Bgd_50_1 {R : Type} {c : Bool} {x : Option R} {y : Option Sp.E_50_1} {k0 : (List Int) → (Zt50_0) → (List Int) → Option R} {k1 : (List Int) → (Zt50_0) → (List Int) → Option R} (h : x = Sp.B_50_1 y k0 k1) : gd c x = Sp.B_50_1 (gd c y) k0 k1 := by cases c; rfl; exact h
theorem Bcond_50_1 {R : Type} {c : Bool} {x x' : Option R} {y y' : Option Sp.E_50_1} {k0 : (List Int) → (Zt50_0) → (List Int) → Option R} {k1 : (List Int) → (Zt50_0) → (List Int) → Option R} (h : x = Sp.B_50_1 y k0 k1) (h' : x' = Sp.B_50_1 y' k0 k1) : (bif c then x else x') = Sp.B_50_1 (bif c then y else y') k0 k1 := by cases c; exact h'; exact h
theorem loop_50_1 {R : Type} (k : Ex → St → Option R) (p0 : List Int) (p1 : Zt50_0) (p2 : List Int) : evJ (evCodeL sm_50 FU (ovr noO (evFn sm_50 fns FU 0)) .nil ir50_b1) (T_50_1 p0 p1 p2) k = Sp.B_50_1 (Sp.J_50_1 p0 p1 p2) (fun p0 p1 p2 => k Ex.ret (X_50_1_0 p0 p1 p2)) (fun p0 p1 p2 => k Ex.ret (X_50_1_1 p0 p1 p2)) := by
  rw [body_50_1, Sp.J_50_1]
  repeat' first | apply Bgd_50_1 | apply Bcond_50_1 | rfl
theorem ok_50_1 {R : Type} (T : St) (k : Ex → St → Option R) (r : R) (h0 : o_50_1 G_50_1 T k = some r) : evCode sm_50 FU (evFn sm_50 fns FU 0) ir50_b1 T k = some r := by
  obtain ⟨p0, p1, p2, rfl, h⟩ := o_50_1_inv h0
  refine bodyL_sound (t := .nil) noO_ok trivial (((show ∀ (b : St → (Ex → St → Option R) → Option R) (T : St) (k : Ex → St → Option R), b T k = evJ b T k from fun _ _ _ => rfl) _ _ _).trans ((loop_50_1 k p0 p1 p2).trans h))
theorem OK_50_50_1 {R : Type} (T : St) (k : Ex → St → Option R) (r : R) (h : O_50_50_1 T k = some r) : evCode sm_50 FU (evFn sm_50 fns FU 0) ir50_b1 T k = some r := ok_50_1 T k r h
noncomputable def F_50 (a0 : (List Int)) (a1 : (List Int)) (a2 : (Int × ((List (List Int)) × ((List (List Int)) × Unit)))) : Option (Bool × Unit) :=
  gd (Sp.p_84 a2) (bif !(Sp.v_84 a2).1 then some (false, PUnit.unit) else gd (Sp.p_85 a1) (Sp.B_50_0 (Sp.L_50_0 (4611686018427387904 : Nat) ((Sp.v_85 a1).1) (0 : Int) a0 a2 []) fun y15 y16 y17 => gd (Sp.p_87 y17) (bif Int.tmod (y16.1) (2 : Int) == (1 : Int) then gd (inB (0 : Int) (List.length (y16.2.2.1))) (gd (Sp.p_88 (List.getD (y16.2.2.1) (0 : Nat) (Ty.dflt (Ty.arr (32 : Nat) (Ty.int IntKind.u8)))) ((Sp.v_87 y17).1)) (Sp.B_50_1 (Sp.J_50_1 y15 y16 ((Sp.v_88 (List.getD (y16.2.2.1) (0 : Nat) (Ty.dflt (Ty.arr (32 : Nat) (Ty.int IntKind.u8)))) ((Sp.v_87 y17).1)).1)) (fun y18 y19 y20 => some (Ty.beq (Ty.arr (32 : Nat) (Ty.int IntKind.u8)) ((Sp.v_88 (List.getD (y19.2.2.1) (1 : Nat) (Ty.dflt (Ty.arr (32 : Nat) (Ty.int IntKind.u8)))) y20).1) y18, PUnit.unit)) fun y21 y22 y23 => some (Ty.beq (Ty.arr (32 : Nat) (Ty.int IntKind.u8)) ((Sp.v_88 y23 (List.getD (y22.2.2.1) (1 : Nat) (Ty.dflt (Ty.arr (32 : Nat) (Ty.int IntKind.u8))))).1) y21, PUnit.unit))) else gd (inB (0 : Int) (List.length (y16.2.2.1))) (gd (Sp.p_88 ((Sp.v_87 y17).1) (List.getD (y16.2.2.1) (0 : Nat) (Ty.dflt (Ty.arr (32 : Nat) (Ty.int IntKind.u8))))) (Sp.B_50_1 (Sp.J_50_1 y15 y16 ((Sp.v_88 ((Sp.v_87 y17).1) (List.getD (y16.2.2.1) (0 : Nat) (Ty.dflt (Ty.arr (32 : Nat) (Ty.int IntKind.u8))))).1)) (fun y24 y25 y26 => some (Ty.beq (Ty.arr (32 : Nat) (Ty.int IntKind.u8)) ((Sp.v_88 (List.getD (y25.2.2.1) (1 : Nat) (Ty.dflt (Ty.arr (32 : Nat) (Ty.int IntKind.u8)))) y26).1) y24, PUnit.unit)) fun y27 y28 y29 => some (Ty.beq (Ty.arr (32 : Nat) (Ty.int IntKind.u8)) ((Sp.v_88 y29 (List.getD (y28.2.2.1) (1 : Nat) (Ty.dflt (Ty.arr (32 : Nat) (Ty.int IntKind.u8))))).1) y27, PUnit.unit))))))
theorem fn_50 (a0 : (List Int)) (a1 : (List Int)) (a2 : (Int × ((List (List Int)) × ((List (List Int)) × Unit)))) : evFnL sm_50 FU (ovr noO (evFn sm_50 fns FU 0)) (ir50_t O_50_50_0 O_50_50_1) ir50 (ofH [(.arr 32 (.int .u8)), (.arr 32 (.int .u8)), Zy50_3] (a0, a1, a2, ())) [] (pureK [.bool]) = F_50 a0 a1 a2 := by kernel_rfl
noncomputable def Sp.p_50 (a0 : (List Int)) (a1 : (List Int)) (a2 : (Int × ((List (List Int)) × ((List (List Int)) × Unit)))) : Bool := (F_50 a0 a1 a2).isSome
noncomputable def Sp.v_50 (a0 : (List Int)) (a1 : (List Int)) (a2 : (Int × ((List (List Int)) × ((List (List Int)) × Unit)))) : Bool × Unit := (F_50 a0 a1 a2).getD (dfH [.bool])
noncomputable def s_50 : Summ := shN [(.arr 32 (.int .u8)), (.arr 32 (.int .u8)), Zy50_3] [.bool] (fun x => Sp.p_50 x.1 x.2.1 x.2.2.1) (fun x => Sp.v_50 x.1 x.2.1 x.2.2.1)
theorem pv_50 (a0 : (List Int)) (a1 : (List Int)) (a2 : (Int × ((List (List Int)) × ((List (List Int)) × Unit)))) {y : Bool × Unit} (h : F_50 a0 a1 a2 = some y) : Sp.p_50 a0 a1 a2 = true ∧ Sp.v_50 a0 a1 a2 = y := ⟨by rw [Sp.p_50, h]; rfl, by rw [Sp.v_50, h]; rfl⟩
theorem run_50 (x : HDen [(.arr 32 (.int .u8)), (.arr 32 (.int .u8)), Zy50_3]) (y : HDen [.bool]) (h : F_50 x.1 x.2.1 x.2.2.1 = some y) : evFn sm_50 fns FU 1 50 (ofH [(.arr 32 (.int .u8)), (.arr 32 (.int .u8)), Zy50_3] x) [] (pureK [.bool]) = some y :=
  evFnL_sound (fn := ir50) (t := (ir50_t O_50_50_0 O_50_50_1)) (o := noO) rfl noO_ok (ir50_tok (fun T k r => OK_50_50_0 T k r) (fun T k r => OK_50_50_1 T k r)) ((fn_50 _ _ _).trans h)
end
end Go.Ev
namespace Go.Ev
open Go
set_option maxRecDepth 100000
set_option maxHeartbeats 4000000
set_option linter.unusedVariables false
noncomputable section

noncomputable def sm_16 : Nat → Option Summ := fun f => bif Nat.beq f 26 then some s_26 else bif Nat.beq f 48 then some s_48 else bif Nat.beq f 49 then some s_49 else bif Nat.beq f 50 then some s_50 else none


noncomputable def F_16 (a0 : (((List Int) × ((List Int) × (Int × Unit))) × ((List Int) × Unit))) (a1 : Int) : Option (Bool × Unit) :=
  gd (Sp.p_26 a0 a1) (bif !(Sp.v_26 a0 a1).2.1 then some (false, PUnit.unit) else gd (Sp.p_48 a0 a1) (gd (sl3 (564 : Int) (IntKind.wrap IntKind.i64 ((564 : Int) + (Sp.v_26 a0 a1).1.2.1)) (↑(List.length ((Sp.v_48 a0 a1).1)) : Int)) (gd (Sp.p_49 ((Sp.v_26 a0 a1).1.1) (List.take (Int.toNat (IntKind.wrap IntKind.i64 ((564 : Int) + (Sp.v_26 a0 a1).1.2.1)) - (564 : Nat)) (List.drop (564 : Nat) ((Sp.v_48 a0 a1).1)))) (bif Ty.beq (Ty.arr (32 : Nat) (Ty.int IntKind.u8)) ((Sp.v_49 ((Sp.v_26 a0 a1).1.1) (List.take (Int.toNat (IntKind.wrap IntKind.i64 ((564 : Int) + (Sp.v_26 a0 a1).1.2.1)) - (564 : Nat)) (List.drop (564 : Nat) ((Sp.v_48 a0 a1).1)))).1) ((Sp.v_26 a0 a1).1.2.2.1) then gd (Sp.p_50 (a0.2.1) ((Sp.v_26 a0 a1).1.2.2.1) ((Sp.v_26 a0 a1).1.2.2.2.1)) (some ((Sp.v_50 (a0.2.1) ((Sp.v_26 a0 a1).1.2.2.1) ((Sp.v_26 a0 a1).1.2.2.2.1)).1, PUnit.unit)) else some (false, PUnit.unit)))))
theorem fn_16 (a0 : (((List Int) × ((List Int) × (Int × Unit))) × ((List Int) × Unit))) (a1 : Int) : evFnL sm_16 FU (ovr noO (evFn sm_16 fns FU 0)) .nil ir16 (ofH [(.pair (.pair (.slice (.int .u32)) (.pair (.slice (.int .i64)) (.pair (.int .i64) .unit))) (.pair (.arr 32 (.int .u8)) .unit)), (.int .i64)] (a0, a1, ())) [] (pureK [.bool]) = F_16 a0 a1 := by kernel_rfl
noncomputable def Sp.p_16 (a0 : (((List Int) × ((List Int) × (Int × Unit))) × ((List Int) × Unit))) (a1 : Int) : Bool := (F_16 a0 a1).isSome
noncomputable def Sp.v_16 (a0 : (((List Int) × ((List Int) × (Int × Unit))) × ((List Int) × Unit))) (a1 : Int) : Bool × Unit := (F_16 a0 a1).getD (dfH [.bool])
noncomputable def s_16 : Summ := shN [(.pair (.pair (.slice (.int .u32)) (.pair (.slice (.int .i64)) (.pair (.int .i64) .unit))) (.pair (.arr 32 (.int .u8)) .unit)), (.int .i64)] [.bool] (fun x => Sp.p_16 x.1 x.2.1) (fun x => Sp.v_16 x.1 x.2.1)
theorem pv_16 (a0 : (((List Int) × ((List Int) × (Int × Unit))) × ((List Int) × Unit))) (a1 : Int) {y : Bool × Unit} (h : F_16 a0 a1 = some y) : Sp.p_16 a0 a1 = true ∧ Sp.v_16 a0 a1 = y := ⟨by rw [Sp.p_16, h]; rfl, by rw [Sp.v_16, h]; rfl⟩
theorem run_16 (x : HDen [(.pair (.pair (.slice (.int .u32)) (.pair (.slice (.int .i64)) (.pair (.int .i64) .unit))) (.pair (.arr 32 (.int .u8)) .unit)), (.int .i64)]) (y : HDen [.bool]) (h : F_16 x.1 x.2.1 = some y) : evFn sm_16 fns FU 1 16 (ofH [(.pair (.pair (.slice (.int .u32)) (.pair (.slice (.int .i64)) (.pair (.int .i64) .unit))) (.pair (.arr 32 (.int .u8)) .unit)), (.int .i64)] x) [] (pureK [.bool]) = some y :=
  evFnL_sound (fn := ir16) (t := .nil) (o := noO) rfl noO_ok trivial ((fn_16 _ _).trans h)
end
end Go.Ev
namespace Go.Ev
open Go
set_option maxRecDepth 100000
set_option maxHeartbeats 4000000
set_option linter.unusedVariables false
noncomputable section

noncomputable def sm_52 : Nat → Option Summ := fun f => bif Nat.beq f 16 then some s_16 else bif Nat.beq f 48 then some s_48 else none


noncomputable def F_52 (a0 : (((List Int) × ((List Int) × (Int × Unit))) × ((List Int) × Unit))) (a1 : Int) : Option (Bool × Unit) :=
  gd (Sp.p_48 a0 a1) (gd (inB (0 : Int) (List.length ((Sp.v_48 a0 a1).1))) (bif List.getD ((Sp.v_48 a0 a1).1) (0 : Nat) (0 : Int) == (0 : Int) then gd (Sp.p_16 a0 a1) (some ((Sp.v_16 a0 a1).1, PUnit.unit)) else some (false, PUnit.unit)))
theorem fn_52 (a0 : (((List Int) × ((List Int) × (Int × Unit))) × ((List Int) × Unit))) (a1 : Int) : evFnL sm_52 FU (ovr noO (evFn sm_52 fns FU 0)) .nil ir52 (ofH [(.pair (.pair (.slice (.int .u32)) (.pair (.slice (.int .i64)) (.pair (.int .i64) .unit))) (.pair (.arr 32 (.int .u8)) .unit)), (.int .i64)] (a0, a1, ())) [] (pureK [.bool]) = F_52 a0 a1 := by kernel_rfl
noncomputable def Sp.p_52 (a0 : (((List Int) × ((List Int) × (Int × Unit))) × ((List Int) × Unit))) (a1 : Int) : Bool := (F_52 a0 a1).isSome
noncomputable def Sp.v_52 (a0 : (((List Int) × ((List Int) × (Int × Unit))) × ((List Int) × Unit))) (a1 : Int) : Bool × Unit := (F_52 a0 a1).getD (dfH [.bool])
noncomputable def s_52 : Summ := shN [(.pair (.pair (.slice (.int .u32)) (.pair (.slice (.int .i64)) (.pair (.int .i64) .unit))) (.pair (.arr 32 (.int .u8)) .unit)), (.int .i64)] [.bool] (fun x => Sp.p_52 x.1 x.2.1) (fun x => Sp.v_52 x.1 x.2.1)
theorem pv_52 (a0 : (((List Int) × ((List Int) × (Int × Unit))) × ((List Int) × Unit))) (a1 : Int) {y : Bool × Unit} (h : F_52 a0 a1 = some y) : Sp.p_52 a0 a1 = true ∧ Sp.v_52 a0 a1 = y := ⟨by rw [Sp.p_52, h]; rfl, by rw [Sp.v_52, h]; rfl⟩
theorem run_52 (x : HDen [(.pair (.pair (.slice (.int .u32)) (.pair (.slice (.int .i64)) (.pair (.int .i64) .unit))) (.pair (.arr 32 (.int .u8)) .unit)), (.int .i64)]) (y : HDen [.bool]) (h : F_52 x.1 x.2.1 = some y) : evFn sm_52 fns FU 1 52 (ofH [(.pair (.pair (.slice (.int .u32)) (.pair (.slice (.int .i64)) (.pair (.int .i64) .unit))) (.pair (.arr 32 (.int .u8)) .unit)), (.int .i64)] x) [] (pureK [.bool]) = some y :=
  evFnL_sound (fn := ir52) (t := .nil) (o := noO) rfl noO_ok trivial ((fn_52 _ _).trans h)
end
end Go.Ev
namespace Go.Ev
open Go
set_option maxRecDepth 100000
set_option maxHeartbeats 4000000
set_option linter.unusedVariables false
noncomputable section

noncomputable def sm_18 : Nat → Option Summ := fun f => bif Nat.beq f 25 then some s_25 else bif Nat.beq f 48 then some s_48 else bif Nat.beq f 52 then some s_52 else none
noncomputable def T_18_0 (p0 : Bool) (p1 : Bool) (p2 : (List Int × List Int × Int × Unit) × List Int × Unit) : St := St.mk ([jk, CV.ptr (0 : Nat) [], jk, jk, CV.bool p0, CV.bool p1] ++ (jl 29)) [Blk.mem (CV.pure (Ty.pair (Ty.pair (Ty.slice (Ty.int IntKind.u32)) (Ty.pair (Ty.slice (Ty.int IntKind.i64)) (Ty.pair (Ty.int IntKind.i64) Ty.unit))) (Ty.pair (Ty.arr (32 : Nat) (Ty.int IntKind.u8)) Ty.unit)) p2)] (0 : Nat)
noncomputable def X_18_0_0 : St := St.mk ([jk, jk, CV.int IntKind.i64 (1 : Int), CV.int IntKind.i64 (0 : Int)] ++ (jl 31)) [] (0 : Nat)
noncomputable def X_18_0_1 : St := St.mk ([jk, jk, CV.int IntKind.i64 (0 : Int), CV.int IntKind.i64 (0 : Int)] ++ (jl 31)) [] (0 : Nat)
inductive Sp.E_18_0 where
  | e0
  | e1
noncomputable def Sp.B_18_0 {R : Type} (r : Option Sp.E_18_0) (k0 : Option R) (k1 : Option R) : Option R := match r with
  | none => none
  | some (.e0) => k0
  | some (.e1) => k1
noncomputable def Sp.J_18_0 (p0 : Bool) (p1 : Bool) (p2 : (List Int × List Int × Int × Unit) × List Int × Unit) : Option Sp.E_18_0 :=
  bif p1 then bif !p0 then some (Sp.E_18_0.e0) else gd (Sp.p_48 p2 (1 : Int)) (gd (inB (1 : Int) (List.length ((Sp.v_48 p2 (1 : Int)).1))) (gd (Sp.p_48 p2 (0 : Int)) (gd (inB (1 : Int) (List.length ((Sp.v_48 p2 (0 : Int)).1))) (bif decide (List.getD ((Sp.v_48 p2 (1 : Int)).1) (1 : Nat) (0 : Int) > List.getD ((Sp.v_48 p2 (0 : Int)).1) (1 : Nat) (0 : Int)) then some (Sp.E_18_0.e0) else some (Sp.E_18_0.e1))))) else some (Sp.E_18_0.e1)
noncomputable def G_18_0 {R : Type} (p0 : Bool) (p1 : Bool) (p2 : (List Int × List Int × Int × Unit) × List Int × Unit) (k : Ex → St → Option R) : Option R := Sp.B_18_0 (Sp.J_18_0 p0 p1 p2) (k Ex.ret (X_18_0_0)) (k Ex.ret (X_18_0_1))
noncomputable def o_18_0 {R : Type} (G : (Bool) → (Bool) → ((List Int × List Int × Int × Unit) × List Int × Unit) → (Ex → St → Option R) → Option R) : St → (Ex → St → Option R) → Option R := fun T k => match T.sl.getD 1 .junk, T.sl.getD 4 .junk, T.sl.getD 5 .junk, T.hp with
  | CV.ptr (0 : Nat) [], CV.bool p0, CV.bool p1, ((Blk.mem (CV.pure (Ty.pair (Ty.pair (Ty.slice (Ty.int IntKind.u32)) (Ty.pair (Ty.slice (Ty.int IntKind.i64)) (Ty.pair (Ty.int IntKind.i64) Ty.unit))) (Ty.pair (Ty.arr (32 : Nat) (Ty.int IntKind.u8)) Ty.unit)) p2)) :: []) => gd (shapeOK T 35 [1, 4, 5] (0 : Nat)) (G p0 p1 p2 k)
  | _, _, _, _ => none
theorem o_18_0_inv {R : Type} {G : (Bool) → (Bool) → ((List Int × List Int × Int × Unit) × List Int × Unit) → (Ex → St → Option R) → Option R} {T : St} {k : Ex → St → Option R} {r : R} (h : o_18_0 G T k = some r) : ∃ p0 p1 p2, T = T_18_0 p0 p1 p2 ∧ G p0 p1 p2 k = some r := by
  unfold o_18_0 at h
  split at h
  · obtain ⟨hs, h'⟩ := gd_some h
    refine ⟨_, _, _, (st_of (asg := [(1, _), (4, _), (5, _)]) hs ⟨by assumption, by assumption, by assumption, trivial⟩ (by assumption)).trans ?_, h'⟩
    kernel_rfl
  · cases h
noncomputable def O_18_18_0 {R : Type} : St → (Ex → St → Option R) → Option R := fun T k => o_18_0 G_18_0 T k
theorem body_18_0 {R : Type} (K1 : Ex → St → Option R) (p0 : Bool) (p1 : Bool) (p2 : (List Int × List Int × Int × Unit) × List Int × Unit) : evJ (evCodeL sm_18 FU (ovr noO (evFn sm_18 fns FU 0)) .nil ir18_b0) (T_18_0 p0 p1 p2) K1 =
  bif p1 then bif !p0 then K1 Ex.ret X_18_0_0 else gd (Sp.p_48 p2 (1 : Int)) (gd (inB (1 : Int) (List.length ((Sp.v_48 p2 (1 : Int)).1))) (gd (Sp.p_48 p2 (0 : Int)) (gd (inB (1 : Int) (List.length ((Sp.v_48 p2 (0 : Int)).1))) (bif decide (List.getD ((Sp.v_48 p2 (1 : Int)).1) (1 : Nat) (0 : Int) > List.getD ((Sp.v_48 p2 (0 : Int)).1) (1 : Nat) (0 : Int)) then K1 Ex.ret X_18_0_0 else K1 Ex.ret X_18_0_1)))) else K1 Ex.ret X_18_0_1 := by kernel_rfl
theorem Bgd_18_0 {R : Type} {c : Bool} {x : Option R} {y : Option Sp.E_18_0} {k0 : Option R} {k1 : Option R} (h : x = Sp.B_18_0 y k0 k1) : gd c x = Sp.B_18_0 (gd c y) k0 k1 := by cases c; rfl; exact h
theorem Bcond_18_0 {R : Type} {c : Bool} {x x' : Option R} {y y' : Option Sp.E_18_0} {k0 : Option R} {k1 : Option R} (h : x = Sp.B_18_0 y k0 k1) (h' : x' = Sp.B_18_0 y' k0 k1) : (bif c then x else x') = Sp.B_18_0 (bif c then y else y') k0 k1 := by cases c; exact h'; exact h
theorem loop_18_0 {R : Type} (k : Ex → St → Option R) (p0 : Bool) (p1 : Bool) (p2 : (List Int × List Int × Int × Unit) × List Int × Unit) : evJ (evCodeL sm_18 FU (ovr noO (evFn sm_18 fns FU 0)) .nil ir18_b0) (T_18_0 p0 p1 p2) k = Sp.B_18_0 (Sp.J_18_0 p0 p1 p2) (k Ex.ret (X_18_0_0)) (k Ex.ret (X_18_0_1)) := by
  rw [body_18_0, Sp.J_18_0]
  repeat' first | apply Bgd_18_0 | apply Bcond_18_0 | rfl
theorem ok_18_0 {R : Type} (T : St) (k : Ex → St → Option R) (r : R) (h0 : o_18_0 G_18_0 T k = some r) : evCode sm_18 FU (evFn sm_18 fns FU 0) ir18_b0 T k = some r := by
  obtain ⟨p0, p1, p2, rfl, h⟩ := o_18_0_inv h0
  refine bodyL_sound (t := .nil) noO_ok trivial (((show ∀ (b : St → (Ex → St → Option R) → Option R) (T : St) (k : Ex → St → Option R), b T k = evJ b T k from fun _ _ _ => rfl) _ _ _).trans ((loop_18_0 k p0 p1 p2).trans h))
theorem OK_18_18_0 {R : Type} (T : St) (k : Ex → St → Option R) (r : R) (h : O_18_18_0 T k = some r) : evCode sm_18 FU (evFn sm_18 fns FU 0) ir18_b0 T k = some r := ok_18_0 T k r h
noncomputable def F_18 (a0 : (((List Int) × ((List Int) × (Int × Unit))) × ((List Int) × Unit))) : Option (Int × Int × Unit) :=
  gd (Sp.p_25 a0) (bif !(Sp.v_25 a0).1 then some ((0 : Int), (1 : Int), PUnit.unit) else gd (Sp.p_52 a0 (0 : Int)) (gd (Sp.p_52 a0 (1 : Int)) (bif !(Sp.v_52 a0 (0 : Int)).1 then bif !(Sp.v_52 a0 (1 : Int)).1 then some ((0 : Int), (7 : Int), PUnit.unit) else Sp.B_18_0 (Sp.J_18_0 ((Sp.v_52 a0 (0 : Int)).1) ((Sp.v_52 a0 (1 : Int)).1) a0) (some ((1 : Int), (0 : Int), PUnit.unit)) (some ((0 : Int), (0 : Int), PUnit.unit)) else Sp.B_18_0 (Sp.J_18_0 ((Sp.v_52 a0 (0 : Int)).1) ((Sp.v_52 a0 (1 : Int)).1) a0) (some ((1 : Int), (0 : Int), PUnit.unit)) (some ((0 : Int), (0 : Int), PUnit.unit)))))
theorem fn_18 (a0 : (((List Int) × ((List Int) × (Int × Unit))) × ((List Int) × Unit))) : evFnL sm_18 FU (ovr noO (evFn sm_18 fns FU 0)) (ir18_t O_18_18_0) ir18 (ofH [(.pair (.pair (.slice (.int .u32)) (.pair (.slice (.int .i64)) (.pair (.int .i64) .unit))) (.pair (.arr 32 (.int .u8)) .unit))] (a0, ())) [] (pureK [(.int .i64), (.int .i64)]) = F_18 a0 := by kernel_rfl
noncomputable def Sp.p_18 (a0 : (((List Int) × ((List Int) × (Int × Unit))) × ((List Int) × Unit))) : Bool := (F_18 a0).isSome
noncomputable def Sp.v_18 (a0 : (((List Int) × ((List Int) × (Int × Unit))) × ((List Int) × Unit))) : Int × Int × Unit := (F_18 a0).getD (dfH [(.int .i64), (.int .i64)])
noncomputable def s_18 : Summ := shN [(.pair (.pair (.slice (.int .u32)) (.pair (.slice (.int .i64)) (.pair (.int .i64) .unit))) (.pair (.arr 32 (.int .u8)) .unit))] [(.int .i64), (.int .i64)] (fun x => Sp.p_18 x.1) (fun x => Sp.v_18 x.1)
theorem pv_18 (a0 : (((List Int) × ((List Int) × (Int × Unit))) × ((List Int) × Unit))) {y : Int × Int × Unit} (h : F_18 a0 = some y) : Sp.p_18 a0 = true ∧ Sp.v_18 a0 = y := ⟨by rw [Sp.p_18, h]; rfl, by rw [Sp.v_18, h]; rfl⟩
theorem run_18 (x : HDen [(.pair (.pair (.slice (.int .u32)) (.pair (.slice (.int .i64)) (.pair (.int .i64) .unit))) (.pair (.arr 32 (.int .u8)) .unit))]) (y : HDen [(.int .i64), (.int .i64)]) (h : F_18 x.1 = some y) : evFn sm_18 fns FU 1 18 (ofH [(.pair (.pair (.slice (.int .u32)) (.pair (.slice (.int .i64)) (.pair (.int .i64) .unit))) (.pair (.arr 32 (.int .u8)) .unit))] x) [] (pureK [(.int .i64), (.int .i64)]) = some y :=
  evFnL_sound (fn := ir18) (t := (ir18_t O_18_18_0)) (o := noO) rfl noO_ok (ir18_tok (fun T k r => OK_18_18_0 T k r)) ((fn_18 _).trans h)
end
end Go.Ev
namespace Go.Ev
open Go
set_option maxRecDepth 100000
set_option maxHeartbeats 4000000
set_option linter.unusedVariables false
noncomputable section

noncomputable def sm_19 : Nat → Option Summ := fun f => bif Nat.beq f 17 then some s_17 else none


noncomputable def F_19 (a0 : (((List Int) × ((List Int) × (Int × Unit))) × ((List Int) × Unit))) : Option (Int × Bool × Unit) :=
  gd (Sp.p_17 a0) (some ((Sp.v_17 a0).1, (Sp.v_17 a0).2.1 == (0 : Int), PUnit.unit))
theorem fn_19 (a0 : (((List Int) × ((List Int) × (Int × Unit))) × ((List Int) × Unit))) : evFnL sm_19 FU (ovr noO (evFn sm_19 fns FU 0)) .nil ir19 (ofH [(.pair (.pair (.slice (.int .u32)) (.pair (.slice (.int .i64)) (.pair (.int .i64) .unit))) (.pair (.arr 32 (.int .u8)) .unit))] (a0, ())) [] (pureK [(.int .i64), .bool]) = F_19 a0 := by kernel_rfl
noncomputable def Sp.p_19 (a0 : (((List Int) × ((List Int) × (Int × Unit))) × ((List Int) × Unit))) : Bool := (F_19 a0).isSome
noncomputable def Sp.v_19 (a0 : (((List Int) × ((List Int) × (Int × Unit))) × ((List Int) × Unit))) : Int × Bool × Unit := (F_19 a0).getD (dfH [(.int .i64), .bool])
noncomputable def s_19 : Summ := shN [(.pair (.pair (.slice (.int .u32)) (.pair (.slice (.int .i64)) (.pair (.int .i64) .unit))) (.pair (.arr 32 (.int .u8)) .unit))] [(.int .i64), .bool] (fun x => Sp.p_19 x.1) (fun x => Sp.v_19 x.1)
theorem pv_19 (a0 : (((List Int) × ((List Int) × (Int × Unit))) × ((List Int) × Unit))) {y : Int × Bool × Unit} (h : F_19 a0 = some y) : Sp.p_19 a0 = true ∧ Sp.v_19 a0 = y := ⟨by rw [Sp.p_19, h]; rfl, by rw [Sp.v_19, h]; rfl⟩
theorem run_19 (x : HDen [(.pair (.pair (.slice (.int .u32)) (.pair (.slice (.int .i64)) (.pair (.int .i64) .unit))) (.pair (.arr 32 (.int .u8)) .unit))]) (y : HDen [(.int .i64), .bool]) (h : F_19 x.1 = some y) : evFn sm_19 fns FU 1 19 (ofH [(.pair (.pair (.slice (.int .u32)) (.pair (.slice (.int .i64)) (.pair (.int .i64) .unit))) (.pair (.arr 32 (.int .u8)) .unit))] x) [] (pureK [(.int .i64), .bool]) = some y :=
  evFnL_sound (fn := ir19) (t := .nil) (o := noO) rfl noO_ok trivial ((fn_19 _).trans h)
end
end Go.Ev
namespace Go.Ev
open Go
set_option maxRecDepth 100000
set_option maxHeartbeats 4000000
set_option linter.unusedVariables false
noncomputable section

noncomputable def sm_20 : Nat → Option Summ := fun f => bif Nat.beq f 14 then some s_14 else bif Nat.beq f 19 then some s_19 else none


noncomputable def F_20 (a0 : (((List Int) × ((List Int) × (Int × Unit))) × ((List Int) × Unit))) : Option (Int × Unit) :=
  gd (Sp.p_19 a0) (bif !(Sp.v_19 a0).2.1 then some ((0 : Int), PUnit.unit) else gd (Sp.p_14 a0 ((Sp.v_19 a0).1)) (some ((Sp.v_14 a0 ((Sp.v_19 a0).1)).1.1, PUnit.unit)))
theorem fn_20 (a0 : (((List Int) × ((List Int) × (Int × Unit))) × ((List Int) × Unit))) : evFnL sm_20 FU (ovr noO (evFn sm_20 fns FU 0)) .nil ir20 (ofH [(.pair (.pair (.slice (.int .u32)) (.pair (.slice (.int .i64)) (.pair (.int .i64) .unit))) (.pair (.arr 32 (.int .u8)) .unit))] (a0, ())) [] (pureK [(.int .i64)]) = F_20 a0 := by kernel_rfl
noncomputable def Sp.p_20 (a0 : (((List Int) × ((List Int) × (Int × Unit))) × ((List Int) × Unit))) : Bool := (F_20 a0).isSome
noncomputable def Sp.v_20 (a0 : (((List Int) × ((List Int) × (Int × Unit))) × ((List Int) × Unit))) : Int × Unit := (F_20 a0).getD (dfH [(.int .i64)])
noncomputable def s_20 : Summ := shN [(.pair (.pair (.slice (.int .u32)) (.pair (.slice (.int .i64)) (.pair (.int .i64) .unit))) (.pair (.arr 32 (.int .u8)) .unit))] [(.int .i64)] (fun x => Sp.p_20 x.1) (fun x => Sp.v_20 x.1)
theorem pv_20 (a0 : (((List Int) × ((List Int) × (Int × Unit))) × ((List Int) × Unit))) {y : Int × Unit} (h : F_20 a0 = some y) : Sp.p_20 a0 = true ∧ Sp.v_20 a0 = y := ⟨by rw [Sp.p_20, h]; rfl, by rw [Sp.v_20, h]; rfl⟩
theorem run_20 (x : HDen [(.pair (.pair (.slice (.int .u32)) (.pair (.slice (.int .i64)) (.pair (.int .i64) .unit))) (.pair (.arr 32 (.int .u8)) .unit))]) (y : HDen [(.int .i64)]) (h : F_20 x.1 = some y) : evFn sm_20 fns FU 1 20 (ofH [(.pair (.pair (.slice (.int .u32)) (.pair (.slice (.int .i64)) (.pair (.int .i64) .unit))) (.pair (.arr 32 (.int .u8)) .unit))] x) [] (pureK [(.int .i64)]) = some y :=
  evFnL_sound (fn := ir20) (t := .nil) (o := noO) rfl noO_ok trivial ((fn_20 _).trans h)
end
end Go.Ev
namespace Go.Ev
open Go
set_option maxRecDepth 100000
set_option maxHeartbeats 4000000
set_option linter.unusedVariables false
noncomputable section

noncomputable def sm_21 : Nat → Option Summ := fun f => bif Nat.beq f 18 then some s_18 else bif Nat.beq f 48 then some s_48 else none


noncomputable def F_21 (a0 : (((List Int) × ((List Int) × (Int × Unit))) × ((List Int) × Unit))) : Option (Int × Unit) :=
  gd (Sp.p_18 a0) (bif (Sp.v_18 a0).2.1 != (0 : Int) then some ((0 : Int), PUnit.unit) else gd (Sp.p_48 a0 ((Sp.v_18 a0).1)) (gd (inB (1 : Int) (List.length ((Sp.v_48 a0 ((Sp.v_18 a0).1)).1))) (some (IntKind.wrap IntKind.i64 (List.getD ((Sp.v_48 a0 ((Sp.v_18 a0).1)).1) (1 : Nat) (0 : Int)), PUnit.unit))))
theorem fn_21 (a0 : (((List Int) × ((List Int) × (Int × Unit))) × ((List Int) × Unit))) : evFnL sm_21 FU (ovr noO (evFn sm_21 fns FU 0)) .nil ir21 (ofH [(.pair (.pair (.slice (.int .u32)) (.pair (.slice (.int .i64)) (.pair (.int .i64) .unit))) (.pair (.arr 32 (.int .u8)) .unit))] (a0, ())) [] (pureK [(.int .i64)]) = F_21 a0 := by kernel_rfl
noncomputable def Sp.p_21 (a0 : (((List Int) × ((List Int) × (Int × Unit))) × ((List Int) × Unit))) : Bool := (F_21 a0).isSome
noncomputable def Sp.v_21 (a0 : (((List Int) × ((List Int) × (Int × Unit))) × ((List Int) × Unit))) : Int × Unit := (F_21 a0).getD (dfH [(.int .i64)])
noncomputable def s_21 : Summ := shN [(.pair (.pair (.slice (.int .u32)) (.pair (.slice (.int .i64)) (.pair (.int .i64) .unit))) (.pair (.arr 32 (.int .u8)) .unit))] [(.int .i64)] (fun x => Sp.p_21 x.1) (fun x => Sp.v_21 x.1)
theorem pv_21 (a0 : (((List Int) × ((List Int) × (Int × Unit))) × ((List Int) × Unit))) {y : Int × Unit} (h : F_21 a0 = some y) : Sp.p_21 a0 = true ∧ Sp.v_21 a0 = y := ⟨by rw [Sp.p_21, h]; rfl, by rw [Sp.v_21, h]; rfl⟩
theorem run_21 (x : HDen [(.pair (.pair (.slice (.int .u32)) (.pair (.slice (.int .i64)) (.pair (.int .i64) .unit))) (.pair (.arr 32 (.int .u8)) .unit))]) (y : HDen [(.int .i64)]) (h : F_21 x.1 = some y) : evFn sm_21 fns FU 1 21 (ofH [(.pair (.pair (.slice (.int .u32)) (.pair (.slice (.int .i64)) (.pair (.int .i64) .unit))) (.pair (.arr 32 (.int .u8)) .unit))] x) [] (pureK [(.int .i64)]) = some y :=
  evFnL_sound (fn := ir21) (t := .nil) (o := noO) rfl noO_ok trivial ((fn_21 _).trans h)
end
end Go.Ev
namespace Go.Ev
open Go
set_option maxRecDepth 100000
set_option maxHeartbeats 4000000
set_option linter.unusedVariables false
noncomputable section

noncomputable def sm_4 : Nat → Option Summ := fun f => bif Nat.beq f 10 then some s_10 else bif Nat.beq f 11 then some s_11 else bif Nat.beq f 13 then some s_13 else bif Nat.beq f 16 then some s_16 else bif Nat.beq f 17 then some s_17 else bif Nat.beq f 18 then some s_18 else bif Nat.beq f 19 then some s_19 else bif Nat.beq f 20 then some s_20 else bif Nat.beq f 21 then some s_21 else none


noncomputable def F_4 (a0 : (((List Int) × ((List Int) × (Int × Unit))) × ((List Int) × Unit))) (a1 : Int) : Option (Bool) :=
  gd Sp.p_10 (bif !Sp.v_10.1 then some false else gd (Sp.p_11 a0) (bif !(Sp.v_11 a0).1 then some true else gd (Sp.p_17 a0) (gd (Sp.p_18 a0) (gd (Sp.p_19 a0) (gd (Sp.p_13 a0 a1) (gd (Sp.p_16 a0 a1) (bif (Sp.v_13 a0 a1).1 == (Sp.v_16 a0 a1).1 then bif (Sp.v_17 a0).1 == (Sp.v_18 a0).1 then bif (Sp.v_17 a0).2.1 == (Sp.v_18 a0).2.1 then bif (Sp.v_19 a0).1 == (Sp.v_18 a0).1 then bif (Sp.v_19 a0).2.1 == ((Sp.v_18 a0).2.1 == (0 : Int)) then gd (Sp.p_20 a0) (gd (Sp.p_21 a0) (some ((Sp.v_20 a0).1 == (Sp.v_21 a0).1))) else some false else some false else some false else some false else some false)))))))
theorem fn_4 (a0 : (((List Int) × ((List Int) × (Int × Unit))) × ((List Int) × Unit))) (a1 : Int) : evFnL sm_4 FU (ovr noO (evFn sm_4 fns FU 0)) .nil ir4 (ofH [(.pair (.pair (.slice (.int .u32)) (.pair (.slice (.int .i64)) (.pair (.int .i64) .unit))) (.pair (.arr 32 (.int .u8)) .unit)), (.int .i64)] (a0, a1, ())) [] bk = F_4 a0 a1 := by kernel_rfl
theorem run_4 (a0 : (((List Int) × ((List Int) × (Int × Unit))) × ((List Int) × Unit))) (a1 : Int) {b : Bool} (h : F_4 a0 a1 = some b) : evFn sm_4 fns FU 1 4 (ofH [(.pair (.pair (.slice (.int .u32)) (.pair (.slice (.int .i64)) (.pair (.int .i64) .unit))) (.pair (.arr 32 (.int .u8)) .unit)), (.int .i64)] (a0, a1, ())) [] bk = some b :=
  evFnL_sound (fn := ir4) (t := .nil) (o := noO) rfl noO_ok trivial ((fn_4 _ _).trans h)
end
end Go.Ev
