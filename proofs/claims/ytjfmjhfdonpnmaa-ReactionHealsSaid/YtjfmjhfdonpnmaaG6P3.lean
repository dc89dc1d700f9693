/- Helpers: functions of the program as Lean functions, and what they compute. No condition. -/
import Derived.Test.YtjfmjhfdonpnmaaE6P2
import Derived.Test.YtjfmjhfdonpnmaaG6P1
import Derived.Test.YtjfmjhfdonpnmaaG6P2
import Derived.Test.YtjfmjhfdonpnmaaProg
import Derived.Test.YtjfmjhfdonpnmaaG6P0
set_option maxRecDepth 10000
set_option linter.unusedVariables false
set_option linter.unusedSimpArgs false
namespace Go.Ev
open Go
set_option maxRecDepth 100000
set_option maxHeartbeats 4000000
set_option linter.unusedVariables false
noncomputable section
abbrev Zt9_0 : Type := List (Int × Int × Int × Int × Int × Int × Bool × Int × Unit) × List (Int × Int × Int × Int × Int × List Int × Int × Unit) × Int × Bool × Unit
abbrev Zy9_1 : Ty := (Ty.pair (Ty.slice (Ty.pair (Ty.int IntKind.i64) (Ty.pair (Ty.int IntKind.i64) (Ty.pair (Ty.int IntKind.i64) (Ty.pair (Ty.int IntKind.i64) (Ty.pair (Ty.int IntKind.i64) (Ty.pair (Ty.int IntKind.i64) (Ty.pair Ty.bool (Ty.pair (Ty.int IntKind.i64) Ty.unit))))))))) (Ty.pair (Ty.slice (Ty.pair (Ty.int IntKind.i64) (Ty.pair (Ty.int IntKind.i64) (Ty.pair (Ty.int IntKind.i64) (Ty.pair (Ty.int IntKind.i64) (Ty.pair (Ty.int IntKind.i64) (Ty.pair (Ty.slice (Ty.int IntKind.i64)) (Ty.pair (Ty.int IntKind.i64) Ty.unit)))))))) (Ty.pair (Ty.int IntKind.i64) (Ty.pair Ty.bool Ty.unit))))
abbrev Zy9_2 : Ty := (.pair (.slice (.pair (.int .i64) (.pair (.int .i64) (.pair (.int .i64) (.pair (.int .i64) (.pair (.int .i64) (.pair (.int .i64) (.pair .bool (.pair (.int .i64) .unit))))))))) (.pair (.slice (.pair (.int .i64) (.pair (.int .i64) (.pair (.int .i64) (.pair (.int .i64) (.pair (.int .i64) (.pair (.slice (.int .i64)) (.pair (.int .i64) .unit)))))))) (.pair (.int .i64) (.pair .bool .unit))))
abbrev Zy9_3 : Ty := (Ty.pair (Ty.int IntKind.i64) (Ty.pair (Ty.int IntKind.i64) (Ty.pair (Ty.slice (Ty.int IntKind.i64)) (Ty.pair (Ty.int IntKind.i64) Ty.unit))))
abbrev Zy9_4 : Ty := (.pair (.int .i64) (.pair (.int .i64) (.pair (.slice (.int .i64)) (.pair (.int .i64) .unit))))
abbrev Zt9_5 : Type := List (Int × Int × Int × Int × Int × List Int × Int × Unit)
abbrev Zt9_6 : Type := List (List Int × Int × Int × List Int × Int × Unit)

noncomputable def sm_9 : Nat → Option Summ := fun f => none
noncomputable def T_9_49_0_0 (p0 : Zt9_6) (p1 : Int) (p2 : Int) (p3 : Zt9_0) : St := St.mk ([CV.pure (Ty.slice (Ty.pair Ty.str Zy9_3)) p0, CV.clo (34 : Nat) (CV.pure Ty.unit PUnit.unit), jk, jk, jk, jk, jk, CV.int IntKind.i64 p1, CV.int IntKind.i64 p2] ++ (jl 10)) [Blk.mem (CV.pure Zy9_1 p3)] (1 : Nat)
noncomputable def X_9_49_0_0_0 (p2 : Int) (p3 : Zt9_0) : St := St.mk ([jk, jk, jk, jk, CV.int IntKind.i64 p2] ++ (jl 14)) [Blk.mem (CV.pure Zy9_1 p3)] (1 : Nat)
noncomputable def X_9_49_0_0_1 (p3 : Zt9_0) : St := St.mk (jl 19) [Blk.mem (CV.pure Zy9_1 p3)] (1 : Nat)
inductive Sp.E_9_49_0_0 where
  | e0 (p2 : Int) (p3 : Zt9_0)
  | e1 (p3 : Zt9_0)
noncomputable def Sp.B_9_49_0_0 {R : Type} (r : Option Sp.E_9_49_0_0) (k0 : (Int) → (Zt9_0) → Option R) (k1 : (Zt9_0) → Option R) : Option R := match r with
  | none => none
  | some (.e0 p2 p3) => k0 p2 p3
  | some (.e1 p3) => k1 p3
noncomputable def Sp.L_9_49_0_0 : Nat → (List (List Int × Int × Int × List Int × Int × Unit)) → (Int) → (Int) → (List (Int × Int × Int × Int × Int × Int × Bool × Int × Unit) × List (Int × Int × Int × Int × Int × List Int × Int × Unit) × Int × Bool × Unit) → Option Sp.E_9_49_0_0
  | 0, _, _, _, _ => none
  | m + 1, p0, p1, p2, p3 => bif decide (p2 < p1) then gd (inB p2 (List.length p0)) (bif decide ((↑(List.length ((List.getD p0 (Int.toNat p2) (Ty.dflt (Ty.pair Ty.str (Ty.pair (Ty.int IntKind.i64) (Ty.pair (Ty.int IntKind.i64) (Ty.pair (Ty.slice (Ty.int IntKind.i64)) (Ty.pair (Ty.int IntKind.i64) Ty.unit))))))).2.2.2.1)) : Int) > (20 : Int)) then some (Sp.E_9_49_0_0.e0 p2 p3) else bif decide ((↑(List.length ((List.getD p0 (Int.toNat p2) (Ty.dflt (Ty.pair Ty.str (Ty.pair (Ty.int IntKind.i64) (Ty.pair (Ty.int IntKind.i64) (Ty.pair (Ty.slice (Ty.int IntKind.i64)) (Ty.pair (Ty.int IntKind.i64) Ty.unit))))))).1)) : Int) > (60 : Int)) then some (Sp.E_9_49_0_0.e0 p2 p3) else Sp.L_9_49_0_0 m p0 p1 (IntKind.wrap IntKind.i64 (p2 + (1 : Int))) p3) else some (Sp.E_9_49_0_0.e1 p3)
noncomputable def G_9_49_0_0 {R : Type} (p0 : Zt9_6) (p1 : Int) (p2 : Int) (p3 : Zt9_0) (k : Ex → St → Option R) : Option R := Sp.B_9_49_0_0 (Sp.L_9_49_0_0 FU p0 p1 p2 p3) (fun p2 p3 => k Ex.ret (X_9_49_0_0_0 p2 p3)) (fun p3 => k (Ex.exit (0 : Nat)) (X_9_49_0_0_1 p3))
noncomputable def o_9_49_0_0 {R : Type} (G : (Zt9_6) → (Int) → (Int) → (Zt9_0) → (Ex → St → Option R) → Option R) : St → (Ex → St → Option R) → Option R := fun T k => match T.sl.getD 0 .junk, T.sl.getD 1 .junk, T.sl.getD 7 .junk, T.sl.getD 8 .junk, T.hp with
  | CV.pure (Ty.slice (Ty.pair Ty.str (Ty.pair (Ty.int IntKind.i64) (Ty.pair (Ty.int IntKind.i64) (Ty.pair (Ty.slice (Ty.int IntKind.i64)) (Ty.pair (Ty.int IntKind.i64) Ty.unit)))))) p0, CV.clo (34 : Nat) (CV.pure Ty.unit PUnit.unit), CV.int IntKind.i64 p1, CV.int IntKind.i64 p2, ((Blk.mem (CV.pure (Ty.pair (Ty.slice (Ty.pair (Ty.int IntKind.i64) (Ty.pair (Ty.int IntKind.i64) (Ty.pair (Ty.int IntKind.i64) (Ty.pair (Ty.int IntKind.i64) (Ty.pair (Ty.int IntKind.i64) (Ty.pair (Ty.int IntKind.i64) (Ty.pair Ty.bool (Ty.pair (Ty.int IntKind.i64) Ty.unit))))))))) (Ty.pair (Ty.slice (Ty.pair (Ty.int IntKind.i64) (Ty.pair (Ty.int IntKind.i64) (Ty.pair (Ty.int IntKind.i64) (Ty.pair (Ty.int IntKind.i64) (Ty.pair (Ty.int IntKind.i64) (Ty.pair (Ty.slice (Ty.int IntKind.i64)) (Ty.pair (Ty.int IntKind.i64) Ty.unit)))))))) (Ty.pair (Ty.int IntKind.i64) (Ty.pair Ty.bool Ty.unit)))) p3)) :: []) => gd (shapeOK T 19 [0, 1, 7, 8] (1 : Nat)) (G p0 p1 p2 p3 k)
  | _, _, _, _, _ => none
theorem o_9_49_0_0_inv {R : Type} {G : (Zt9_6) → (Int) → (Int) → (Zt9_0) → (Ex → St → Option R) → Option R} {T : St} {k : Ex → St → Option R} {r : R} (h : o_9_49_0_0 G T k = some r) : ∃ p0 p1 p2 p3, T = T_9_49_0_0 p0 p1 p2 p3 ∧ G p0 p1 p2 p3 k = some r := by
  unfold o_9_49_0_0 at h
  split at h
  · obtain ⟨hs, h'⟩ := gd_some h
    refine ⟨_, _, _, _, (st_of (asg := [(0, _), (1, _), (7, _), (8, _)]) hs ⟨by assumption, by assumption, by assumption, by assumption, trivial⟩ (by assumption)).trans ?_, h'⟩
    kernel_rfl
  · cases h
noncomputable def T_9_50_0_0 (p0 : Zt9_5) (p1 : Int) (p2 : Int) (p3 : Zt9_0) : St := St.mk ([CV.pure (Ty.slice (Ty.pair (Ty.int IntKind.i64) (Ty.pair (Ty.int IntKind.i64) (Ty.pair (Ty.int IntKind.i64) (Ty.pair (Ty.int IntKind.i64) (Ty.pair (Ty.int IntKind.i64) (Ty.pair (Ty.slice (Ty.int IntKind.i64)) (Ty.pair (Ty.int IntKind.i64) Ty.unit)))))))) p0, CV.clo (36 : Nat) (CV.pure Ty.unit PUnit.unit), jk, jk, jk, jk, jk, CV.int IntKind.i64 p1, CV.int IntKind.i64 p2] ++ (jl 10)) [Blk.mem (CV.pure Zy9_1 p3)] (1 : Nat)
noncomputable def X_9_50_0_0_0 (p2 : Int) (p3 : Zt9_0) : St := St.mk ([jk, jk, jk, jk, CV.int IntKind.i64 p2] ++ (jl 14)) [Blk.mem (CV.pure Zy9_1 p3)] (1 : Nat)
noncomputable def X_9_50_0_0_1 (p3 : Zt9_0) : St := St.mk (jl 19) [Blk.mem (CV.pure Zy9_1 p3)] (1 : Nat)
inductive Sp.E_9_50_0_0 where
  | e0 (p2 : Int) (p3 : Zt9_0)
  | e1 (p3 : Zt9_0)
noncomputable def Sp.B_9_50_0_0 {R : Type} (r : Option Sp.E_9_50_0_0) (k0 : (Int) → (Zt9_0) → Option R) (k1 : (Zt9_0) → Option R) : Option R := match r with
  | none => none
  | some (.e0 p2 p3) => k0 p2 p3
  | some (.e1 p3) => k1 p3
noncomputable def Sp.L_9_50_0_0 : Nat → (List (Int × Int × Int × Int × Int × List Int × Int × Unit)) → (Int) → (Int) → (List (Int × Int × Int × Int × Int × Int × Bool × Int × Unit) × List (Int × Int × Int × Int × Int × List Int × Int × Unit) × Int × Bool × Unit) → Option Sp.E_9_50_0_0
  | 0, _, _, _, _ => none
  | m + 1, p0, p1, p2, p3 => bif decide (p2 < p1) then gd (inB p2 (List.length p0)) (bif decide ((↑(List.length ((List.getD p0 (Int.toNat p2) Zd2).2.2.2.2.2.1)) : Int) > (20 : Int)) then some (Sp.E_9_50_0_0.e0 p2 p3) else Sp.L_9_50_0_0 m p0 p1 (IntKind.wrap IntKind.i64 (p2 + (1 : Int))) p3) else some (Sp.E_9_50_0_0.e1 p3)
noncomputable def G_9_50_0_0 {R : Type} (p0 : Zt9_5) (p1 : Int) (p2 : Int) (p3 : Zt9_0) (k : Ex → St → Option R) : Option R := Sp.B_9_50_0_0 (Sp.L_9_50_0_0 FU p0 p1 p2 p3) (fun p2 p3 => k Ex.ret (X_9_50_0_0_0 p2 p3)) (fun p3 => k (Ex.exit (0 : Nat)) (X_9_50_0_0_1 p3))
noncomputable def o_9_50_0_0 {R : Type} (G : (Zt9_5) → (Int) → (Int) → (Zt9_0) → (Ex → St → Option R) → Option R) : St → (Ex → St → Option R) → Option R := fun T k => match T.sl.getD 0 .junk, T.sl.getD 1 .junk, T.sl.getD 7 .junk, T.sl.getD 8 .junk, T.hp with
  | CV.pure (Ty.slice (Ty.pair (Ty.int IntKind.i64) (Ty.pair (Ty.int IntKind.i64) (Ty.pair (Ty.int IntKind.i64) (Ty.pair (Ty.int IntKind.i64) (Ty.pair (Ty.int IntKind.i64) (Ty.pair (Ty.slice (Ty.int IntKind.i64)) (Ty.pair (Ty.int IntKind.i64) Ty.unit)))))))) p0, CV.clo (36 : Nat) (CV.pure Ty.unit PUnit.unit), CV.int IntKind.i64 p1, CV.int IntKind.i64 p2, ((Blk.mem (CV.pure (Ty.pair (Ty.slice (Ty.pair (Ty.int IntKind.i64) (Ty.pair (Ty.int IntKind.i64) (Ty.pair (Ty.int IntKind.i64) (Ty.pair (Ty.int IntKind.i64) (Ty.pair (Ty.int IntKind.i64) (Ty.pair (Ty.int IntKind.i64) (Ty.pair Ty.bool (Ty.pair (Ty.int IntKind.i64) Ty.unit))))))))) (Ty.pair (Ty.slice (Ty.pair (Ty.int IntKind.i64) (Ty.pair (Ty.int IntKind.i64) (Ty.pair (Ty.int IntKind.i64) (Ty.pair (Ty.int IntKind.i64) (Ty.pair (Ty.int IntKind.i64) (Ty.pair (Ty.slice (Ty.int IntKind.i64)) (Ty.pair (Ty.int IntKind.i64) Ty.unit)))))))) (Ty.pair (Ty.int IntKind.i64) (Ty.pair Ty.bool Ty.unit)))) p3)) :: []) => gd (shapeOK T 19 [0, 1, 7, 8] (1 : Nat)) (G p0 p1 p2 p3 k)
  | _, _, _, _, _ => none
theorem o_9_50_0_0_inv {R : Type} {G : (Zt9_5) → (Int) → (Int) → (Zt9_0) → (Ex → St → Option R) → Option R} {T : St} {k : Ex → St → Option R} {r : R} (h : o_9_50_0_0 G T k = some r) : ∃ p0 p1 p2 p3, T = T_9_50_0_0 p0 p1 p2 p3 ∧ G p0 p1 p2 p3 k = some r := by
  unfold o_9_50_0_0 at h
  split at h
  · obtain ⟨hs, h'⟩ := gd_some h
    refine ⟨_, _, _, _, (st_of (asg := [(0, _), (1, _), (7, _), (8, _)]) hs ⟨by assumption, by assumption, by assumption, by assumption, trivial⟩ (by assumption)).trans ?_, h'⟩
    kernel_rfl
  · cases h
noncomputable def O_9_49_0 {R : Type} : St → (Ex → St → Option R) → Option R := fun T k => o_9_49_0_0 G_9_49_0_0 T k
noncomputable def O_9_50_0 {R : Type} : St → (Ex → St → Option R) → Option R := fun T k => o_9_50_0_0 G_9_50_0_0 T k
noncomputable def g_9_49 {R : Type} : List CV → List Blk → (CV → List Blk → Option R) → Option R := evFnL sm_9 FU (ovr noO (evFn sm_9 fns FU 1)) (ir49_t O_9_49_0) ir49
noncomputable def g_9_33 {R : Type} : List CV → List Blk → (CV → List Blk → Option R) → Option R := evFnL sm_9 FU (ovr (fun f' => bif Nat.beq f' 49 then some (g_9_49) else none) (evFn sm_9 fns FU 2)) .nil ir33
noncomputable def g_9_50 {R : Type} : List CV → List Blk → (CV → List Blk → Option R) → Option R := evFnL sm_9 FU (ovr noO (evFn sm_9 fns FU 1)) (ir50_t O_9_50_0) ir50
noncomputable def g_9_35 {R : Type} : List CV → List Blk → (CV → List Blk → Option R) → Option R := evFnL sm_9 FU (ovr (fun f' => bif Nat.beq f' 50 then some (g_9_50) else none) (evFn sm_9 fns FU 2)) .nil ir35
theorem body_9_49_0_0 {R : Type} (K0 : St → Option R) (K1 : Ex → St → Option R) (p0 : Zt9_6) (p1 : Int) (p2 : Int) (p3 : Zt9_0) : evLB (evCodeL sm_9 FU (ovr noO (evFn sm_9 fns FU 1)) .nil ir49_b0) (St.norm ir49_v0) (T_9_49_0_0 p0 p1 p2 p3) K0 K1 =
  bif decide (p2 < p1) then gd (inB p2 (List.length p0)) (bif decide ((↑(List.length ((List.getD p0 (Int.toNat p2) (Ty.dflt (Ty.pair Ty.str Zy9_3))).2.2.2.1)) : Int) > (20 : Int)) then K1 Ex.ret (X_9_49_0_0_0 p2 p3) else bif decide ((↑(List.length ((List.getD p0 (Int.toNat p2) (Ty.dflt (Ty.pair Ty.str Zy9_3))).1)) : Int) > (60 : Int)) then K1 Ex.ret (X_9_49_0_0_0 p2 p3) else K0 (T_9_49_0_0 p0 p1 (IntKind.wrap IntKind.i64 (p2 + (1 : Int))) p3)) else K1 (Ex.exit (0 : Nat)) (X_9_49_0_0_1 p3) := by kernel_rfl
theorem Bgd_9_49_0_0 {R : Type} {c : Bool} {x : Option R} {y : Option Sp.E_9_49_0_0} {k0 : (Int) → (Zt9_0) → Option R} {k1 : (Zt9_0) → Option R} (h : x = Sp.B_9_49_0_0 y k0 k1) : gd c x = Sp.B_9_49_0_0 (gd c y) k0 k1 := by cases c; rfl; exact h
theorem Bcond_9_49_0_0 {R : Type} {c : Bool} {x x' : Option R} {y y' : Option Sp.E_9_49_0_0} {k0 : (Int) → (Zt9_0) → Option R} {k1 : (Zt9_0) → Option R} (h : x = Sp.B_9_49_0_0 y k0 k1) (h' : x' = Sp.B_9_49_0_0 y' k0 k1) : (bif c then x else x') = Sp.B_9_49_0_0 (bif c then y else y') k0 k1 := by cases c; exact h'; exact h
theorem loop_9_49_0_0 {R : Type} (k : Ex → St → Option R) : ∀ (m : Nat) (p0 : Zt9_6) (p1 : Int) (p2 : Int) (p3 : Zt9_0), evLoopN (evCodeL sm_9 FU (ovr noO (evFn sm_9 fns FU 1)) .nil ir49_b0) (St.norm ir49_v0) m (T_9_49_0_0 p0 p1 p2 p3) k = Sp.B_9_49_0_0 (Sp.L_9_49_0_0 m p0 p1 p2 p3) (fun p2 p3 => k Ex.ret (X_9_49_0_0_0 p2 p3)) (fun p3 => k (Ex.exit (0 : Nat)) (X_9_49_0_0_1 p3))
  | 0, _, _, _, _ => rfl
  | m + 1, p0, p1, p2, p3 => by
    rw [evLoopN_succ, body_9_49_0_0, Sp.L_9_49_0_0]
    repeat' first | apply Bgd_9_49_0_0 | apply Bcond_9_49_0_0 | exact loop_9_49_0_0 k m _ _ _ _ | rfl
theorem ok_9_49_0_0 {R : Type} (T : St) (k : Ex → St → Option R) (r : R) (h0 : o_9_49_0_0 G_9_49_0_0 T k = some r) : evLoopN (evCode sm_9 FU (evFn sm_9 fns FU 1) ir49_b0) (St.norm ir49_v0) FU T k = some r := by
  obtain ⟨p0, p1, p2, p3, rfl, h⟩ := o_9_49_0_0_inv h0
  refine evLoopN_L (t := .nil) noO_ok trivial _ _ _ _ ?_
  rw [loop_9_49_0_0]
  exact h
theorem OK_9_49_0 {R : Type} (T : St) (k : Ex → St → Option R) (r : R) (h : O_9_49_0 T k = some r) : evLoopN (evCode sm_9 FU (evFn sm_9 fns FU 1) ir49_b0) (St.norm ir49_v0) FU T k = some r := ok_9_49_0_0 T k r h
theorem g_9_49_ok {R : Type} (args : List CV) (hp : List Blk) (k : CV → List Blk → Option R) (r : R) (h : g_9_49 args hp k = some r) : evFn sm_9 fns FU 2 49 args hp k = some r :=
  evFnL_sound (fn := ir49) (t := (ir49_t O_9_49_0)) (o := noO) rfl noO_ok (ir49_tok (fun T k r => OK_9_49_0 T k r)) h
theorem ov_9_33_ok {R : Type} : OvrOK (R := R) (fun f' => bif Nat.beq f' 49 then some (g_9_49) else none) (evFn sm_9 fns FU 2) := by
  intro f' g h args hp k r hg
  dsimp only at h
  by_cases h49 : f' = 49
  · subst h49
    injection h with h
    subst h
    exact evFn_le 0 (g_9_49_ok _ _ _ _ hg)
  rw [nbeq_ne h49, cond_false] at h
  cases h
theorem g_9_33_ok {R : Type} (args : List CV) (hp : List Blk) (k : CV → List Blk → Option R) (r : R) (h : g_9_33 args hp k = some r) : evFn sm_9 fns FU 3 33 args hp k = some r :=
  evFnL_sound (fn := ir33) (t := .nil) (o := (fun f' => bif Nat.beq f' 49 then some (g_9_49) else none)) rfl ov_9_33_ok trivial h
theorem body_9_50_0_0 {R : Type} (K0 : St → Option R) (K1 : Ex → St → Option R) (p0 : Zt9_5) (p1 : Int) (p2 : Int) (p3 : Zt9_0) : evLB (evCodeL sm_9 FU (ovr noO (evFn sm_9 fns FU 1)) .nil ir50_b0) (St.norm ir50_v0) (T_9_50_0_0 p0 p1 p2 p3) K0 K1 =
  bif decide (p2 < p1) then gd (inB p2 (List.length p0)) (bif decide ((↑(List.length ((List.getD p0 (Int.toNat p2) Zd2).2.2.2.2.2.1)) : Int) > (20 : Int)) then K1 Ex.ret (X_9_50_0_0_0 p2 p3) else K0 (T_9_50_0_0 p0 p1 (IntKind.wrap IntKind.i64 (p2 + (1 : Int))) p3)) else K1 (Ex.exit (0 : Nat)) (X_9_50_0_0_1 p3) := by kernel_rfl
theorem Bgd_9_50_0_0 {R : Type} {c : Bool} {x : Option R} {y : Option Sp.E_9_50_0_0} {k0 : (Int) → (Zt9_0) → Option R} {k1 : (Zt9_0) → Option R} (h : x = Sp.B_9_50_0_0 y k0 k1) : gd c x = Sp.B_9_50_0_0 (gd c y) k0 k1 := by cases c; rfl; exact h
theorem Bcond_9_50_0_0 {R : Type} {c : Bool} {x x' : Option R} {y y' : Option Sp.E_9_50_0_0} {k0 : (Int) → (Zt9_0) → Option R} {k1 : (Zt9_0) → Option R} (h : x = Sp.B_9_50_0_0 y k0 k1) (h' : x' = Sp.B_9_50_0_0 y' k0 k1) : (bif c then x else x') = Sp.B_9_50_0_0 (bif c then y else y') k0 k1 := by cases c; exact h'; exact h
theorem loop_9_50_0_0 {R : Type} (k : Ex → St → Option R) : ∀ (m : Nat) (p0 : Zt9_5) (p1 : Int) (p2 : Int) (p3 : Zt9_0), evLoopN (evCodeL sm_9 FU (ovr noO (evFn sm_9 fns FU 1)) .nil ir50_b0) (St.norm ir50_v0) m (T_9_50_0_0 p0 p1 p2 p3) k = Sp.B_9_50_0_0 (Sp.L_9_50_0_0 m p0 p1 p2 p3) (fun p2 p3 => k Ex.ret (X_9_50_0_0_0 p2 p3)) (fun p3 => k (Ex.exit (0 : Nat)) (X_9_50_0_0_1 p3))
  | 0, _, _, _, _ => rfl
  | m + 1, p0, p1, p2, p3 => by
    rw [evLoopN_succ, body_9_50_0_0, Sp.L_9_50_0_0]
    repeat' first | apply Bgd_9_50_0_0 | apply Bcond_9_50_0_0 | exact loop_9_50_0_0 k m _ _ _ _ | rfl
theorem ok_9_50_0_0 {R : Type} (T : St) (k : Ex → St → Option R) (r : R) (h0 : o_9_50_0_0 G_9_50_0_0 T k = some r) : evLoopN (evCode sm_9 FU (evFn sm_9 fns FU 1) ir50_b0) (St.norm ir50_v0) FU T k = some r := by
  obtain ⟨p0, p1, p2, p3, rfl, h⟩ := o_9_50_0_0_inv h0
  refine evLoopN_L (t := .nil) noO_ok trivial _ _ _ _ ?_
  rw [loop_9_50_0_0]
  exact h
theorem OK_9_50_0 {R : Type} (T : St) (k : Ex → St → Option R) (r : R) (h : O_9_50_0 T k = some r) : evLoopN (evCode sm_9 FU (evFn sm_9 fns FU 1) ir50_b0) (St.norm ir50_v0) FU T k = some r := ok_9_50_0_0 T k r h
theorem g_9_50_ok {R : Type} (args : List CV) (hp : List Blk) (k : CV → List Blk → Option R) (r : R) (h : g_9_50 args hp k = some r) : evFn sm_9 fns FU 2 50 args hp k = some r :=
  evFnL_sound (fn := ir50) (t := (ir50_t O_9_50_0)) (o := noO) rfl noO_ok (ir50_tok (fun T k r => OK_9_50_0 T k r)) h
theorem ov_9_35_ok {R : Type} : OvrOK (R := R) (fun f' => bif Nat.beq f' 50 then some (g_9_50) else none) (evFn sm_9 fns FU 2) := by
  intro f' g h args hp k r hg
  dsimp only at h
  by_cases h50 : f' = 50
  · subst h50
    injection h with h
    subst h
    exact evFn_le 0 (g_9_50_ok _ _ _ _ hg)
  rw [nbeq_ne h50, cond_false] at h
  cases h
theorem g_9_35_ok {R : Type} (args : List CV) (hp : List Blk) (k : CV → List Blk → Option R) (r : R) (h : g_9_35 args hp k = some r) : evFn sm_9 fns FU 3 35 args hp k = some r :=
  evFnL_sound (fn := ir35) (t := .nil) (o := (fun f' => bif Nat.beq f' 50 then some (g_9_50) else none)) rfl ov_9_35_ok trivial h
theorem ov_9_9_ok {R : Type} : OvrOK (R := R) (fun f' => bif Nat.beq f' 33 then some (g_9_33) else bif Nat.beq f' 35 then some (g_9_35) else none) (evFn sm_9 fns FU 3) := by
  intro f' g h args hp k r hg
  dsimp only at h
  by_cases h33 : f' = 33
  · subst h33
    injection h with h
    subst h
    exact evFn_le 0 (g_9_33_ok _ _ _ _ hg)
  rw [nbeq_ne h33, cond_false] at h
  by_cases h35 : f' = 35
  · subst h35
    injection h with h
    subst h
    exact evFn_le 0 (g_9_35_ok _ _ _ _ hg)
  rw [nbeq_ne h35, cond_false] at h
  cases h
noncomputable def F_9 (a0 : (List ((List Int) × (Int × (Int × ((List Int) × (Int × Unit))))))) (a1 : ((List (Int × (Int × (Int × (Int × (Int × (Int × (Bool × (Int × Unit))))))))) × ((List (Int × (Int × (Int × (Int × (Int × ((List Int) × (Int × Unit)))))))) × (Int × (Bool × Unit))))) : Option (Bool × Unit) :=
  bif decide ((↑(List.length a0) : Int) ≤ (70 : Int)) then bif decide ((↑(List.length (a1.1)) : Int) ≤ (70 : Int)) then bif decide ((↑(List.length (a1.2.1)) : Int) ≤ (70 : Int)) then Sp.B_9_49_0_0 (Sp.L_9_49_0_0 (4611686018427387904 : Nat) a0 (↑(List.length a0) : Int) (0 : Int) a1) (fun y29 y30 => bif !decide (y29 ≥ (0 : Int)) then Sp.B_9_50_0_0 (Sp.L_9_50_0_0 (4611686018427387904 : Nat) (y30.2.1) (↑(List.length (y30.2.1)) : Int) (0 : Int) y30) (fun y31 y32 => some (!decide (y31 ≥ (0 : Int)), PUnit.unit)) fun y33 => some (true, PUnit.unit) else some (false, PUnit.unit)) fun y34 => Sp.B_9_50_0_0 (Sp.L_9_50_0_0 (4611686018427387904 : Nat) (y34.2.1) (↑(List.length (y34.2.1)) : Int) (0 : Int) y34) (fun y35 y36 => some (!decide (y35 ≥ (0 : Int)), PUnit.unit)) fun y37 => some (true, PUnit.unit) else some (false, PUnit.unit) else some (false, PUnit.unit) else some (false, PUnit.unit)
theorem fn_9 (a0 : (List ((List Int) × (Int × (Int × ((List Int) × (Int × Unit))))))) (a1 : ((List (Int × (Int × (Int × (Int × (Int × (Int × (Bool × (Int × Unit))))))))) × ((List (Int × (Int × (Int × (Int × (Int × ((List Int) × (Int × Unit)))))))) × (Int × (Bool × Unit))))) : evFnL sm_9 FU (ovr (fun f' => bif Nat.beq f' 33 then some (g_9_33) else bif Nat.beq f' 35 then some (g_9_35) else none) (evFn sm_9 fns FU 3)) .nil ir9 (ofH [(.slice (.pair .str Zy9_4)), Zy9_2] (a0, a1, ())) [] (pureK [.bool]) = F_9 a0 a1 := by kernel_rfl
noncomputable def Sp.p_9 (a0 : (List ((List Int) × (Int × (Int × ((List Int) × (Int × Unit))))))) (a1 : ((List (Int × (Int × (Int × (Int × (Int × (Int × (Bool × (Int × Unit))))))))) × ((List (Int × (Int × (Int × (Int × (Int × ((List Int) × (Int × Unit)))))))) × (Int × (Bool × Unit))))) : Bool := (F_9 a0 a1).isSome
noncomputable def Sp.v_9 (a0 : (List ((List Int) × (Int × (Int × ((List Int) × (Int × Unit))))))) (a1 : ((List (Int × (Int × (Int × (Int × (Int × (Int × (Bool × (Int × Unit))))))))) × ((List (Int × (Int × (Int × (Int × (Int × ((List Int) × (Int × Unit)))))))) × (Int × (Bool × Unit))))) : Bool × Unit := (F_9 a0 a1).getD (dfH [.bool])
noncomputable def s_9 : Summ := shN [(.slice (.pair .str Zy9_4)), Zy9_2] [.bool] (fun x => Sp.p_9 x.1 x.2.1) (fun x => Sp.v_9 x.1 x.2.1)
theorem pv_9 (a0 : (List ((List Int) × (Int × (Int × ((List Int) × (Int × Unit))))))) (a1 : ((List (Int × (Int × (Int × (Int × (Int × (Int × (Bool × (Int × Unit))))))))) × ((List (Int × (Int × (Int × (Int × (Int × ((List Int) × (Int × Unit)))))))) × (Int × (Bool × Unit))))) {y : Bool × Unit} (h : F_9 a0 a1 = some y) : Sp.p_9 a0 a1 = true ∧ Sp.v_9 a0 a1 = y := ⟨by rw [Sp.p_9, h]; rfl, by rw [Sp.v_9, h]; rfl⟩
theorem run_9 (x : HDen [(.slice (.pair .str Zy9_4)), Zy9_2]) (y : HDen [.bool]) (h : F_9 x.1 x.2.1 = some y) : evFn sm_9 fns FU 4 9 (ofH [(.slice (.pair .str Zy9_4)), Zy9_2] x) [] (pureK [.bool]) = some y :=
  evFnL_sound (fn := ir9) (t := .nil) (o := (fun f' => bif Nat.beq f' 33 then some (g_9_33) else bif Nat.beq f' 35 then some (g_9_35) else none)) rfl ov_9_9_ok trivial ((fn_9 _ _).trans h)
end
end Go.Ev
namespace Go.Ev
open Go
set_option maxRecDepth 100000
set_option maxHeartbeats 4000000
set_option linter.unusedVariables false
noncomputable section
abbrev Zt17_0 : Type := List (Int × Int × Int × Int × Int × Int × Bool × Int × Unit) × List (Int × Int × Int × Int × Int × List Int × Int × Unit) × Int × Bool × Unit
abbrev Zy17_1 : Ty := (Ty.pair (Ty.slice (Ty.pair (Ty.int IntKind.i64) (Ty.pair (Ty.int IntKind.i64) (Ty.pair (Ty.int IntKind.i64) (Ty.pair (Ty.int IntKind.i64) (Ty.pair (Ty.int IntKind.i64) (Ty.pair (Ty.int IntKind.i64) (Ty.pair Ty.bool (Ty.pair (Ty.int IntKind.i64) Ty.unit))))))))) (Ty.pair (Ty.slice (Ty.pair (Ty.int IntKind.i64) (Ty.pair (Ty.int IntKind.i64) (Ty.pair (Ty.int IntKind.i64) (Ty.pair (Ty.int IntKind.i64) (Ty.pair (Ty.int IntKind.i64) (Ty.pair (Ty.slice (Ty.int IntKind.i64)) (Ty.pair (Ty.int IntKind.i64) Ty.unit)))))))) (Ty.pair (Ty.int IntKind.i64) (Ty.pair Ty.bool Ty.unit))))
abbrev Zy17_2 : Ty := (.pair (.slice (.pair (.int .i64) (.pair (.int .i64) (.pair (.int .i64) (.pair (.int .i64) (.pair (.int .i64) (.pair (.int .i64) (.pair .bool (.pair (.int .i64) .unit))))))))) (.pair (.slice (.pair (.int .i64) (.pair (.int .i64) (.pair (.int .i64) (.pair (.int .i64) (.pair (.int .i64) (.pair (.slice (.int .i64)) (.pair (.int .i64) .unit)))))))) (.pair (.int .i64) (.pair .bool .unit))))
abbrev Zy17_3 : Ty := (.pair (.int .i64) (.pair (.int .i64) (.pair (.slice (.int .i64)) (.pair (.int .i64) .unit))))

abbrev s17_42 : Summ := actS
noncomputable def sm_17 : Nat → Option Summ := fun f => bif Nat.beq f 40 then some s_40 else bif Nat.beq f 42 then some s17_42 else none
noncomputable def T_17_41_0_0 (p0 : Int) (p1 : Zt17_0) (p2 : List Int) (p3 : Int) (p4 : Int) (p5 : Zt17_0) (p6 : List Int) : St := St.mk ([jk, CV.clo (53 : Nat) (CV.pair (CV.ref (Ty.int IntKind.i64) p0) (CV.pair (CV.ref Zy17_1 p1) (CV.pure Ty.unit PUnit.unit))), jk, jk, jk, CV.whole (2 : Nat), jk, jk, jk, CV.pure (Ty.slice (Ty.int IntKind.i64)) p2, CV.int IntKind.i64 p3, CV.int IntKind.i64 p4] ++ (jl 12)) [Blk.mem (CV.pure Zy17_1 p5), Blk.fresh, Blk.vec (3 : Nat) (Ty.int IntKind.i64) p6] (2 : Nat)
noncomputable def X_17_41_0_0_0 (p5 : Zt17_0) (p6 : List Int) : St := St.mk ([jk, jk, jk, jk, jk, CV.whole (2 : Nat)] ++ (jl 18)) [Blk.mem (CV.pure Zy17_1 p5), Blk.fresh, Blk.vec (3 : Nat) (Ty.int IntKind.i64) p6] (2 : Nat)
inductive Sp.E_17_41_0_0 where
  | e0 (p5 : Zt17_0) (p6 : List Int)
noncomputable def Sp.B_17_41_0_0 {R : Type} (r : Option Sp.E_17_41_0_0) (k0 : (Zt17_0) → (List Int) → Option R) : Option R := match r with
  | none => none
  | some (.e0 p5 p6) => k0 p5 p6
noncomputable def Sp.L_17_41_0_0 : Nat → (Int) → (List (Int × Int × Int × Int × Int × Int × Bool × Int × Unit) × List (Int × Int × Int × Int × Int × List Int × Int × Unit) × Int × Bool × Unit) → (List Int) → (Int) → (Int) → (List (Int × Int × Int × Int × Int × Int × Bool × Int × Unit) × List (Int × Int × Int × Int × Int × List Int × Int × Unit) × Int × Bool × Unit) → (List Int) → Option Sp.E_17_41_0_0
  | 0, _, _, _, _, _, _, _ => none
  | m + 1, p0, p1, p2, p3, p4, p5, p6 => bif decide (p4 < p3) then gd (inB p4 (List.length p2)) (bif List.getD p2 (Int.toNat p4) (0 : Int) != p0 then gd (inB (List.getD p2 (Int.toNat p4) (0 : Int)) (List.length (p1.2.1))) (bif Sp.andI IntKind.i64 ((List.getD (p1.2.1) (Int.toNat (List.getD p2 (Int.toNat p4) (0 : Int))) Zd2).1) (5 : Int) != (0 : Int) then gd (room (List.length p6 + (1 : Nat)) (8 : Nat)) (Sp.L_17_41_0_0 m p0 p1 p2 p3 (IntKind.wrap IntKind.i64 (p4 + (1 : Int))) p5 (p6 ++ [List.getD p2 (Int.toNat p4) (0 : Int)])) else Sp.L_17_41_0_0 m p0 p1 p2 p3 (IntKind.wrap IntKind.i64 (p4 + (1 : Int))) p5 p6) else Sp.L_17_41_0_0 m p0 p1 p2 p3 (IntKind.wrap IntKind.i64 (p4 + (1 : Int))) p5 p6) else some (Sp.E_17_41_0_0.e0 p5 p6)
noncomputable def G_17_41_0_0 {R : Type} (p0 : Int) (p1 : Zt17_0) (p2 : List Int) (p3 : Int) (p4 : Int) (p5 : Zt17_0) (p6 : List Int) (k : Ex → St → Option R) : Option R := Sp.B_17_41_0_0 (Sp.L_17_41_0_0 FU p0 p1 p2 p3 p4 p5 p6) (fun p5 p6 => k (Ex.exit (0 : Nat)) (X_17_41_0_0_0 p5 p6))
noncomputable def o_17_41_0_0 {R : Type} (G : (Int) → (Zt17_0) → (List Int) → (Int) → (Int) → (Zt17_0) → (List Int) → (Ex → St → Option R) → Option R) : St → (Ex → St → Option R) → Option R := fun T k => match T.sl.getD 1 .junk, T.sl.getD 5 .junk, T.sl.getD 9 .junk, T.sl.getD 10 .junk, T.sl.getD 11 .junk, T.hp with
  | CV.clo (53 : Nat) (CV.pair (CV.ref (Ty.int IntKind.i64) p0) (CV.pair (CV.ref (Ty.pair (Ty.slice (Ty.pair (Ty.int IntKind.i64) (Ty.pair (Ty.int IntKind.i64) (Ty.pair (Ty.int IntKind.i64) (Ty.pair (Ty.int IntKind.i64) (Ty.pair (Ty.int IntKind.i64) (Ty.pair (Ty.int IntKind.i64) (Ty.pair Ty.bool (Ty.pair (Ty.int IntKind.i64) Ty.unit))))))))) (Ty.pair (Ty.slice (Ty.pair (Ty.int IntKind.i64) (Ty.pair (Ty.int IntKind.i64) (Ty.pair (Ty.int IntKind.i64) (Ty.pair (Ty.int IntKind.i64) (Ty.pair (Ty.int IntKind.i64) (Ty.pair (Ty.slice (Ty.int IntKind.i64)) (Ty.pair (Ty.int IntKind.i64) Ty.unit)))))))) (Ty.pair (Ty.int IntKind.i64) (Ty.pair Ty.bool Ty.unit)))) p1) (CV.pure Ty.unit PUnit.unit))), CV.whole (2 : Nat), CV.pure (Ty.slice (Ty.int IntKind.i64)) p2, CV.int IntKind.i64 p3, CV.int IntKind.i64 p4, ((Blk.mem (CV.pure (Ty.pair (Ty.slice (Ty.pair (Ty.int IntKind.i64) (Ty.pair (Ty.int IntKind.i64) (Ty.pair (Ty.int IntKind.i64) (Ty.pair (Ty.int IntKind.i64) (Ty.pair (Ty.int IntKind.i64) (Ty.pair (Ty.int IntKind.i64) (Ty.pair Ty.bool (Ty.pair (Ty.int IntKind.i64) Ty.unit))))))))) (Ty.pair (Ty.slice (Ty.pair (Ty.int IntKind.i64) (Ty.pair (Ty.int IntKind.i64) (Ty.pair (Ty.int IntKind.i64) (Ty.pair (Ty.int IntKind.i64) (Ty.pair (Ty.int IntKind.i64) (Ty.pair (Ty.slice (Ty.int IntKind.i64)) (Ty.pair (Ty.int IntKind.i64) Ty.unit)))))))) (Ty.pair (Ty.int IntKind.i64) (Ty.pair Ty.bool Ty.unit)))) p5)) :: (Blk.fresh) :: (Blk.vec (3 : Nat) (Ty.int IntKind.i64) p6) :: []) => gd (shapeOK T 24 [1, 5, 9, 10, 11] (2 : Nat)) (G p0 p1 p2 p3 p4 p5 p6 k)
  | _, _, _, _, _, _ => none
theorem o_17_41_0_0_inv {R : Type} {G : (Int) → (Zt17_0) → (List Int) → (Int) → (Int) → (Zt17_0) → (List Int) → (Ex → St → Option R) → Option R} {T : St} {k : Ex → St → Option R} {r : R} (h : o_17_41_0_0 G T k = some r) : ∃ p0 p1 p2 p3 p4 p5 p6, T = T_17_41_0_0 p0 p1 p2 p3 p4 p5 p6 ∧ G p0 p1 p2 p3 p4 p5 p6 k = some r := by
  unfold o_17_41_0_0 at h
  split at h
  · obtain ⟨hs, h'⟩ := gd_some h
    refine ⟨_, _, _, _, _, _, _, (st_of (asg := [(1, _), (5, _), (9, _), (10, _), (11, _)]) hs ⟨by assumption, by assumption, by assumption, by assumption, by assumption, trivial⟩ (by assumption)).trans ?_, h'⟩
    kernel_rfl
  · cases h
noncomputable def O_17_41_0 {R : Type} : St → (Ex → St → Option R) → Option R := fun T k => o_17_41_0_0 G_17_41_0_0 T k
noncomputable def g_17_41 {R : Type} : List CV → List Blk → (CV → List Blk → Option R) → Option R := evFnL sm_17 FU (ovr noO (evFn sm_17 fns FU 1)) (ir41_t O_17_41_0) ir41
theorem body_17_41_0_0 {R : Type} (K0 : St → Option R) (K1 : Ex → St → Option R) (p0 : Int) (p1 : Zt17_0) (p2 : List Int) (p3 : Int) (p4 : Int) (p5 : Zt17_0) (p6 : List Int) : evLB (evCodeL sm_17 FU (ovr noO (evFn sm_17 fns FU 1)) .nil ir41_b0) (St.norm ir41_v0) (T_17_41_0_0 p0 p1 p2 p3 p4 p5 p6) K0 K1 =
  bif decide (p4 < p3) then gd (inB p4 (List.length p2)) (bif List.getD p2 (Int.toNat p4) (0 : Int) != p0 then gd (inB (List.getD p2 (Int.toNat p4) (0 : Int)) (List.length (p1.2.1))) (bif Sp.andI IntKind.i64 ((List.getD (p1.2.1) (Int.toNat (List.getD p2 (Int.toNat p4) (0 : Int))) Zd2).1) (5 : Int) != (0 : Int) then gd (room (List.length p6 + (1 : Nat)) (8 : Nat)) (K0 (T_17_41_0_0 p0 p1 p2 p3 (IntKind.wrap IntKind.i64 (p4 + (1 : Int))) p5 (p6 ++ [List.getD p2 (Int.toNat p4) (0 : Int)]))) else K0 (T_17_41_0_0 p0 p1 p2 p3 (IntKind.wrap IntKind.i64 (p4 + (1 : Int))) p5 p6)) else K0 (T_17_41_0_0 p0 p1 p2 p3 (IntKind.wrap IntKind.i64 (p4 + (1 : Int))) p5 p6)) else K1 (Ex.exit (0 : Nat)) (X_17_41_0_0_0 p5 p6) := by kernel_rfl
theorem Bgd_17_41_0_0 {R : Type} {c : Bool} {x : Option R} {y : Option Sp.E_17_41_0_0} {k0 : (Zt17_0) → (List Int) → Option R} (h : x = Sp.B_17_41_0_0 y k0) : gd c x = Sp.B_17_41_0_0 (gd c y) k0 := by cases c; rfl; exact h
theorem Bcond_17_41_0_0 {R : Type} {c : Bool} {x x' : Option R} {y y' : Option Sp.E_17_41_0_0} {k0 : (Zt17_0) → (List Int) → Option R} (h : x = Sp.B_17_41_0_0 y k0) (h' : x' = Sp.B_17_41_0_0 y' k0) : (bif c then x else x') = Sp.B_17_41_0_0 (bif c then y else y') k0 := by cases c; exact h'; exact h
theorem loop_17_41_0_0 {R : Type} (k : Ex → St → Option R) : ∀ (m : Nat) (p0 : Int) (p1 : Zt17_0) (p2 : List Int) (p3 : Int) (p4 : Int) (p5 : Zt17_0) (p6 : List Int), evLoopN (evCodeL sm_17 FU (ovr noO (evFn sm_17 fns FU 1)) .nil ir41_b0) (St.norm ir41_v0) m (T_17_41_0_0 p0 p1 p2 p3 p4 p5 p6) k = Sp.B_17_41_0_0 (Sp.L_17_41_0_0 m p0 p1 p2 p3 p4 p5 p6) (fun p5 p6 => k (Ex.exit (0 : Nat)) (X_17_41_0_0_0 p5 p6))
  | 0, _, _, _, _, _, _, _ => rfl
  | m + 1, p0, p1, p2, p3, p4, p5, p6 => by
    rw [evLoopN_succ, body_17_41_0_0, Sp.L_17_41_0_0]
    repeat' first | apply Bgd_17_41_0_0 | apply Bcond_17_41_0_0 | exact loop_17_41_0_0 k m _ _ _ _ _ _ _ | rfl
theorem ok_17_41_0_0 {R : Type} (T : St) (k : Ex → St → Option R) (r : R) (h0 : o_17_41_0_0 G_17_41_0_0 T k = some r) : evLoopN (evCode sm_17 FU (evFn sm_17 fns FU 1) ir41_b0) (St.norm ir41_v0) FU T k = some r := by
  obtain ⟨p0, p1, p2, p3, p4, p5, p6, rfl, h⟩ := o_17_41_0_0_inv h0
  refine evLoopN_L (t := .nil) noO_ok trivial _ _ _ _ ?_
  rw [loop_17_41_0_0]
  exact h
theorem OK_17_41_0 {R : Type} (T : St) (k : Ex → St → Option R) (r : R) (h : O_17_41_0 T k = some r) : evLoopN (evCode sm_17 FU (evFn sm_17 fns FU 1) ir41_b0) (St.norm ir41_v0) FU T k = some r := ok_17_41_0_0 T k r h
theorem g_17_41_ok {R : Type} (args : List CV) (hp : List Blk) (k : CV → List Blk → Option R) (r : R) (h : g_17_41 args hp k = some r) : evFn sm_17 fns FU 2 41 args hp k = some r :=
  evFnL_sound (fn := ir41) (t := (ir41_t O_17_41_0)) (o := noO) rfl noO_ok (ir41_tok (fun T k r => OK_17_41_0 T k r)) h
theorem ov_17_17_ok {R : Type} : OvrOK (R := R) (fun f' => bif Nat.beq f' 41 then some (g_17_41) else none) (evFn sm_17 fns FU 2) := by
  intro f' g h args hp k r hg
  dsimp only at h
  by_cases h41 : f' = 41
  · subst h41
    injection h with h
    subst h
    exact evFn_le 0 (g_17_41_ok _ _ _ _ hg)
  rw [nbeq_ne h41, cond_false] at h
  cases h
noncomputable def F_17 (a0 : (List ((List Int) × (Int × (Int × ((List Int) × (Int × Unit))))))) (a1 : ((List (Int × (Int × (Int × (Int × (Int × (Int × (Bool × (Int × Unit))))))))) × ((List (Int × (Int × (Int × (Int × (Int × ((List Int) × (Int × Unit)))))))) × (Int × (Bool × Unit))))) (a2 : Int) : Option ((List Int) × Int × Unit) :=
  gd (Sp.p_40 a0 a1) (bif !(Sp.v_40 a0 a1).1 then some ([], (1 : Int), PUnit.unit) else bif decide (a2 < (0 : Int)) then some ([], (2 : Int), PUnit.unit) else bif decide (a2 ≥ (↑(List.length a0) : Int)) then some ([], (2 : Int), PUnit.unit) else gd (inB a2 (List.length a0)) (Sp.B_17_41_0_0 (Sp.L_17_41_0_0 (4611686018427387904 : Nat) (-1 : Int) a1 ((List.getD a0 (Int.toNat a2) (Ty.dflt (Ty.pair Ty.str (Ty.pair (Ty.int IntKind.i64) (Ty.pair (Ty.int IntKind.i64) (Ty.pair (Ty.slice (Ty.int IntKind.i64)) (Ty.pair (Ty.int IntKind.i64) Ty.unit))))))).2.2.2.1) (↑(List.length ((List.getD a0 (Int.toNat a2) (Ty.dflt (Ty.pair Ty.str (Ty.pair (Ty.int IntKind.i64) (Ty.pair (Ty.int IntKind.i64) (Ty.pair (Ty.slice (Ty.int IntKind.i64)) (Ty.pair (Ty.int IntKind.i64) Ty.unit))))))).2.2.2.1)) : Int) (0 : Int) a1 []) fun y6 y7 => some (y7, (0 : Int), PUnit.unit)))
theorem fn_17 (a0 : (List ((List Int) × (Int × (Int × ((List Int) × (Int × Unit))))))) (a1 : ((List (Int × (Int × (Int × (Int × (Int × (Int × (Bool × (Int × Unit))))))))) × ((List (Int × (Int × (Int × (Int × (Int × ((List Int) × (Int × Unit)))))))) × (Int × (Bool × Unit))))) (a2 : Int) : evFnL sm_17 FU (ovr (fun f' => bif Nat.beq f' 41 then some (g_17_41) else none) (evFn sm_17 fns FU 2)) .nil ir17 (ofH [(.slice (.pair .str Zy17_3)), Zy17_2, (.int .i64)] (a0, a1, a2, ())) [] (pureK [(.slice (.int .i64)), (.int .i64)]) = F_17 a0 a1 a2 := by kernel_rfl
noncomputable def Sp.p_17 (a0 : (List ((List Int) × (Int × (Int × ((List Int) × (Int × Unit))))))) (a1 : ((List (Int × (Int × (Int × (Int × (Int × (Int × (Bool × (Int × Unit))))))))) × ((List (Int × (Int × (Int × (Int × (Int × ((List Int) × (Int × Unit)))))))) × (Int × (Bool × Unit))))) (a2 : Int) : Bool := (F_17 a0 a1 a2).isSome
noncomputable def Sp.v_17 (a0 : (List ((List Int) × (Int × (Int × ((List Int) × (Int × Unit))))))) (a1 : ((List (Int × (Int × (Int × (Int × (Int × (Int × (Bool × (Int × Unit))))))))) × ((List (Int × (Int × (Int × (Int × (Int × ((List Int) × (Int × Unit)))))))) × (Int × (Bool × Unit))))) (a2 : Int) : (List Int) × Int × Unit := (F_17 a0 a1 a2).getD (dfH [(.slice (.int .i64)), (.int .i64)])
noncomputable def s_17 : Summ := shS [(.slice (.pair .str Zy17_3)), Zy17_2, (.int .i64)] [(.slice (.int .i64)), (.int .i64)] (fun x => Sp.p_17 x.1 x.2.1 x.2.2.1) (fun x => Sp.v_17 x.1 x.2.1 x.2.2.1)
theorem pv_17 (a0 : (List ((List Int) × (Int × (Int × ((List Int) × (Int × Unit))))))) (a1 : ((List (Int × (Int × (Int × (Int × (Int × (Int × (Bool × (Int × Unit))))))))) × ((List (Int × (Int × (Int × (Int × (Int × ((List Int) × (Int × Unit)))))))) × (Int × (Bool × Unit))))) (a2 : Int) {y : (List Int) × Int × Unit} (h : F_17 a0 a1 a2 = some y) : Sp.p_17 a0 a1 a2 = true ∧ Sp.v_17 a0 a1 a2 = y := ⟨by rw [Sp.p_17, h]; rfl, by rw [Sp.v_17, h]; rfl⟩
theorem run_17 (x : HDen [(.slice (.pair .str Zy17_3)), Zy17_2, (.int .i64)]) (y : HDen [(.slice (.int .i64)), (.int .i64)]) (h : F_17 x.1 x.2.1 x.2.2.1 = some y) : evFn sm_17 fns FU 3 17 (ofH [(.slice (.pair .str Zy17_3)), Zy17_2, (.int .i64)] x) [] (pureK [(.slice (.int .i64)), (.int .i64)]) = some y :=
  evFnL_sound (fn := ir17) (t := .nil) (o := (fun f' => bif Nat.beq f' 41 then some (g_17_41) else none)) rfl ov_17_17_ok trivial ((fn_17 _ _ _).trans h)
end
end Go.Ev
namespace Go.Ev
open Go
set_option maxRecDepth 100000
set_option maxHeartbeats 4000000
set_option linter.unusedVariables false
noncomputable section

noncomputable def sm_39 : Nat → Option Summ := fun f => none
noncomputable def T_39_0 (p0 : List Int) (p1 : Int) : St := St.mk ([CV.pure Ty.str p0, jk, jk, CV.int IntKind.i64 p1] ++ (jl 24)) [] (0 : Nat)
noncomputable def X_39_0_0 : St := St.mk ([jk, jk, CV.bool false] ++ (jl 25)) [] (0 : Nat)
noncomputable def X_39_0_1 : St := St.mk (jl 28) [] (0 : Nat)
inductive Sp.E_39_0 where
  | e0
  | e1
noncomputable def Sp.B_39_0 {R : Type} (r : Option Sp.E_39_0) (k0 : Option R) (k1 : Option R) : Option R := match r with
  | none => none
  | some (.e0) => k0
  | some (.e1) => k1
noncomputable def Sp.L_39_0 : Nat → (List Int) → (Int) → Option Sp.E_39_0
  | 0, _, _ => none
  | m + 1, p0, p1 => bif decide (p1 < (↑(List.length p0) : Int)) then gd (inB p1 (List.length p0)) (bif decide (List.getD p0 (Int.toNat p1) (0 : Int) < (33 : Int)) then some (Sp.E_39_0.e0) else gd (inB p1 (List.length p0)) (bif decide (List.getD p0 (Int.toNat p1) (0 : Int) > (126 : Int)) then some (Sp.E_39_0.e0) else Sp.L_39_0 m p0 (IntKind.wrap IntKind.i64 (p1 + (1 : Int))))) else some (Sp.E_39_0.e1)
noncomputable def G_39_0 {R : Type} (p0 : List Int) (p1 : Int) (k : Ex → St → Option R) : Option R := Sp.B_39_0 (Sp.L_39_0 FU p0 p1) (k Ex.ret (X_39_0_0)) (k (Ex.exit (0 : Nat)) (X_39_0_1))
noncomputable def o_39_0 {R : Type} (G : (List Int) → (Int) → (Ex → St → Option R) → Option R) : St → (Ex → St → Option R) → Option R := fun T k => match T.sl.getD 0 .junk, T.sl.getD 3 .junk, T.hp with
  | CV.pure Ty.str p0, CV.int IntKind.i64 p1, [] => gd (shapeOK T 28 [0, 3] (0 : Nat)) (G p0 p1 k)
  | _, _, _ => none
theorem o_39_0_inv {R : Type} {G : (List Int) → (Int) → (Ex → St → Option R) → Option R} {T : St} {k : Ex → St → Option R} {r : R} (h : o_39_0 G T k = some r) : ∃ p0 p1, T = T_39_0 p0 p1 ∧ G p0 p1 k = some r := by
  unfold o_39_0 at h
  split at h
  · obtain ⟨hs, h'⟩ := gd_some h
    refine ⟨_, _, (st_of (asg := [(0, _), (3, _)]) hs ⟨by assumption, by assumption, trivial⟩ (by assumption)).trans ?_, h'⟩
    kernel_rfl
  · cases h
noncomputable def O_39_39_0 {R : Type} : St → (Ex → St → Option R) → Option R := fun T k => o_39_0 G_39_0 T k
theorem body_39_0 {R : Type} (K0 : St → Option R) (K1 : Ex → St → Option R) (p0 : List Int) (p1 : Int) : evLB (evCodeL sm_39 FU (ovr noO (evFn sm_39 fns FU 0)) .nil ir39_b0) (St.norm ir39_v0) (T_39_0 p0 p1) K0 K1 =
  bif decide (p1 < (↑(List.length p0) : Int)) then gd (inB p1 (List.length p0)) (bif decide (List.getD p0 (Int.toNat p1) (0 : Int) < (33 : Int)) then K1 Ex.ret X_39_0_0 else gd (inB p1 (List.length p0)) (bif decide (List.getD p0 (Int.toNat p1) (0 : Int) > (126 : Int)) then K1 Ex.ret X_39_0_0 else K0 (T_39_0 p0 (IntKind.wrap IntKind.i64 (p1 + (1 : Int)))))) else K1 (Ex.exit (0 : Nat)) X_39_0_1 := by kernel_rfl
theorem Bgd_39_0 {R : Type} {c : Bool} {x : Option R} {y : Option Sp.E_39_0} {k0 : Option R} {k1 : Option R} (h : x = Sp.B_39_0 y k0 k1) : gd c x = Sp.B_39_0 (gd c y) k0 k1 := by cases c; rfl; exact h
theorem Bcond_39_0 {R : Type} {c : Bool} {x x' : Option R} {y y' : Option Sp.E_39_0} {k0 : Option R} {k1 : Option R} (h : x = Sp.B_39_0 y k0 k1) (h' : x' = Sp.B_39_0 y' k0 k1) : (bif c then x else x') = Sp.B_39_0 (bif c then y else y') k0 k1 := by cases c; exact h'; exact h
theorem loop_39_0 {R : Type} (k : Ex → St → Option R) : ∀ (m : Nat) (p0 : List Int) (p1 : Int), evLoopN (evCodeL sm_39 FU (ovr noO (evFn sm_39 fns FU 0)) .nil ir39_b0) (St.norm ir39_v0) m (T_39_0 p0 p1) k = Sp.B_39_0 (Sp.L_39_0 m p0 p1) (k Ex.ret (X_39_0_0)) (k (Ex.exit (0 : Nat)) (X_39_0_1))
  | 0, _, _ => rfl
  | m + 1, p0, p1 => by
    rw [evLoopN_succ, body_39_0, Sp.L_39_0]
    repeat' first | apply Bgd_39_0 | apply Bcond_39_0 | exact loop_39_0 k m _ _ | rfl
theorem ok_39_0 {R : Type} (T : St) (k : Ex → St → Option R) (r : R) (h0 : o_39_0 G_39_0 T k = some r) : evLoopN (evCode sm_39 FU (evFn sm_39 fns FU 0) ir39_b0) (St.norm ir39_v0) FU T k = some r := by
  obtain ⟨p0, p1, rfl, h⟩ := o_39_0_inv h0
  refine evLoopN_L (t := .nil) noO_ok trivial _ _ _ _ ?_
  rw [loop_39_0]
  exact h
theorem OK_39_39_0 {R : Type} (T : St) (k : Ex → St → Option R) (r : R) (h : O_39_39_0 T k = some r) : evLoopN (evCode sm_39 FU (evFn sm_39 fns FU 0) ir39_b0) (St.norm ir39_v0) FU T k = some r := ok_39_0 T k r h
noncomputable def F_39 (a0 : (List Int)) : Option (Bool × Unit) :=
  bif decide ((↑(List.length a0) : Int) < (1 : Int)) then some (false, PUnit.unit) else bif decide ((↑(List.length a0) : Int) > (24 : Int)) then some (false, PUnit.unit) else Sp.B_39_0 (Sp.L_39_0 (4611686018427387904 : Nat) a0 (0 : Int)) (some (false, PUnit.unit)) (some (true, PUnit.unit))
theorem fn_39 (a0 : (List Int)) : evFnL sm_39 FU (ovr noO (evFn sm_39 fns FU 0)) (ir39_t O_39_39_0) ir39 (ofH [.str] (a0, ())) [] (pureK [.bool]) = F_39 a0 := by kernel_rfl
noncomputable def Sp.p_39 (a0 : (List Int)) : Bool := (F_39 a0).isSome
noncomputable def Sp.v_39 (a0 : (List Int)) : Bool × Unit := (F_39 a0).getD (dfH [.bool])
noncomputable def s_39 : Summ := shN [.str] [.bool] (fun x => Sp.p_39 x.1) (fun x => Sp.v_39 x.1)
theorem pv_39 (a0 : (List Int)) {y : Bool × Unit} (h : F_39 a0 = some y) : Sp.p_39 a0 = true ∧ Sp.v_39 a0 = y := ⟨by rw [Sp.p_39, h]; rfl, by rw [Sp.v_39, h]; rfl⟩
theorem run_39 (x : HDen [.str]) (y : HDen [.bool]) (h : F_39 x.1 = some y) : evFn sm_39 fns FU 1 39 (ofH [.str] x) [] (pureK [.bool]) = some y :=
  evFnL_sound (fn := ir39) (t := (ir39_t O_39_39_0)) (o := noO) rfl noO_ok (ir39_tok (fun T k r => OK_39_39_0 T k r)) ((fn_39 _).trans h)
end
end Go.Ev
namespace Go.Ev
open Go
set_option maxRecDepth 100000
set_option maxHeartbeats 4000000
set_option linter.unusedVariables false
noncomputable section
abbrev Zy11_0 : Ty := (Ty.pair (Ty.int IntKind.i64) (Ty.pair (Ty.int IntKind.i64) (Ty.pair (Ty.slice (Ty.int IntKind.i64)) (Ty.pair (Ty.int IntKind.i64) Ty.unit))))
abbrev Zt11_1 : Type := List (List Int × Int × Int × List Int × Int × Unit)
abbrev Zt11_2 : Type := List Int × Int × Int × List Int × Int × Unit
abbrev Zy11_3 : Ty := (.pair (.int .i64) (.pair (.int .i64) (.pair (.slice (.int .i64)) (.pair (.int .i64) .unit))))

noncomputable def sm_11 : Nat → Option Summ := fun f => bif Nat.beq f 39 then some s_39 else none
noncomputable def T_11_1 (p0 : Zt11_1) (p1 : Int) (p2 : Int) (p3 : Int) (p4 : Zt11_2) : St := St.mk ([CV.pure (Ty.slice (Ty.pair Ty.str Zy11_0)) p0, CV.int IntKind.i64 p1, jk, jk, jk, CV.int IntKind.i64 p2, CV.ptr (0 : Nat) [], CV.int IntKind.i64 p3] ++ (jl 121)) [Blk.mem (CV.pure (Ty.pair Ty.str Zy11_0) p4)] (0 : Nat)
noncomputable def X_11_1_0 : St := St.mk ([jk, jk, jk, jk, CV.bool false] ++ (jl 124)) [] (0 : Nat)
noncomputable def X_11_1_1 (p0 : Zt11_1) (p1 : Int) (p2 : Int) (p4 : Zt11_2) : St := St.mk ([CV.pure (Ty.slice (Ty.pair Ty.str Zy11_0)) p0, CV.int IntKind.i64 p1, jk, jk, jk, CV.int IntKind.i64 p2, CV.ptr (0 : Nat) []] ++ (jl 122)) [Blk.mem (CV.pure (Ty.pair Ty.str Zy11_0) p4)] (0 : Nat)
inductive Sp.E_11_1 where
  | e0
  | e1 (p0 : Zt11_1) (p1 : Int) (p2 : Int) (p4 : Zt11_2)
noncomputable def Sp.B_11_1 {R : Type} (r : Option Sp.E_11_1) (k0 : Option R) (k1 : (Zt11_1) → (Int) → (Int) → (Zt11_2) → Option R) : Option R := match r with
  | none => none
  | some (.e0) => k0
  | some (.e1 p0 p1 p2 p4) => k1 p0 p1 p2 p4
noncomputable def Sp.L_11_1 : Nat → (List (List Int × Int × Int × List Int × Int × Unit)) → (Int) → (Int) → (Int) → (List Int × Int × Int × List Int × Int × Unit) → Option Sp.E_11_1
  | 0, _, _, _, _, _ => none
  | m + 1, p0, p1, p2, p3, p4 => bif decide (p3 < p2) then gd (inB p3 (List.length p0)) (bif (List.getD p0 (Int.toNat p3) (Ty.dflt (Ty.pair Ty.str (Ty.pair (Ty.int IntKind.i64) (Ty.pair (Ty.int IntKind.i64) (Ty.pair (Ty.slice (Ty.int IntKind.i64)) (Ty.pair (Ty.int IntKind.i64) Ty.unit))))))).1 == p4.1 then some (Sp.E_11_1.e0) else Sp.L_11_1 m p0 p1 p2 (IntKind.wrap IntKind.i64 (p3 + (1 : Int))) p4) else some (Sp.E_11_1.e1 p0 p1 p2 p4)
noncomputable def G_11_1 {R : Type} (p0 : Zt11_1) (p1 : Int) (p2 : Int) (p3 : Int) (p4 : Zt11_2) (k : Ex → St → Option R) : Option R := Sp.B_11_1 (Sp.L_11_1 FU p0 p1 p2 p3 p4) (k Ex.ret (X_11_1_0)) (fun p0 p1 p2 p4 => k (Ex.exit (2 : Nat)) (X_11_1_1 p0 p1 p2 p4))
noncomputable def o_11_1 {R : Type} (G : (Zt11_1) → (Int) → (Int) → (Int) → (Zt11_2) → (Ex → St → Option R) → Option R) : St → (Ex → St → Option R) → Option R := fun T k => match T.sl.getD 0 .junk, T.sl.getD 1 .junk, T.sl.getD 5 .junk, T.sl.getD 6 .junk, T.sl.getD 7 .junk, T.hp with
  | CV.pure (Ty.slice (Ty.pair Ty.str (Ty.pair (Ty.int IntKind.i64) (Ty.pair (Ty.int IntKind.i64) (Ty.pair (Ty.slice (Ty.int IntKind.i64)) (Ty.pair (Ty.int IntKind.i64) Ty.unit)))))) p0, CV.int IntKind.i64 p1, CV.int IntKind.i64 p2, CV.ptr (0 : Nat) [], CV.int IntKind.i64 p3, ((Blk.mem (CV.pure (Ty.pair Ty.str (Ty.pair (Ty.int IntKind.i64) (Ty.pair (Ty.int IntKind.i64) (Ty.pair (Ty.slice (Ty.int IntKind.i64)) (Ty.pair (Ty.int IntKind.i64) Ty.unit))))) p4)) :: []) => gd (shapeOK T 129 [0, 1, 5, 6, 7] (0 : Nat)) (G p0 p1 p2 p3 p4 k)
  | _, _, _, _, _, _ => none
theorem o_11_1_inv {R : Type} {G : (Zt11_1) → (Int) → (Int) → (Int) → (Zt11_2) → (Ex → St → Option R) → Option R} {T : St} {k : Ex → St → Option R} {r : R} (h : o_11_1 G T k = some r) : ∃ p0 p1 p2 p3 p4, T = T_11_1 p0 p1 p2 p3 p4 ∧ G p0 p1 p2 p3 p4 k = some r := by
  unfold o_11_1 at h
  split at h
  · obtain ⟨hs, h'⟩ := gd_some h
    refine ⟨_, _, _, _, _, (st_of (asg := [(0, _), (1, _), (5, _), (6, _), (7, _)]) hs ⟨by assumption, by assumption, by assumption, by assumption, by assumption, trivial⟩ (by assumption)).trans ?_, h'⟩
    kernel_rfl
  · cases h
noncomputable def T_11_2 (p0 : Zt11_1) (p1 : Int) (p2 : Int) (p3 : Int) (p4 : Zt11_2) : St := St.mk ([CV.pure (Ty.slice (Ty.pair Ty.str Zy11_0)) p0, CV.int IntKind.i64 p1, jk, jk, jk, CV.int IntKind.i64 p2, CV.ptr (0 : Nat) [], jk, CV.int IntKind.i64 p3] ++ (jl 120)) [Blk.mem (CV.pure (Ty.pair Ty.str Zy11_0) p4)] (0 : Nat)
noncomputable def X_11_2_0 : St := St.mk ([jk, jk, jk, jk, CV.bool false] ++ (jl 124)) [] (0 : Nat)
noncomputable def X_11_2_1 (p0 : Zt11_1) (p1 : Int) (p2 : Int) : St := St.mk ([CV.pure (Ty.slice (Ty.pair Ty.str Zy11_0)) p0, CV.int IntKind.i64 p1, jk, jk, jk, CV.int IntKind.i64 p2] ++ (jl 123)) [] (0 : Nat)
inductive Sp.E_11_2 where
  | e0
  | e1 (p0 : Zt11_1) (p1 : Int) (p2 : Int)
noncomputable def Sp.B_11_2 {R : Type} (r : Option Sp.E_11_2) (k0 : Option R) (k1 : (Zt11_1) → (Int) → (Int) → Option R) : Option R := match r with
  | none => none
  | some (.e0) => k0
  | some (.e1 p0 p1 p2) => k1 p0 p1 p2
noncomputable def Sp.L_11_2 : Nat → (List (List Int × Int × Int × List Int × Int × Unit)) → (Int) → (Int) → (Int) → (List Int × Int × Int × List Int × Int × Unit) → Option Sp.E_11_2
  | 0, _, _, _, _, _ => none
  | m + 1, p0, p1, p2, p3, p4 => bif decide (p3 < (↑(List.length (p4.2.2.2.1)) : Int)) then gd (inB p3 (List.length (p4.2.2.2.1))) (bif decide (List.getD (p4.2.2.2.1) (Int.toNat p3) (0 : Int) < (0 : Int)) then some (Sp.E_11_2.e0) else gd (inB p3 (List.length (p4.2.2.2.1))) (bif decide (List.getD (p4.2.2.2.1) (Int.toNat p3) (0 : Int) ≥ p1) then some (Sp.E_11_2.e0) else bif decide (p3 > (0 : Int)) then gd (inB p3 (List.length (p4.2.2.2.1))) (gd (inB (IntKind.wrap IntKind.i64 (p3 - (1 : Int))) (List.length (p4.2.2.2.1))) (bif decide (List.getD (p4.2.2.2.1) (Int.toNat p3) (0 : Int) ≤ List.getD (p4.2.2.2.1) (Int.toNat (IntKind.wrap IntKind.i64 (p3 - (1 : Int)))) (0 : Int)) then some (Sp.E_11_2.e0) else Sp.L_11_2 m p0 p1 p2 (IntKind.wrap IntKind.i64 (p3 + (1 : Int))) p4)) else Sp.L_11_2 m p0 p1 p2 (IntKind.wrap IntKind.i64 (p3 + (1 : Int))) p4)) else some (Sp.E_11_2.e1 p0 p1 p2)
noncomputable def G_11_2 {R : Type} (p0 : Zt11_1) (p1 : Int) (p2 : Int) (p3 : Int) (p4 : Zt11_2) (k : Ex → St → Option R) : Option R := Sp.B_11_2 (Sp.L_11_2 FU p0 p1 p2 p3 p4) (k Ex.ret (X_11_2_0)) (fun p0 p1 p2 => k (Ex.exit (4 : Nat)) (X_11_2_1 p0 p1 p2))
noncomputable def o_11_2 {R : Type} (G : (Zt11_1) → (Int) → (Int) → (Int) → (Zt11_2) → (Ex → St → Option R) → Option R) : St → (Ex → St → Option R) → Option R := fun T k => match T.sl.getD 0 .junk, T.sl.getD 1 .junk, T.sl.getD 5 .junk, T.sl.getD 6 .junk, T.sl.getD 8 .junk, T.hp with
  | CV.pure (Ty.slice (Ty.pair Ty.str (Ty.pair (Ty.int IntKind.i64) (Ty.pair (Ty.int IntKind.i64) (Ty.pair (Ty.slice (Ty.int IntKind.i64)) (Ty.pair (Ty.int IntKind.i64) Ty.unit)))))) p0, CV.int IntKind.i64 p1, CV.int IntKind.i64 p2, CV.ptr (0 : Nat) [], CV.int IntKind.i64 p3, ((Blk.mem (CV.pure (Ty.pair Ty.str (Ty.pair (Ty.int IntKind.i64) (Ty.pair (Ty.int IntKind.i64) (Ty.pair (Ty.slice (Ty.int IntKind.i64)) (Ty.pair (Ty.int IntKind.i64) Ty.unit))))) p4)) :: []) => gd (shapeOK T 129 [0, 1, 5, 6, 8] (0 : Nat)) (G p0 p1 p2 p3 p4 k)
  | _, _, _, _, _, _ => none
theorem o_11_2_inv {R : Type} {G : (Zt11_1) → (Int) → (Int) → (Int) → (Zt11_2) → (Ex → St → Option R) → Option R} {T : St} {k : Ex → St → Option R} {r : R} (h : o_11_2 G T k = some r) : ∃ p0 p1 p2 p3 p4, T = T_11_2 p0 p1 p2 p3 p4 ∧ G p0 p1 p2 p3 p4 k = some r := by
  unfold o_11_2 at h
  split at h
  · obtain ⟨hs, h'⟩ := gd_some h
    refine ⟨_, _, _, _, _, (st_of (asg := [(0, _), (1, _), (5, _), (6, _), (8, _)]) hs ⟨by assumption, by assumption, by assumption, by assumption, by assumption, trivial⟩ (by assumption)).trans ?_, h'⟩
    kernel_rfl
  · cases h
noncomputable def T_11_0 (p0 : Zt11_1) (p1 : Int) (p2 : Int) : St := St.mk ([CV.pure (Ty.slice (Ty.pair Ty.str Zy11_0)) p0, CV.int IntKind.i64 p1, jk, jk, jk, CV.int IntKind.i64 p2] ++ (jl 123)) [] (0 : Nat)
noncomputable def X_11_0_0 : St := St.mk ([jk, jk, jk, jk, CV.bool false] ++ (jl 124)) [] (0 : Nat)
noncomputable def X_11_0_1 : St := St.mk (jl 129) [] (0 : Nat)
inductive Sp.E_11_0 where
  | e0
  | e1
noncomputable def Sp.B_11_0 {R : Type} (r : Option Sp.E_11_0) (k0 : Option R) (k1 : Option R) : Option R := match r with
  | none => none
  | some (.e0) => k0
  | some (.e1) => k1
noncomputable def Sp.L_11_0 : Nat → (List (List Int × Int × Int × List Int × Int × Unit)) → (Int) → (Int) → Option Sp.E_11_0
  | 0, _, _, _ => none
  | m + 1, p0, p1, p2 => bif decide (p2 < (↑(List.length p0) : Int)) then gd (inB p2 (List.length p0)) (gd (Sp.p_39 ((List.getD p0 (Int.toNat p2) (Ty.dflt (Ty.pair Ty.str (Ty.pair (Ty.int IntKind.i64) (Ty.pair (Ty.int IntKind.i64) (Ty.pair (Ty.slice (Ty.int IntKind.i64)) (Ty.pair (Ty.int IntKind.i64) Ty.unit))))))).1)) (bif !(Sp.v_39 ((List.getD p0 (Int.toNat p2) (Ty.dflt (Ty.pair Ty.str (Ty.pair (Ty.int IntKind.i64) (Ty.pair (Ty.int IntKind.i64) (Ty.pair (Ty.slice (Ty.int IntKind.i64)) (Ty.pair (Ty.int IntKind.i64) Ty.unit))))))).1)).1 then some (Sp.E_11_0.e0) else bif decide ((List.getD p0 (Int.toNat p2) (Ty.dflt (Ty.pair Ty.str (Ty.pair (Ty.int IntKind.i64) (Ty.pair (Ty.int IntKind.i64) (Ty.pair (Ty.slice (Ty.int IntKind.i64)) (Ty.pair (Ty.int IntKind.i64) Ty.unit))))))).2.1 < (0 : Int)) then some (Sp.E_11_0.e0) else bif decide ((List.getD p0 (Int.toNat p2) (Ty.dflt (Ty.pair Ty.str (Ty.pair (Ty.int IntKind.i64) (Ty.pair (Ty.int IntKind.i64) (Ty.pair (Ty.slice (Ty.int IntKind.i64)) (Ty.pair (Ty.int IntKind.i64) Ty.unit))))))).2.1 > (15 : Int)) then some (Sp.E_11_0.e0) else bif decide ((List.getD p0 (Int.toNat p2) (Ty.dflt (Ty.pair Ty.str (Ty.pair (Ty.int IntKind.i64) (Ty.pair (Ty.int IntKind.i64) (Ty.pair (Ty.slice (Ty.int IntKind.i64)) (Ty.pair (Ty.int IntKind.i64) Ty.unit))))))).2.2.1 < (0 : Int)) then some (Sp.E_11_0.e0) else bif decide ((List.getD p0 (Int.toNat p2) (Ty.dflt (Ty.pair Ty.str (Ty.pair (Ty.int IntKind.i64) (Ty.pair (Ty.int IntKind.i64) (Ty.pair (Ty.slice (Ty.int IntKind.i64)) (Ty.pair (Ty.int IntKind.i64) Ty.unit))))))).2.2.1 > (15 : Int)) then some (Sp.E_11_0.e0) else bif decide ((↑(List.length ((List.getD p0 (Int.toNat p2) (Ty.dflt (Ty.pair Ty.str (Ty.pair (Ty.int IntKind.i64) (Ty.pair (Ty.int IntKind.i64) (Ty.pair (Ty.slice (Ty.int IntKind.i64)) (Ty.pair (Ty.int IntKind.i64) Ty.unit))))))).2.2.2.1)) : Int) < (1 : Int)) then some (Sp.E_11_0.e0) else bif decide ((↑(List.length ((List.getD p0 (Int.toNat p2) (Ty.dflt (Ty.pair Ty.str (Ty.pair (Ty.int IntKind.i64) (Ty.pair (Ty.int IntKind.i64) (Ty.pair (Ty.slice (Ty.int IntKind.i64)) (Ty.pair (Ty.int IntKind.i64) Ty.unit))))))).2.2.2.1)) : Int) > (16 : Int)) then some (Sp.E_11_0.e0) else bif decide ((List.getD p0 (Int.toNat p2) (Ty.dflt (Ty.pair Ty.str (Ty.pair (Ty.int IntKind.i64) (Ty.pair (Ty.int IntKind.i64) (Ty.pair (Ty.slice (Ty.int IntKind.i64)) (Ty.pair (Ty.int IntKind.i64) Ty.unit))))))).2.2.2.2.1 < (-5000 : Int)) then some (Sp.E_11_0.e0) else bif decide ((List.getD p0 (Int.toNat p2) (Ty.dflt (Ty.pair Ty.str (Ty.pair (Ty.int IntKind.i64) (Ty.pair (Ty.int IntKind.i64) (Ty.pair (Ty.slice (Ty.int IntKind.i64)) (Ty.pair (Ty.int IntKind.i64) Ty.unit))))))).2.2.2.2.1 > (10000 : Int)) then some (Sp.E_11_0.e0) else Sp.B_11_1 (Sp.L_11_1 (4611686018427387904 : Nat) p0 p1 p2 (0 : Int) (List.getD p0 (Int.toNat p2) (Ty.dflt (Ty.pair Ty.str (Ty.pair (Ty.int IntKind.i64) (Ty.pair (Ty.int IntKind.i64) (Ty.pair (Ty.slice (Ty.int IntKind.i64)) (Ty.pair (Ty.int IntKind.i64) Ty.unit)))))))) (some (Sp.E_11_0.e0)) fun y39 y40 y41 y42 => Sp.B_11_2 (Sp.L_11_2 (4611686018427387904 : Nat) y39 y40 y41 (0 : Int) y42) (some (Sp.E_11_0.e0)) fun y43 y44 y45 => Sp.L_11_0 m y43 y44 (IntKind.wrap IntKind.i64 (y45 + (1 : Int))))) else some (Sp.E_11_0.e1)
noncomputable def G_11_0 {R : Type} (p0 : Zt11_1) (p1 : Int) (p2 : Int) (k : Ex → St → Option R) : Option R := Sp.B_11_0 (Sp.L_11_0 FU p0 p1 p2) (k Ex.ret (X_11_0_0)) (k (Ex.exit (0 : Nat)) (X_11_0_1))
noncomputable def o_11_0 {R : Type} (G : (Zt11_1) → (Int) → (Int) → (Ex → St → Option R) → Option R) : St → (Ex → St → Option R) → Option R := fun T k => match T.sl.getD 0 .junk, T.sl.getD 1 .junk, T.sl.getD 5 .junk, T.hp with
  | CV.pure (Ty.slice (Ty.pair Ty.str (Ty.pair (Ty.int IntKind.i64) (Ty.pair (Ty.int IntKind.i64) (Ty.pair (Ty.slice (Ty.int IntKind.i64)) (Ty.pair (Ty.int IntKind.i64) Ty.unit)))))) p0, CV.int IntKind.i64 p1, CV.int IntKind.i64 p2, [] => gd (shapeOK T 129 [0, 1, 5] (0 : Nat)) (G p0 p1 p2 k)
  | _, _, _, _ => none
theorem o_11_0_inv {R : Type} {G : (Zt11_1) → (Int) → (Int) → (Ex → St → Option R) → Option R} {T : St} {k : Ex → St → Option R} {r : R} (h : o_11_0 G T k = some r) : ∃ p0 p1 p2, T = T_11_0 p0 p1 p2 ∧ G p0 p1 p2 k = some r := by
  unfold o_11_0 at h
  split at h
  · obtain ⟨hs, h'⟩ := gd_some h
    refine ⟨_, _, _, (st_of (asg := [(0, _), (1, _), (5, _)]) hs ⟨by assumption, by assumption, by assumption, trivial⟩ (by assumption)).trans ?_, h'⟩
    kernel_rfl
  · cases h
noncomputable def O_11_11_1 {R : Type} : St → (Ex → St → Option R) → Option R := fun T k => o_11_1 G_11_1 T k
noncomputable def O_11_11_2 {R : Type} : St → (Ex → St → Option R) → Option R := fun T k => o_11_2 G_11_2 T k
noncomputable def O_11_11_0 {R : Type} : St → (Ex → St → Option R) → Option R := fun T k => o_11_0 G_11_0 T k
theorem body_11_1 {R : Type} (K0 : St → Option R) (K1 : Ex → St → Option R) (p0 : Zt11_1) (p1 : Int) (p2 : Int) (p3 : Int) (p4 : Zt11_2) : evLB (evCodeL sm_11 FU (ovr noO (evFn sm_11 fns FU 0)) .nil ir11_b1) (St.norm ir11_v1) (T_11_1 p0 p1 p2 p3 p4) K0 K1 =
  bif decide (p3 < p2) then gd (inB p3 (List.length p0)) (bif (List.getD p0 (Int.toNat p3) (Ty.dflt (Ty.pair Ty.str Zy11_0))).1 == p4.1 then K1 Ex.ret X_11_1_0 else K0 (T_11_1 p0 p1 p2 (IntKind.wrap IntKind.i64 (p3 + (1 : Int))) p4)) else K1 (Ex.exit (2 : Nat)) (X_11_1_1 p0 p1 p2 p4) := by kernel_rfl
theorem Bgd_11_1 {R : Type} {c : Bool} {x : Option R} {y : Option Sp.E_11_1} {k0 : Option R} {k1 : (Zt11_1) → (Int) → (Int) → (Zt11_2) → Option R} (h : x = Sp.B_11_1 y k0 k1) : gd c x = Sp.B_11_1 (gd c y) k0 k1 := by cases c; rfl; exact h
theorem Bcond_11_1 {R : Type} {c : Bool} {x x' : Option R} {y y' : Option Sp.E_11_1} {k0 : Option R} {k1 : (Zt11_1) → (Int) → (Int) → (Zt11_2) → Option R} (h : x = Sp.B_11_1 y k0 k1) (h' : x' = Sp.B_11_1 y' k0 k1) : (bif c then x else x') = Sp.B_11_1 (bif c then y else y') k0 k1 := by cases c; exact h'; exact h
theorem loop_11_1 {R : Type} (k : Ex → St → Option R) : ∀ (m : Nat) (p0 : Zt11_1) (p1 : Int) (p2 : Int) (p3 : Int) (p4 : Zt11_2), evLoopN (evCodeL sm_11 FU (ovr noO (evFn sm_11 fns FU 0)) .nil ir11_b1) (St.norm ir11_v1) m (T_11_1 p0 p1 p2 p3 p4) k = Sp.B_11_1 (Sp.L_11_1 m p0 p1 p2 p3 p4) (k Ex.ret (X_11_1_0)) (fun p0 p1 p2 p4 => k (Ex.exit (2 : Nat)) (X_11_1_1 p0 p1 p2 p4))
  | 0, _, _, _, _, _ => rfl
  | m + 1, p0, p1, p2, p3, p4 => by
    rw [evLoopN_succ, body_11_1, Sp.L_11_1]
    repeat' first | apply Bgd_11_1 | apply Bcond_11_1 | exact loop_11_1 k m _ _ _ _ _ | rfl
theorem ok_11_1 {R : Type} (T : St) (k : Ex → St → Option R) (r : R) (h0 : o_11_1 G_11_1 T k = some r) : evLoopN (evCode sm_11 FU (evFn sm_11 fns FU 0) ir11_b1) (St.norm ir11_v1) FU T k = some r := by
  obtain ⟨p0, p1, p2, p3, p4, rfl, h⟩ := o_11_1_inv h0
  refine evLoopN_L (t := .nil) noO_ok trivial _ _ _ _ ?_
  rw [loop_11_1]
  exact h
theorem OK_11_11_1 {R : Type} (T : St) (k : Ex → St → Option R) (r : R) (h : O_11_11_1 T k = some r) : evLoopN (evCode sm_11 FU (evFn sm_11 fns FU 0) ir11_b1) (St.norm ir11_v1) FU T k = some r := ok_11_1 T k r h
theorem body_11_2 {R : Type} (K0 : St → Option R) (K1 : Ex → St → Option R) (p0 : Zt11_1) (p1 : Int) (p2 : Int) (p3 : Int) (p4 : Zt11_2) : evLB (evCodeL sm_11 FU (ovr noO (evFn sm_11 fns FU 0)) .nil ir11_b2) (St.norm ir11_v2) (T_11_2 p0 p1 p2 p3 p4) K0 K1 =
  bif decide (p3 < (↑(List.length (p4.2.2.2.1)) : Int)) then gd (inB p3 (List.length (p4.2.2.2.1))) (bif decide (List.getD (p4.2.2.2.1) (Int.toNat p3) (0 : Int) < (0 : Int)) then K1 Ex.ret X_11_2_0 else gd (inB p3 (List.length (p4.2.2.2.1))) (bif decide (List.getD (p4.2.2.2.1) (Int.toNat p3) (0 : Int) ≥ p1) then K1 Ex.ret X_11_2_0 else bif decide (p3 > (0 : Int)) then gd (inB p3 (List.length (p4.2.2.2.1))) (gd (inB (IntKind.wrap IntKind.i64 (p3 - (1 : Int))) (List.length (p4.2.2.2.1))) (bif decide (List.getD (p4.2.2.2.1) (Int.toNat p3) (0 : Int) ≤ List.getD (p4.2.2.2.1) (Int.toNat (IntKind.wrap IntKind.i64 (p3 - (1 : Int)))) (0 : Int)) then K1 Ex.ret X_11_2_0 else K0 (T_11_2 p0 p1 p2 (IntKind.wrap IntKind.i64 (p3 + (1 : Int))) p4))) else K0 (T_11_2 p0 p1 p2 (IntKind.wrap IntKind.i64 (p3 + (1 : Int))) p4))) else K1 (Ex.exit (4 : Nat)) (X_11_2_1 p0 p1 p2) := by kernel_rfl
theorem Bgd_11_2 {R : Type} {c : Bool} {x : Option R} {y : Option Sp.E_11_2} {k0 : Option R} {k1 : (Zt11_1) → (Int) → (Int) → Option R} (h : x = Sp.B_11_2 y k0 k1) : gd c x = Sp.B_11_2 (gd c y) k0 k1 := by cases c; rfl; exact h
theorem Bcond_11_2 {R : Type} {c : Bool} {x x' : Option R} {y y' : Option Sp.E_11_2} {k0 : Option R} {k1 : (Zt11_1) → (Int) → (Int) → Option R} (h : x = Sp.B_11_2 y k0 k1) (h' : x' = Sp.B_11_2 y' k0 k1) : (bif c then x else x') = Sp.B_11_2 (bif c then y else y') k0 k1 := by cases c; exact h'; exact h
theorem loop_11_2 {R : Type} (k : Ex → St → Option R) : ∀ (m : Nat) (p0 : Zt11_1) (p1 : Int) (p2 : Int) (p3 : Int) (p4 : Zt11_2), evLoopN (evCodeL sm_11 FU (ovr noO (evFn sm_11 fns FU 0)) .nil ir11_b2) (St.norm ir11_v2) m (T_11_2 p0 p1 p2 p3 p4) k = Sp.B_11_2 (Sp.L_11_2 m p0 p1 p2 p3 p4) (k Ex.ret (X_11_2_0)) (fun p0 p1 p2 => k (Ex.exit (4 : Nat)) (X_11_2_1 p0 p1 p2))
  | 0, _, _, _, _, _ => rfl
  | m + 1, p0, p1, p2, p3, p4 => by
    rw [evLoopN_succ, body_11_2, Sp.L_11_2]
    repeat' first | apply Bgd_11_2 | apply Bcond_11_2 | exact loop_11_2 k m _ _ _ _ _ | rfl
theorem ok_11_2 {R : Type} (T : St) (k : Ex → St → Option R) (r : R) (h0 : o_11_2 G_11_2 T k = some r) : evLoopN (evCode sm_11 FU (evFn sm_11 fns FU 0) ir11_b2) (St.norm ir11_v2) FU T k = some r := by
  obtain ⟨p0, p1, p2, p3, p4, rfl, h⟩ := o_11_2_inv h0
  refine evLoopN_L (t := .nil) noO_ok trivial _ _ _ _ ?_
  rw [loop_11_2]
  exact h
theorem OK_11_11_2 {R : Type} (T : St) (k : Ex → St → Option R) (r : R) (h : O_11_11_2 T k = some r) : evLoopN (evCode sm_11 FU (evFn sm_11 fns FU 0) ir11_b2) (St.norm ir11_v2) FU T k = some r := ok_11_2 T k r h
theorem body_11_0 {R : Type} (K0 : St → Option R) (K1 : Ex → St → Option R) (p0 : Zt11_1) (p1 : Int) (p2 : Int) : evLB (evCodeL sm_11 FU (ovr noO (evFn sm_11 fns FU 0)) (ir11_bt0 O_11_11_1 O_11_11_2) ir11_b0) (St.norm ir11_v0) (T_11_0 p0 p1 p2) K0 K1 =
  bif decide (p2 < (↑(List.length p0) : Int)) then gd (inB p2 (List.length p0)) (gd (Sp.p_39 ((List.getD p0 (Int.toNat p2) (Ty.dflt (Ty.pair Ty.str Zy11_0))).1)) (bif !(Sp.v_39 ((List.getD p0 (Int.toNat p2) (Ty.dflt (Ty.pair Ty.str Zy11_0))).1)).1 then K1 Ex.ret X_11_0_0 else bif decide ((List.getD p0 (Int.toNat p2) (Ty.dflt (Ty.pair Ty.str Zy11_0))).2.1 < (0 : Int)) then K1 Ex.ret X_11_0_0 else bif decide ((List.getD p0 (Int.toNat p2) (Ty.dflt (Ty.pair Ty.str Zy11_0))).2.1 > (15 : Int)) then K1 Ex.ret X_11_0_0 else bif decide ((List.getD p0 (Int.toNat p2) (Ty.dflt (Ty.pair Ty.str Zy11_0))).2.2.1 < (0 : Int)) then K1 Ex.ret X_11_0_0 else bif decide ((List.getD p0 (Int.toNat p2) (Ty.dflt (Ty.pair Ty.str Zy11_0))).2.2.1 > (15 : Int)) then K1 Ex.ret X_11_0_0 else bif decide ((↑(List.length ((List.getD p0 (Int.toNat p2) (Ty.dflt (Ty.pair Ty.str Zy11_0))).2.2.2.1)) : Int) < (1 : Int)) then K1 Ex.ret X_11_0_0 else bif decide ((↑(List.length ((List.getD p0 (Int.toNat p2) (Ty.dflt (Ty.pair Ty.str Zy11_0))).2.2.2.1)) : Int) > (16 : Int)) then K1 Ex.ret X_11_0_0 else bif decide ((List.getD p0 (Int.toNat p2) (Ty.dflt (Ty.pair Ty.str Zy11_0))).2.2.2.2.1 < (-5000 : Int)) then K1 Ex.ret X_11_0_0 else bif decide ((List.getD p0 (Int.toNat p2) (Ty.dflt (Ty.pair Ty.str Zy11_0))).2.2.2.2.1 > (10000 : Int)) then K1 Ex.ret X_11_0_0 else Sp.B_11_1 (Sp.L_11_1 (4611686018427387904 : Nat) p0 p1 p2 (0 : Int) (List.getD p0 (Int.toNat p2) (Ty.dflt (Ty.pair Ty.str Zy11_0)))) (K1 Ex.ret X_11_0_0) fun y39 y40 y41 y42 => Sp.B_11_2 (Sp.L_11_2 (4611686018427387904 : Nat) y39 y40 y41 (0 : Int) y42) (K1 Ex.ret X_11_0_0) fun y43 y44 y45 => K0 (T_11_0 y43 y44 (IntKind.wrap IntKind.i64 (y45 + (1 : Int)))))) else K1 (Ex.exit (0 : Nat)) X_11_0_1 := by kernel_rfl
theorem Bgd_11_0 {R : Type} {c : Bool} {x : Option R} {y : Option Sp.E_11_0} {k0 : Option R} {k1 : Option R} (h : x = Sp.B_11_0 y k0 k1) : gd c x = Sp.B_11_0 (gd c y) k0 k1 := by cases c; rfl; exact h
theorem Bcond_11_0 {R : Type} {c : Bool} {x x' : Option R} {y y' : Option Sp.E_11_0} {k0 : Option R} {k1 : Option R} (h : x = Sp.B_11_0 y k0 k1) (h' : x' = Sp.B_11_0 y' k0 k1) : (bif c then x else x') = Sp.B_11_0 (bif c then y else y') k0 k1 := by cases c; exact h'; exact h
theorem Bin_11_0_11_1 {R : Type} {r : Option Sp.E_11_1} {k0 : Option R} {k1 : Option R} {f0 : Option R} {f1 : (Zt11_1) → (Int) → (Int) → (Zt11_2) → Option R} {g0 : Option Sp.E_11_0} {g1 : (Zt11_1) → (Int) → (Int) → (Zt11_2) → Option Sp.E_11_0} (h0 : f0 = Sp.B_11_0 g0 k0 k1) (h1 : ∀ z0 z1 z2 z3, f1 z0 z1 z2 z3 = Sp.B_11_0 (g1 z0 z1 z2 z3) k0 k1) : Sp.B_11_1 r f0 f1 = Sp.B_11_0 (Sp.B_11_1 r g0 g1) k0 k1 := by
  cases r with
  | none => rfl
  | some e => cases e with
    | e0 => exact h0
    | e1 z0 z1 z2 z3 => exact h1 _ _ _ _
theorem Bin_11_0_11_2 {R : Type} {r : Option Sp.E_11_2} {k0 : Option R} {k1 : Option R} {f0 : Option R} {f1 : (Zt11_1) → (Int) → (Int) → Option R} {g0 : Option Sp.E_11_0} {g1 : (Zt11_1) → (Int) → (Int) → Option Sp.E_11_0} (h0 : f0 = Sp.B_11_0 g0 k0 k1) (h1 : ∀ z0 z1 z2, f1 z0 z1 z2 = Sp.B_11_0 (g1 z0 z1 z2) k0 k1) : Sp.B_11_2 r f0 f1 = Sp.B_11_0 (Sp.B_11_2 r g0 g1) k0 k1 := by
  cases r with
  | none => rfl
  | some e => cases e with
    | e0 => exact h0
    | e1 z0 z1 z2 => exact h1 _ _ _
theorem loop_11_0 {R : Type} (k : Ex → St → Option R) : ∀ (m : Nat) (p0 : Zt11_1) (p1 : Int) (p2 : Int), evLoopN (evCodeL sm_11 FU (ovr noO (evFn sm_11 fns FU 0)) (ir11_bt0 O_11_11_1 O_11_11_2) ir11_b0) (St.norm ir11_v0) m (T_11_0 p0 p1 p2) k = Sp.B_11_0 (Sp.L_11_0 m p0 p1 p2) (k Ex.ret (X_11_0_0)) (k (Ex.exit (0 : Nat)) (X_11_0_1))
  | 0, _, _, _ => rfl
  | m + 1, p0, p1, p2 => by
    rw [evLoopN_succ, body_11_0, Sp.L_11_0]
    repeat' first | apply Bgd_11_0 | apply Bcond_11_0 | (apply Bin_11_0_11_1 <;> intros) | (apply Bin_11_0_11_2 <;> intros) | exact loop_11_0 k m _ _ _ | rfl
theorem ok_11_0 {R : Type} (T : St) (k : Ex → St → Option R) (r : R) (h0 : o_11_0 G_11_0 T k = some r) : evLoopN (evCode sm_11 FU (evFn sm_11 fns FU 0) ir11_b0) (St.norm ir11_v0) FU T k = some r := by
  obtain ⟨p0, p1, p2, rfl, h⟩ := o_11_0_inv h0
  refine evLoopN_L (t := (ir11_bt0 O_11_11_1 O_11_11_2)) noO_ok (ir11_bt0ok (fun T k r => OK_11_11_1 T k r) (fun T k r => OK_11_11_2 T k r)) _ _ _ _ ?_
  rw [loop_11_0]
  exact h
theorem OK_11_11_0 {R : Type} (T : St) (k : Ex → St → Option R) (r : R) (h : O_11_11_0 T k = some r) : evLoopN (evCode sm_11 FU (evFn sm_11 fns FU 0) ir11_b0) (St.norm ir11_v0) FU T k = some r := ok_11_0 T k r h
noncomputable def F_11 (a0 : (List ((List Int) × (Int × (Int × ((List Int) × (Int × Unit))))))) (a1 : Int) : Option (Bool × Unit) :=
  bif decide ((↑(List.length a0) : Int) > (64 : Int)) then some (false, PUnit.unit) else bif decide (a1 < (0 : Int)) then some (false, PUnit.unit) else bif decide (a1 > (64 : Int)) then some (false, PUnit.unit) else Sp.B_11_0 (Sp.L_11_0 (4611686018427387904 : Nat) a0 a1 (0 : Int)) (some (false, PUnit.unit)) (some (true, PUnit.unit))
theorem fn_11 (a0 : (List ((List Int) × (Int × (Int × ((List Int) × (Int × Unit))))))) (a1 : Int) : evFnL sm_11 FU (ovr noO (evFn sm_11 fns FU 0)) (ir11_t O_11_11_0) ir11 (ofH [(.slice (.pair .str Zy11_3)), (.int .i64)] (a0, a1, ())) [] (pureK [.bool]) = F_11 a0 a1 := by kernel_rfl
noncomputable def Sp.p_11 (a0 : (List ((List Int) × (Int × (Int × ((List Int) × (Int × Unit))))))) (a1 : Int) : Bool := (F_11 a0 a1).isSome
noncomputable def Sp.v_11 (a0 : (List ((List Int) × (Int × (Int × ((List Int) × (Int × Unit))))))) (a1 : Int) : Bool × Unit := (F_11 a0 a1).getD (dfH [.bool])
noncomputable def s_11 : Summ := shN [(.slice (.pair .str Zy11_3)), (.int .i64)] [.bool] (fun x => Sp.p_11 x.1 x.2.1) (fun x => Sp.v_11 x.1 x.2.1)
theorem pv_11 (a0 : (List ((List Int) × (Int × (Int × ((List Int) × (Int × Unit))))))) (a1 : Int) {y : Bool × Unit} (h : F_11 a0 a1 = some y) : Sp.p_11 a0 a1 = true ∧ Sp.v_11 a0 a1 = y := ⟨by rw [Sp.p_11, h]; rfl, by rw [Sp.v_11, h]; rfl⟩
theorem run_11 (x : HDen [(.slice (.pair .str Zy11_3)), (.int .i64)]) (y : HDen [.bool]) (h : F_11 x.1 x.2.1 = some y) : evFn sm_11 fns FU 1 11 (ofH [(.slice (.pair .str Zy11_3)), (.int .i64)] x) [] (pureK [.bool]) = some y :=
  evFnL_sound (fn := ir11) (t := (ir11_t O_11_11_0)) (o := noO) rfl noO_ok (ir11_tok (fun T k r => OK_11_11_0 T k r)) ((fn_11 _ _).trans h)
end
end Go.Ev
namespace Go.Ev
open Go
set_option maxRecDepth 100000
set_option maxHeartbeats 4000000
set_option linter.unusedVariables false
noncomputable section

noncomputable def sm_45 : Nat → Option Summ := fun f => none


noncomputable def F_45 (a0 : Int) (a1 : Int) (a2 : Int) : Option (Bool × Unit) :=
  bif decide (a0 ≥ a1) then some (decide (a0 ≤ a2), PUnit.unit) else some (false, PUnit.unit)
theorem fn_45 (a0 : Int) (a1 : Int) (a2 : Int) : evFnL sm_45 FU (ovr noO (evFn sm_45 fns FU 0)) .nil ir45 (ofH [(.int .i64), (.int .i64), (.int .i64)] (a0, a1, a2, ())) [] (pureK [.bool]) = F_45 a0 a1 a2 := by kernel_rfl
noncomputable def Sp.p_45 (a0 : Int) (a1 : Int) (a2 : Int) : Bool := (F_45 a0 a1 a2).isSome
noncomputable def Sp.v_45 (a0 : Int) (a1 : Int) (a2 : Int) : Bool × Unit := (F_45 a0 a1 a2).getD (dfH [.bool])
noncomputable def s_45 : Summ := shN [(.int .i64), (.int .i64), (.int .i64)] [.bool] (fun x => Sp.p_45 x.1 x.2.1 x.2.2.1) (fun x => Sp.v_45 x.1 x.2.1 x.2.2.1)
theorem pv_45 (a0 : Int) (a1 : Int) (a2 : Int) {y : Bool × Unit} (h : F_45 a0 a1 a2 = some y) : Sp.p_45 a0 a1 a2 = true ∧ Sp.v_45 a0 a1 a2 = y := ⟨by rw [Sp.p_45, h]; rfl, by rw [Sp.v_45, h]; rfl⟩
theorem run_45 (x : HDen [(.int .i64), (.int .i64), (.int .i64)]) (y : HDen [.bool]) (h : F_45 x.1 x.2.1 x.2.2.1 = some y) : evFn sm_45 fns FU 1 45 (ofH [(.int .i64), (.int .i64), (.int .i64)] x) [] (pureK [.bool]) = some y :=
  evFnL_sound (fn := ir45) (t := .nil) (o := noO) rfl noO_ok trivial ((fn_45 _ _ _).trans h)
end
end Go.Ev
namespace Go.Ev
open Go
set_option maxRecDepth 100000
set_option maxHeartbeats 4000000
set_option linter.unusedVariables false
noncomputable section

noncomputable def sm_54 : Nat → Option Summ := fun f => bif Nat.beq f 45 then some s_45 else none


noncomputable def F_54 (a0 : (Int × (Int × (Int × (Int × (Int × (Int × (Bool × (Int × Unit))))))))) : Option (Bool × Unit) :=
  gd (Sp.p_45 (a0.1) (1 : Int) (16777215 : Int)) (bif (Sp.v_45 (a0.1) (1 : Int) (16777215 : Int)).1 then gd (Sp.p_45 (a0.2.1) (1 : Int) (100 : Int)) (bif (Sp.v_45 (a0.2.1) (1 : Int) (100 : Int)).1 then gd (Sp.p_45 (a0.2.2.1) (1 : Int) (100 : Int)) (bif (Sp.v_45 (a0.2.2.1) (1 : Int) (100 : Int)).1 then gd (Sp.p_45 (a0.2.2.2.1) (1 : Int) (100 : Int)) (bif (Sp.v_45 (a0.2.2.2.1) (1 : Int) (100 : Int)).1 then gd (Sp.p_45 (a0.2.2.2.2.1) (a0.2.2.2.1) (255 : Int)) (bif (Sp.v_45 (a0.2.2.2.2.1) (a0.2.2.2.1) (255 : Int)).1 then gd (Sp.p_45 (a0.2.2.2.2.2.1) (0 : Int) (255 : Int)) (bif (Sp.v_45 (a0.2.2.2.2.2.1) (0 : Int) (255 : Int)).1 then gd (Sp.p_45 (a0.2.2.2.2.2.2.2.1) (0 : Int) (8 : Int)) (some ((Sp.v_45 (a0.2.2.2.2.2.2.2.1) (0 : Int) (8 : Int)).1, PUnit.unit)) else some (false, PUnit.unit)) else some (false, PUnit.unit)) else some (false, PUnit.unit)) else some (false, PUnit.unit)) else some (false, PUnit.unit)) else some (false, PUnit.unit))
theorem fn_54 (a0 : (Int × (Int × (Int × (Int × (Int × (Int × (Bool × (Int × Unit))))))))) : evFnL sm_54 FU (ovr noO (evFn sm_54 fns FU 0)) .nil ir54 (ofH [(.pair (.int .i64) (.pair (.int .i64) (.pair (.int .i64) (.pair (.int .i64) (.pair (.int .i64) (.pair (.int .i64) (.pair .bool (.pair (.int .i64) .unit))))))))] (a0, ())) [] (pureK [.bool]) = F_54 a0 := by kernel_rfl
noncomputable def Sp.p_54 (a0 : (Int × (Int × (Int × (Int × (Int × (Int × (Bool × (Int × Unit))))))))) : Bool := (F_54 a0).isSome
noncomputable def Sp.v_54 (a0 : (Int × (Int × (Int × (Int × (Int × (Int × (Bool × (Int × Unit))))))))) : Bool × Unit := (F_54 a0).getD (dfH [.bool])
noncomputable def s_54 : Summ := shN [(.pair (.int .i64) (.pair (.int .i64) (.pair (.int .i64) (.pair (.int .i64) (.pair (.int .i64) (.pair (.int .i64) (.pair .bool (.pair (.int .i64) .unit))))))))] [.bool] (fun x => Sp.p_54 x.1) (fun x => Sp.v_54 x.1)
theorem pv_54 (a0 : (Int × (Int × (Int × (Int × (Int × (Int × (Bool × (Int × Unit))))))))) {y : Bool × Unit} (h : F_54 a0 = some y) : Sp.p_54 a0 = true ∧ Sp.v_54 a0 = y := ⟨by rw [Sp.p_54, h]; rfl, by rw [Sp.v_54, h]; rfl⟩
theorem run_54 (x : HDen [(.pair (.int .i64) (.pair (.int .i64) (.pair (.int .i64) (.pair (.int .i64) (.pair (.int .i64) (.pair (.int .i64) (.pair .bool (.pair (.int .i64) .unit))))))))]) (y : HDen [.bool]) (h : F_54 x.1 = some y) : evFn sm_54 fns FU 1 54 (ofH [(.pair (.int .i64) (.pair (.int .i64) (.pair (.int .i64) (.pair (.int .i64) (.pair (.int .i64) (.pair (.int .i64) (.pair .bool (.pair (.int .i64) .unit))))))))] x) [] (pureK [.bool]) = some y :=
  evFnL_sound (fn := ir54) (t := .nil) (o := noO) rfl noO_ok trivial ((fn_54 _).trans h)
end
end Go.Ev
namespace Go.Ev
open Go
set_option maxRecDepth 100000
set_option maxHeartbeats 4000000
set_option linter.unusedVariables false
noncomputable section
abbrev Zt44_0 : Type := List (Int × Int × Int × Int × Int × Int × Bool × Int × Unit)
abbrev Zy44_1 : Ty := (Ty.slice (Ty.pair (Ty.int IntKind.i64) (Ty.pair (Ty.int IntKind.i64) (Ty.pair (Ty.int IntKind.i64) (Ty.pair (Ty.int IntKind.i64) (Ty.pair (Ty.int IntKind.i64) (Ty.pair (Ty.int IntKind.i64) (Ty.pair Ty.bool (Ty.pair (Ty.int IntKind.i64) Ty.unit)))))))))
abbrev Zy44_2 : Ty := (Ty.pair (Ty.int IntKind.i64) (Ty.pair (Ty.int IntKind.i64) (Ty.pair (Ty.int IntKind.i64) (Ty.pair (Ty.int IntKind.i64) (Ty.pair (Ty.int IntKind.i64) (Ty.pair (Ty.int IntKind.i64) (Ty.pair Ty.bool (Ty.pair (Ty.int IntKind.i64) Ty.unit))))))))
abbrev Zy44_3 : Ty := (.slice (.pair (.int .i64) (.pair (.int .i64) (.pair (.int .i64) (.pair (.int .i64) (.pair (.int .i64) (.pair (.int .i64) (.pair .bool (.pair (.int .i64) .unit)))))))))

noncomputable def sm_44 : Nat → Option Summ := fun f => bif Nat.beq f 54 then some s_54 else none
noncomputable def T_44_0 (p0 : Zt44_0) (p1 : Int) : St := St.mk ([CV.pure Zy44_1 p0, jk, jk, CV.int IntKind.i64 p1] ++ (jl 39)) [] (0 : Nat)
noncomputable def X_44_0_0 : St := St.mk ([jk, jk, CV.int IntKind.i64 (1 : Int)] ++ (jl 40)) [] (0 : Nat)
noncomputable def X_44_0_1 (p0 : Zt44_0) : St := St.mk ([CV.pure Zy44_1 p0] ++ (jl 42)) [] (0 : Nat)
inductive Sp.E_44_0 where
  | e0
  | e1 (p0 : Zt44_0)
noncomputable def Sp.B_44_0 {R : Type} (r : Option Sp.E_44_0) (k0 : Option R) (k1 : (Zt44_0) → Option R) : Option R := match r with
  | none => none
  | some (.e0) => k0
  | some (.e1 p0) => k1 p0
noncomputable def Sp.L_44_0 : Nat → (List (Int × Int × Int × Int × Int × Int × Bool × Int × Unit)) → (Int) → Option Sp.E_44_0
  | 0, _, _ => none
  | m + 1, p0, p1 => bif decide (p1 < (↑(List.length p0) : Int)) then gd (inB p1 (List.length p0)) (gd (Sp.p_54 (List.getD p0 (Int.toNat p1) Zd1)) (bif !(Sp.v_54 (List.getD p0 (Int.toNat p1) Zd1)).1 then some (Sp.E_44_0.e0) else Sp.L_44_0 m p0 (IntKind.wrap IntKind.i64 (p1 + (1 : Int))))) else some (Sp.E_44_0.e1 p0)
noncomputable def G_44_0 {R : Type} (p0 : Zt44_0) (p1 : Int) (k : Ex → St → Option R) : Option R := Sp.B_44_0 (Sp.L_44_0 FU p0 p1) (k Ex.ret (X_44_0_0)) (fun p0 => k (Ex.exit (0 : Nat)) (X_44_0_1 p0))
noncomputable def o_44_0 {R : Type} (G : (Zt44_0) → (Int) → (Ex → St → Option R) → Option R) : St → (Ex → St → Option R) → Option R := fun T k => match T.sl.getD 0 .junk, T.sl.getD 3 .junk, T.hp with
  | CV.pure (Ty.slice (Ty.pair (Ty.int IntKind.i64) (Ty.pair (Ty.int IntKind.i64) (Ty.pair (Ty.int IntKind.i64) (Ty.pair (Ty.int IntKind.i64) (Ty.pair (Ty.int IntKind.i64) (Ty.pair (Ty.int IntKind.i64) (Ty.pair Ty.bool (Ty.pair (Ty.int IntKind.i64) Ty.unit))))))))) p0, CV.int IntKind.i64 p1, [] => gd (shapeOK T 43 [0, 3] (0 : Nat)) (G p0 p1 k)
  | _, _, _ => none
theorem o_44_0_inv {R : Type} {G : (Zt44_0) → (Int) → (Ex → St → Option R) → Option R} {T : St} {k : Ex → St → Option R} {r : R} (h : o_44_0 G T k = some r) : ∃ p0 p1, T = T_44_0 p0 p1 ∧ G p0 p1 k = some r := by
  unfold o_44_0 at h
  split at h
  · obtain ⟨hs, h'⟩ := gd_some h
    refine ⟨_, _, (st_of (asg := [(0, _), (3, _)]) hs ⟨by assumption, by assumption, trivial⟩ (by assumption)).trans ?_, h'⟩
    kernel_rfl
  · cases h
noncomputable def T_44_2 (p0 : Zt44_0) (p1 : Int) (p2 : Int) : St := St.mk ([CV.pure Zy44_1 p0, jk, jk, jk, CV.int IntKind.i64 p1, CV.int IntKind.i64 p2] ++ (jl 37)) [] (0 : Nat)
noncomputable def X_44_2_0 : St := St.mk ([jk, jk, CV.int IntKind.i64 (8 : Int)] ++ (jl 40)) [] (0 : Nat)
noncomputable def X_44_2_1 (p0 : Zt44_0) (p1 : Int) : St := St.mk ([CV.pure Zy44_1 p0, jk, jk, jk, CV.int IntKind.i64 p1] ++ (jl 38)) [] (0 : Nat)
inductive Sp.E_44_2 where
  | e0
  | e1 (p0 : Zt44_0) (p1 : Int)
noncomputable def Sp.B_44_2 {R : Type} (r : Option Sp.E_44_2) (k0 : Option R) (k1 : (Zt44_0) → (Int) → Option R) : Option R := match r with
  | none => none
  | some (.e0) => k0
  | some (.e1 p0 p1) => k1 p0 p1
noncomputable def Sp.L_44_2 : Nat → (List (Int × Int × Int × Int × Int × Int × Bool × Int × Unit)) → (Int) → (Int) → Option Sp.E_44_2
  | 0, _, _, _ => none
  | m + 1, p0, p1, p2 => bif decide (p2 < p1) then gd (inB p2 (List.length p0)) (gd (inB p1 (List.length p0)) (bif (List.getD p0 (Int.toNat p2) Zd1).1 == (List.getD p0 (Int.toNat p1) Zd1).1 then some (Sp.E_44_2.e0) else Sp.L_44_2 m p0 p1 (IntKind.wrap IntKind.i64 (p2 + (1 : Int))))) else some (Sp.E_44_2.e1 p0 p1)
noncomputable def G_44_2 {R : Type} (p0 : Zt44_0) (p1 : Int) (p2 : Int) (k : Ex → St → Option R) : Option R := Sp.B_44_2 (Sp.L_44_2 FU p0 p1 p2) (k Ex.ret (X_44_2_0)) (fun p0 p1 => k (Ex.exit (4 : Nat)) (X_44_2_1 p0 p1))
noncomputable def o_44_2 {R : Type} (G : (Zt44_0) → (Int) → (Int) → (Ex → St → Option R) → Option R) : St → (Ex → St → Option R) → Option R := fun T k => match T.sl.getD 0 .junk, T.sl.getD 4 .junk, T.sl.getD 5 .junk, T.hp with
  | CV.pure (Ty.slice (Ty.pair (Ty.int IntKind.i64) (Ty.pair (Ty.int IntKind.i64) (Ty.pair (Ty.int IntKind.i64) (Ty.pair (Ty.int IntKind.i64) (Ty.pair (Ty.int IntKind.i64) (Ty.pair (Ty.int IntKind.i64) (Ty.pair Ty.bool (Ty.pair (Ty.int IntKind.i64) Ty.unit))))))))) p0, CV.int IntKind.i64 p1, CV.int IntKind.i64 p2, [] => gd (shapeOK T 43 [0, 4, 5] (0 : Nat)) (G p0 p1 p2 k)
  | _, _, _, _ => none
theorem o_44_2_inv {R : Type} {G : (Zt44_0) → (Int) → (Int) → (Ex → St → Option R) → Option R} {T : St} {k : Ex → St → Option R} {r : R} (h : o_44_2 G T k = some r) : ∃ p0 p1 p2, T = T_44_2 p0 p1 p2 ∧ G p0 p1 p2 k = some r := by
  unfold o_44_2 at h
  split at h
  · obtain ⟨hs, h'⟩ := gd_some h
    refine ⟨_, _, _, (st_of (asg := [(0, _), (4, _), (5, _)]) hs ⟨by assumption, by assumption, by assumption, trivial⟩ (by assumption)).trans ?_, h'⟩
    kernel_rfl
  · cases h
noncomputable def T_44_1 (p0 : Zt44_0) (p1 : Int) : St := St.mk ([CV.pure Zy44_1 p0, jk, jk, jk, CV.int IntKind.i64 p1] ++ (jl 38)) [] (0 : Nat)
noncomputable def X_44_1_0 : St := St.mk ([jk, jk, CV.int IntKind.i64 (8 : Int)] ++ (jl 40)) [] (0 : Nat)
noncomputable def X_44_1_1 : St := St.mk (jl 43) [] (0 : Nat)
inductive Sp.E_44_1 where
  | e0
  | e1
noncomputable def Sp.B_44_1 {R : Type} (r : Option Sp.E_44_1) (k0 : Option R) (k1 : Option R) : Option R := match r with
  | none => none
  | some (.e0) => k0
  | some (.e1) => k1
noncomputable def Sp.L_44_1 : Nat → (List (Int × Int × Int × Int × Int × Int × Bool × Int × Unit)) → (Int) → Option Sp.E_44_1
  | 0, _, _ => none
  | m + 1, p0, p1 => bif decide (p1 < (↑(List.length p0) : Int)) then Sp.B_44_2 (Sp.L_44_2 (4611686018427387904 : Nat) p0 p1 (0 : Int)) (some (Sp.E_44_1.e0)) fun y6 y7 => Sp.L_44_1 m y6 (IntKind.wrap IntKind.i64 (y7 + (1 : Int))) else some (Sp.E_44_1.e1)
noncomputable def G_44_1 {R : Type} (p0 : Zt44_0) (p1 : Int) (k : Ex → St → Option R) : Option R := Sp.B_44_1 (Sp.L_44_1 FU p0 p1) (k Ex.ret (X_44_1_0)) (k (Ex.exit (2 : Nat)) (X_44_1_1))
noncomputable def o_44_1 {R : Type} (G : (Zt44_0) → (Int) → (Ex → St → Option R) → Option R) : St → (Ex → St → Option R) → Option R := fun T k => match T.sl.getD 0 .junk, T.sl.getD 4 .junk, T.hp with
  | CV.pure (Ty.slice (Ty.pair (Ty.int IntKind.i64) (Ty.pair (Ty.int IntKind.i64) (Ty.pair (Ty.int IntKind.i64) (Ty.pair (Ty.int IntKind.i64) (Ty.pair (Ty.int IntKind.i64) (Ty.pair (Ty.int IntKind.i64) (Ty.pair Ty.bool (Ty.pair (Ty.int IntKind.i64) Ty.unit))))))))) p0, CV.int IntKind.i64 p1, [] => gd (shapeOK T 43 [0, 4] (0 : Nat)) (G p0 p1 k)
  | _, _, _ => none
theorem o_44_1_inv {R : Type} {G : (Zt44_0) → (Int) → (Ex → St → Option R) → Option R} {T : St} {k : Ex → St → Option R} {r : R} (h : o_44_1 G T k = some r) : ∃ p0 p1, T = T_44_1 p0 p1 ∧ G p0 p1 k = some r := by
  unfold o_44_1 at h
  split at h
  · obtain ⟨hs, h'⟩ := gd_some h
    refine ⟨_, _, (st_of (asg := [(0, _), (4, _)]) hs ⟨by assumption, by assumption, trivial⟩ (by assumption)).trans ?_, h'⟩
    kernel_rfl
  · cases h
noncomputable def O_44_44_0 {R : Type} : St → (Ex → St → Option R) → Option R := fun T k => o_44_0 G_44_0 T k
noncomputable def O_44_44_2 {R : Type} : St → (Ex → St → Option R) → Option R := fun T k => o_44_2 G_44_2 T k
noncomputable def O_44_44_1 {R : Type} : St → (Ex → St → Option R) → Option R := fun T k => o_44_1 G_44_1 T k
theorem body_44_0 {R : Type} (K0 : St → Option R) (K1 : Ex → St → Option R) (p0 : Zt44_0) (p1 : Int) : evLB (evCodeL sm_44 FU (ovr noO (evFn sm_44 fns FU 0)) .nil ir44_b0) (St.norm ir44_v0) (T_44_0 p0 p1) K0 K1 =
  bif decide (p1 < (↑(List.length p0) : Int)) then gd (inB p1 (List.length p0)) (gd (Sp.p_54 (List.getD p0 (Int.toNat p1) (Ty.dflt Zy44_2))) (bif !(Sp.v_54 (List.getD p0 (Int.toNat p1) (Ty.dflt Zy44_2))).1 then K1 Ex.ret X_44_0_0 else K0 (T_44_0 p0 (IntKind.wrap IntKind.i64 (p1 + (1 : Int)))))) else K1 (Ex.exit (0 : Nat)) (X_44_0_1 p0) := by kernel_rfl
theorem Bgd_44_0 {R : Type} {c : Bool} {x : Option R} {y : Option Sp.E_44_0} {k0 : Option R} {k1 : (Zt44_0) → Option R} (h : x = Sp.B_44_0 y k0 k1) : gd c x = Sp.B_44_0 (gd c y) k0 k1 := by cases c; rfl; exact h
theorem Bcond_44_0 {R : Type} {c : Bool} {x x' : Option R} {y y' : Option Sp.E_44_0} {k0 : Option R} {k1 : (Zt44_0) → Option R} (h : x = Sp.B_44_0 y k0 k1) (h' : x' = Sp.B_44_0 y' k0 k1) : (bif c then x else x') = Sp.B_44_0 (bif c then y else y') k0 k1 := by cases c; exact h'; exact h
theorem loop_44_0 {R : Type} (k : Ex → St → Option R) : ∀ (m : Nat) (p0 : Zt44_0) (p1 : Int), evLoopN (evCodeL sm_44 FU (ovr noO (evFn sm_44 fns FU 0)) .nil ir44_b0) (St.norm ir44_v0) m (T_44_0 p0 p1) k = Sp.B_44_0 (Sp.L_44_0 m p0 p1) (k Ex.ret (X_44_0_0)) (fun p0 => k (Ex.exit (0 : Nat)) (X_44_0_1 p0))
  | 0, _, _ => rfl
  | m + 1, p0, p1 => by
    rw [evLoopN_succ, body_44_0, Sp.L_44_0]
    repeat' first | apply Bgd_44_0 | apply Bcond_44_0 | exact loop_44_0 k m _ _ | rfl
theorem ok_44_0 {R : Type} (T : St) (k : Ex → St → Option R) (r : R) (h0 : o_44_0 G_44_0 T k = some r) : evLoopN (evCode sm_44 FU (evFn sm_44 fns FU 0) ir44_b0) (St.norm ir44_v0) FU T k = some r := by
  obtain ⟨p0, p1, rfl, h⟩ := o_44_0_inv h0
  refine evLoopN_L (t := .nil) noO_ok trivial _ _ _ _ ?_
  rw [loop_44_0]
  exact h
theorem OK_44_44_0 {R : Type} (T : St) (k : Ex → St → Option R) (r : R) (h : O_44_44_0 T k = some r) : evLoopN (evCode sm_44 FU (evFn sm_44 fns FU 0) ir44_b0) (St.norm ir44_v0) FU T k = some r := ok_44_0 T k r h
theorem body_44_2 {R : Type} (K0 : St → Option R) (K1 : Ex → St → Option R) (p0 : Zt44_0) (p1 : Int) (p2 : Int) : evLB (evCodeL sm_44 FU (ovr noO (evFn sm_44 fns FU 0)) .nil ir44_b2) (St.norm ir44_v2) (T_44_2 p0 p1 p2) K0 K1 =
  bif decide (p2 < p1) then gd (inB p2 (List.length p0)) (gd (inB p1 (List.length p0)) (bif (List.getD p0 (Int.toNat p2) (Ty.dflt Zy44_2)).1 == (List.getD p0 (Int.toNat p1) (Ty.dflt Zy44_2)).1 then K1 Ex.ret X_44_2_0 else K0 (T_44_2 p0 p1 (IntKind.wrap IntKind.i64 (p2 + (1 : Int)))))) else K1 (Ex.exit (4 : Nat)) (X_44_2_1 p0 p1) := by kernel_rfl
theorem Bgd_44_2 {R : Type} {c : Bool} {x : Option R} {y : Option Sp.E_44_2} {k0 : Option R} {k1 : (Zt44_0) → (Int) → Option R} (h : x = Sp.B_44_2 y k0 k1) : gd c x = Sp.B_44_2 (gd c y) k0 k1 := by cases c; rfl; exact h
theorem Bcond_44_2 {R : Type} {c : Bool} {x x' : Option R} {y y' : Option Sp.E_44_2} {k0 : Option R} {k1 : (Zt44_0) → (Int) → Option R} (h : x = Sp.B_44_2 y k0 k1) (h' : x' = Sp.B_44_2 y' k0 k1) : (bif c then x else x') = Sp.B_44_2 (bif c then y else y') k0 k1 := by cases c; exact h'; exact h
theorem loop_44_2 {R : Type} (k : Ex → St → Option R) : ∀ (m : Nat) (p0 : Zt44_0) (p1 : Int) (p2 : Int), evLoopN (evCodeL sm_44 FU (ovr noO (evFn sm_44 fns FU 0)) .nil ir44_b2) (St.norm ir44_v2) m (T_44_2 p0 p1 p2) k = Sp.B_44_2 (Sp.L_44_2 m p0 p1 p2) (k Ex.ret (X_44_2_0)) (fun p0 p1 => k (Ex.exit (4 : Nat)) (X_44_2_1 p0 p1))
  | 0, _, _, _ => rfl
  | m + 1, p0, p1, p2 => by
    rw [evLoopN_succ, body_44_2, Sp.L_44_2]
    repeat' first | apply Bgd_44_2 | apply Bcond_44_2 | exact loop_44_2 k m _ _ _ | rfl
theorem ok_44_2 {R : Type} (T : St) (k : Ex → St → Option R) (r : R) (h0 : o_44_2 G_44_2 T k = some r) : evLoopN (evCode sm_44 FU (evFn sm_44 fns FU 0) ir44_b2) (St.norm ir44_v2) FU T k = some r := by
  obtain ⟨p0, p1, p2, rfl, h⟩ := o_44_2_inv h0
  refine evLoopN_L (t := .nil) noO_ok trivial _ _ _ _ ?_
  rw [loop_44_2]
  exact h
theorem OK_44_44_2 {R : Type} (T : St) (k : Ex → St → Option R) (r : R) (h : O_44_44_2 T k = some r) : evLoopN (evCode sm_44 FU (evFn sm_44 fns FU 0) ir44_b2) (St.norm ir44_v2) FU T k = some r := ok_44_2 T k r h
theorem body_44_1 {R : Type} (K0 : St → Option R) (K1 : Ex → St → Option R) (p0 : Zt44_0) (p1 : Int) : evLB (evCodeL sm_44 FU (ovr noO (evFn sm_44 fns FU 0)) (ir44_bt1 O_44_44_2) ir44_b1) (St.norm ir44_v1) (T_44_1 p0 p1) K0 K1 =
  bif decide (p1 < (↑(List.length p0) : Int)) then Sp.B_44_2 (Sp.L_44_2 (4611686018427387904 : Nat) p0 p1 (0 : Int)) (K1 Ex.ret X_44_1_0) fun y6 y7 => K0 (T_44_1 y6 (IntKind.wrap IntKind.i64 (y7 + (1 : Int)))) else K1 (Ex.exit (2 : Nat)) X_44_1_1 := by kernel_rfl
theorem Bgd_44_1 {R : Type} {c : Bool} {x : Option R} {y : Option Sp.E_44_1} {k0 : Option R} {k1 : Option R} (h : x = Sp.B_44_1 y k0 k1) : gd c x = Sp.B_44_1 (gd c y) k0 k1 := by cases c; rfl; exact h
theorem Bcond_44_1 {R : Type} {c : Bool} {x x' : Option R} {y y' : Option Sp.E_44_1} {k0 : Option R} {k1 : Option R} (h : x = Sp.B_44_1 y k0 k1) (h' : x' = Sp.B_44_1 y' k0 k1) : (bif c then x else x') = Sp.B_44_1 (bif c then y else y') k0 k1 := by cases c; exact h'; exact h
theorem Bin_44_1_44_2 {R : Type} {r : Option Sp.E_44_2} {k0 : Option R} {k1 : Option R} {f0 : Option R} {f1 : (Zt44_0) → (Int) → Option R} {g0 : Option Sp.E_44_1} {g1 : (Zt44_0) → (Int) → Option Sp.E_44_1} (h0 : f0 = Sp.B_44_1 g0 k0 k1) (h1 : ∀ z0 z1, f1 z0 z1 = Sp.B_44_1 (g1 z0 z1) k0 k1) : Sp.B_44_2 r f0 f1 = Sp.B_44_1 (Sp.B_44_2 r g0 g1) k0 k1 := by
  cases r with
  | none => rfl
  | some e => cases e with
    | e0 => exact h0
    | e1 z0 z1 => exact h1 _ _
theorem loop_44_1 {R : Type} (k : Ex → St → Option R) : ∀ (m : Nat) (p0 : Zt44_0) (p1 : Int), evLoopN (evCodeL sm_44 FU (ovr noO (evFn sm_44 fns FU 0)) (ir44_bt1 O_44_44_2) ir44_b1) (St.norm ir44_v1) m (T_44_1 p0 p1) k = Sp.B_44_1 (Sp.L_44_1 m p0 p1) (k Ex.ret (X_44_1_0)) (k (Ex.exit (2 : Nat)) (X_44_1_1))
  | 0, _, _ => rfl
  | m + 1, p0, p1 => by
    rw [evLoopN_succ, body_44_1, Sp.L_44_1]
    repeat' first | apply Bgd_44_1 | apply Bcond_44_1 | (apply Bin_44_1_44_2 <;> intros) | exact loop_44_1 k m _ _ | rfl
theorem ok_44_1 {R : Type} (T : St) (k : Ex → St → Option R) (r : R) (h0 : o_44_1 G_44_1 T k = some r) : evLoopN (evCode sm_44 FU (evFn sm_44 fns FU 0) ir44_b1) (St.norm ir44_v1) FU T k = some r := by
  obtain ⟨p0, p1, rfl, h⟩ := o_44_1_inv h0
  refine evLoopN_L (t := (ir44_bt1 O_44_44_2)) noO_ok (ir44_bt1ok (fun T k r => OK_44_44_2 T k r)) _ _ _ _ ?_
  rw [loop_44_1]
  exact h
theorem OK_44_44_1 {R : Type} (T : St) (k : Ex → St → Option R) (r : R) (h : O_44_44_1 T k = some r) : evLoopN (evCode sm_44 FU (evFn sm_44 fns FU 0) ir44_b1) (St.norm ir44_v1) FU T k = some r := ok_44_1 T k r h
noncomputable def F_44 (a0 : (List (Int × (Int × (Int × (Int × (Int × (Int × (Bool × (Int × Unit)))))))))) : Option (Int × Unit) :=
  bif decide ((↑(List.length a0) : Int) > (64 : Int)) then some ((5 : Int), PUnit.unit) else Sp.B_44_0 (Sp.L_44_0 (4611686018427387904 : Nat) a0 (0 : Int)) (some ((1 : Int), PUnit.unit)) fun y5 => Sp.B_44_1 (Sp.L_44_1 (4611686018427387904 : Nat) y5 (0 : Int)) (some ((8 : Int), PUnit.unit)) (some ((0 : Int), PUnit.unit))
theorem fn_44 (a0 : (List (Int × (Int × (Int × (Int × (Int × (Int × (Bool × (Int × Unit)))))))))) : evFnL sm_44 FU (ovr noO (evFn sm_44 fns FU 0)) (ir44_t O_44_44_0 O_44_44_1) ir44 (ofH [Zy44_3] (a0, ())) [] (pureK [(.int .i64)]) = F_44 a0 := by kernel_rfl
noncomputable def Sp.p_44 (a0 : (List (Int × (Int × (Int × (Int × (Int × (Int × (Bool × (Int × Unit)))))))))) : Bool := (F_44 a0).isSome
noncomputable def Sp.v_44 (a0 : (List (Int × (Int × (Int × (Int × (Int × (Int × (Bool × (Int × Unit)))))))))) : Int × Unit := (F_44 a0).getD (dfH [(.int .i64)])
noncomputable def s_44 : Summ := shN [Zy44_3] [(.int .i64)] (fun x => Sp.p_44 x.1) (fun x => Sp.v_44 x.1)
theorem pv_44 (a0 : (List (Int × (Int × (Int × (Int × (Int × (Int × (Bool × (Int × Unit)))))))))) {y : Int × Unit} (h : F_44 a0 = some y) : Sp.p_44 a0 = true ∧ Sp.v_44 a0 = y := ⟨by rw [Sp.p_44, h]; rfl, by rw [Sp.v_44, h]; rfl⟩
theorem run_44 (x : HDen [Zy44_3]) (y : HDen [(.int .i64)]) (h : F_44 x.1 = some y) : evFn sm_44 fns FU 1 44 (ofH [Zy44_3] x) [] (pureK [(.int .i64)]) = some y :=
  evFnL_sound (fn := ir44) (t := (ir44_t O_44_44_0 O_44_44_1)) (o := noO) rfl noO_ok (ir44_tok (fun T k r => OK_44_44_0 T k r) (fun T k r => OK_44_44_1 T k r)) ((fn_44 _).trans h)
end
end Go.Ev
namespace Go.Ev
open Go
set_option maxRecDepth 100000
set_option maxHeartbeats 4000000
set_option linter.unusedVariables false
noncomputable section

noncomputable def sm_55 : Nat → Option Summ := fun f => bif Nat.beq f 45 then some s_45 else none
noncomputable def T_55_0 (p0 : List Int) (p1 : Int) : St := St.mk ([CV.pure (Ty.slice (Ty.int IntKind.i64)) p0, jk, jk, CV.int IntKind.i64 p1] ++ (jl 12)) [] (0 : Nat)
noncomputable def X_55_0_0 : St := St.mk ([jk, jk, CV.bool false] ++ (jl 13)) [] (0 : Nat)
noncomputable def X_55_0_1 : St := St.mk (jl 16) [] (0 : Nat)
inductive Sp.E_55_0 where
  | e0
  | e1
noncomputable def Sp.B_55_0 {R : Type} (r : Option Sp.E_55_0) (k0 : Option R) (k1 : Option R) : Option R := match r with
  | none => none
  | some (.e0) => k0
  | some (.e1) => k1
noncomputable def Sp.L_55_0 : Nat → (List Int) → (Int) → Option Sp.E_55_0
  | 0, _, _ => none
  | m + 1, p0, p1 => bif decide (p1 < (↑(List.length p0) : Int)) then gd (inB p1 (List.length p0)) (gd (Sp.p_45 (List.getD p0 (Int.toNat p1) (0 : Int)) (-1099511627776 : Int) (1099511627776 : Int)) (bif !(Sp.v_45 (List.getD p0 (Int.toNat p1) (0 : Int)) (-1099511627776 : Int) (1099511627776 : Int)).1 then some (Sp.E_55_0.e0) else Sp.L_55_0 m p0 (IntKind.wrap IntKind.i64 (p1 + (1 : Int))))) else some (Sp.E_55_0.e1)
noncomputable def G_55_0 {R : Type} (p0 : List Int) (p1 : Int) (k : Ex → St → Option R) : Option R := Sp.B_55_0 (Sp.L_55_0 FU p0 p1) (k Ex.ret (X_55_0_0)) (k (Ex.exit (0 : Nat)) (X_55_0_1))
noncomputable def o_55_0 {R : Type} (G : (List Int) → (Int) → (Ex → St → Option R) → Option R) : St → (Ex → St → Option R) → Option R := fun T k => match T.sl.getD 0 .junk, T.sl.getD 3 .junk, T.hp with
  | CV.pure (Ty.slice (Ty.int IntKind.i64)) p0, CV.int IntKind.i64 p1, [] => gd (shapeOK T 16 [0, 3] (0 : Nat)) (G p0 p1 k)
  | _, _, _ => none
theorem o_55_0_inv {R : Type} {G : (List Int) → (Int) → (Ex → St → Option R) → Option R} {T : St} {k : Ex → St → Option R} {r : R} (h : o_55_0 G T k = some r) : ∃ p0 p1, T = T_55_0 p0 p1 ∧ G p0 p1 k = some r := by
  unfold o_55_0 at h
  split at h
  · obtain ⟨hs, h'⟩ := gd_some h
    refine ⟨_, _, (st_of (asg := [(0, _), (3, _)]) hs ⟨by assumption, by assumption, trivial⟩ (by assumption)).trans ?_, h'⟩
    kernel_rfl
  · cases h
noncomputable def O_55_55_0 {R : Type} : St → (Ex → St → Option R) → Option R := fun T k => o_55_0 G_55_0 T k
theorem body_55_0 {R : Type} (K0 : St → Option R) (K1 : Ex → St → Option R) (p0 : List Int) (p1 : Int) : evLB (evCodeL sm_55 FU (ovr noO (evFn sm_55 fns FU 0)) .nil ir55_b0) (St.norm ir55_v0) (T_55_0 p0 p1) K0 K1 =
  bif decide (p1 < (↑(List.length p0) : Int)) then gd (inB p1 (List.length p0)) (gd (Sp.p_45 (List.getD p0 (Int.toNat p1) (0 : Int)) (-1099511627776 : Int) (1099511627776 : Int)) (bif !(Sp.v_45 (List.getD p0 (Int.toNat p1) (0 : Int)) (-1099511627776 : Int) (1099511627776 : Int)).1 then K1 Ex.ret X_55_0_0 else K0 (T_55_0 p0 (IntKind.wrap IntKind.i64 (p1 + (1 : Int)))))) else K1 (Ex.exit (0 : Nat)) X_55_0_1 := by kernel_rfl
theorem Bgd_55_0 {R : Type} {c : Bool} {x : Option R} {y : Option Sp.E_55_0} {k0 : Option R} {k1 : Option R} (h : x = Sp.B_55_0 y k0 k1) : gd c x = Sp.B_55_0 (gd c y) k0 k1 := by cases c; rfl; exact h
theorem Bcond_55_0 {R : Type} {c : Bool} {x x' : Option R} {y y' : Option Sp.E_55_0} {k0 : Option R} {k1 : Option R} (h : x = Sp.B_55_0 y k0 k1) (h' : x' = Sp.B_55_0 y' k0 k1) : (bif c then x else x') = Sp.B_55_0 (bif c then y else y') k0 k1 := by cases c; exact h'; exact h
theorem loop_55_0 {R : Type} (k : Ex → St → Option R) : ∀ (m : Nat) (p0 : List Int) (p1 : Int), evLoopN (evCodeL sm_55 FU (ovr noO (evFn sm_55 fns FU 0)) .nil ir55_b0) (St.norm ir55_v0) m (T_55_0 p0 p1) k = Sp.B_55_0 (Sp.L_55_0 m p0 p1) (k Ex.ret (X_55_0_0)) (k (Ex.exit (0 : Nat)) (X_55_0_1))
  | 0, _, _ => rfl
  | m + 1, p0, p1 => by
    rw [evLoopN_succ, body_55_0, Sp.L_55_0]
    repeat' first | apply Bgd_55_0 | apply Bcond_55_0 | exact loop_55_0 k m _ _ | rfl
theorem ok_55_0 {R : Type} (T : St) (k : Ex → St → Option R) (r : R) (h0 : o_55_0 G_55_0 T k = some r) : evLoopN (evCode sm_55 FU (evFn sm_55 fns FU 0) ir55_b0) (St.norm ir55_v0) FU T k = some r := by
  obtain ⟨p0, p1, rfl, h⟩ := o_55_0_inv h0
  refine evLoopN_L (t := .nil) noO_ok trivial _ _ _ _ ?_
  rw [loop_55_0]
  exact h
theorem OK_55_55_0 {R : Type} (T : St) (k : Ex → St → Option R) (r : R) (h : O_55_55_0 T k = some r) : evLoopN (evCode sm_55 FU (evFn sm_55 fns FU 0) ir55_b0) (St.norm ir55_v0) FU T k = some r := ok_55_0 T k r h
noncomputable def F_55 (a0 : (List Int)) : Option (Bool × Unit) :=
  Sp.B_55_0 (Sp.L_55_0 (4611686018427387904 : Nat) a0 (0 : Int)) (some (false, PUnit.unit)) (some (true, PUnit.unit))
theorem fn_55 (a0 : (List Int)) : evFnL sm_55 FU (ovr noO (evFn sm_55 fns FU 0)) (ir55_t O_55_55_0) ir55 (ofH [(.slice (.int .i64))] (a0, ())) [] (pureK [.bool]) = F_55 a0 := by kernel_rfl
noncomputable def Sp.p_55 (a0 : (List Int)) : Bool := (F_55 a0).isSome
noncomputable def Sp.v_55 (a0 : (List Int)) : Bool × Unit := (F_55 a0).getD (dfH [.bool])
noncomputable def s_55 : Summ := shN [(.slice (.int .i64))] [.bool] (fun x => Sp.p_55 x.1) (fun x => Sp.v_55 x.1)
theorem pv_55 (a0 : (List Int)) {y : Bool × Unit} (h : F_55 a0 = some y) : Sp.p_55 a0 = true ∧ Sp.v_55 a0 = y := ⟨by rw [Sp.p_55, h]; rfl, by rw [Sp.v_55, h]; rfl⟩
theorem run_55 (x : HDen [(.slice (.int .i64))]) (y : HDen [.bool]) (h : F_55 x.1 = some y) : evFn sm_55 fns FU 1 55 (ofH [(.slice (.int .i64))] x) [] (pureK [.bool]) = some y :=
  evFnL_sound (fn := ir55) (t := (ir55_t O_55_55_0)) (o := noO) rfl noO_ok (ir55_tok (fun T k r => OK_55_55_0 T k r)) ((fn_55 _).trans h)
end
end Go.Ev
namespace Go.Ev
open Go
set_option maxRecDepth 100000
set_option maxHeartbeats 4000000
set_option linter.unusedVariables false
noncomputable section

noncomputable def sm_56 : Nat → Option Summ := fun f => none


noncomputable def F_56 (a0 : (Int × (Int × (Int × (Int × (Int × ((List Int) × (Int × Unit)))))))) (a1 : Int) : Option (Bool × Unit) :=
  some (Sp.andI IntKind.i64 (a0.1) a1 != (0 : Int), PUnit.unit)
theorem fn_56 (a0 : (Int × (Int × (Int × (Int × (Int × ((List Int) × (Int × Unit)))))))) (a1 : Int) : evFnL sm_56 FU (ovr noO (evFn sm_56 fns FU 0)) .nil ir56 (ofH [(.pair (.int .i64) (.pair (.int .i64) (.pair (.int .i64) (.pair (.int .i64) (.pair (.int .i64) (.pair (.slice (.int .i64)) (.pair (.int .i64) .unit))))))), (.int .i64)] (a0, a1, ())) [] (pureK [.bool]) = F_56 a0 a1 := by kernel_rfl
noncomputable def Sp.p_56 (a0 : (Int × (Int × (Int × (Int × (Int × ((List Int) × (Int × Unit)))))))) (a1 : Int) : Bool := (F_56 a0 a1).isSome
noncomputable def Sp.v_56 (a0 : (Int × (Int × (Int × (Int × (Int × ((List Int) × (Int × Unit)))))))) (a1 : Int) : Bool × Unit := (F_56 a0 a1).getD (dfH [.bool])
noncomputable def s_56 : Summ := shN [(.pair (.int .i64) (.pair (.int .i64) (.pair (.int .i64) (.pair (.int .i64) (.pair (.int .i64) (.pair (.slice (.int .i64)) (.pair (.int .i64) .unit))))))), (.int .i64)] [.bool] (fun x => Sp.p_56 x.1 x.2.1) (fun x => Sp.v_56 x.1 x.2.1)
theorem pv_56 (a0 : (Int × (Int × (Int × (Int × (Int × ((List Int) × (Int × Unit)))))))) (a1 : Int) {y : Bool × Unit} (h : F_56 a0 a1 = some y) : Sp.p_56 a0 a1 = true ∧ Sp.v_56 a0 a1 = y := ⟨by rw [Sp.p_56, h]; rfl, by rw [Sp.v_56, h]; rfl⟩
theorem run_56 (x : HDen [(.pair (.int .i64) (.pair (.int .i64) (.pair (.int .i64) (.pair (.int .i64) (.pair (.int .i64) (.pair (.slice (.int .i64)) (.pair (.int .i64) .unit))))))), (.int .i64)]) (y : HDen [.bool]) (h : F_56 x.1 x.2.1 = some y) : evFn sm_56 fns FU 1 56 (ofH [(.pair (.int .i64) (.pair (.int .i64) (.pair (.int .i64) (.pair (.int .i64) (.pair (.int .i64) (.pair (.slice (.int .i64)) (.pair (.int .i64) .unit))))))), (.int .i64)] x) [] (pureK [.bool]) = some y :=
  evFnL_sound (fn := ir56) (t := .nil) (o := noO) rfl noO_ok trivial ((fn_56 _ _).trans h)
end
end Go.Ev
namespace Go.Ev
open Go
set_option maxRecDepth 100000
set_option maxHeartbeats 4000000
set_option linter.unusedVariables false
noncomputable section
abbrev Zt46_0 : Type := Int × Int × Int × Int × Int × List Int × Int × Unit
abbrev Zt46_1 : Type := Int × Int × Int × Int × Int × Int × Bool × Int × Unit
abbrev Zy46_2 : Ty := (Ty.pair (Ty.int IntKind.i64) (Ty.pair (Ty.int IntKind.i64) (Ty.pair (Ty.int IntKind.i64) (Ty.pair (Ty.int IntKind.i64) (Ty.pair (Ty.int IntKind.i64) (Ty.pair (Ty.int IntKind.i64) (Ty.pair Ty.bool (Ty.pair (Ty.int IntKind.i64) Ty.unit))))))))
abbrev Zy46_3 : Ty := (Ty.pair (Ty.int IntKind.i64) (Ty.pair (Ty.int IntKind.i64) (Ty.pair (Ty.int IntKind.i64) (Ty.pair (Ty.int IntKind.i64) (Ty.pair (Ty.int IntKind.i64) (Ty.pair (Ty.slice (Ty.int IntKind.i64)) (Ty.pair (Ty.int IntKind.i64) Ty.unit)))))))
abbrev Zy46_4 : Ty := (.pair (.int .i64) (.pair (.int .i64) (.pair (.int .i64) (.pair (.int .i64) (.pair (.int .i64) (.pair (.int .i64) (.pair .bool (.pair (.int .i64) .unit))))))))
abbrev Zy46_5 : Ty := (.pair (.int .i64) (.pair (.int .i64) (.pair (.int .i64) (.pair (.int .i64) (.pair (.int .i64) (.pair (.slice (.int .i64)) (.pair (.int .i64) .unit)))))))

noncomputable def sm_46 : Nat → Option Summ := fun f => bif Nat.beq f 45 then some s_45 else bif Nat.beq f 55 then some s_55 else bif Nat.beq f 56 then some s_56 else none
noncomputable def T_46_3 (p0 : Bool) (p1 : Zt46_1) (p2 : Zt46_0) : St := St.mk ([jk, jk, jk, CV.ptr (0 : Nat) [], CV.ptr (1 : Nat) [], jk, jk, CV.bool p0] ++ (jl 158)) [Blk.mem (CV.pure Zy46_2 p1), Blk.mem (CV.pure Zy46_3 p2)] (0 : Nat)
noncomputable def X_46_3_0 (p1 : Zt46_1) (p2 : Zt46_0) : St := St.mk (jl 6 ++ ([CV.bool ((↑(List.length (p2.2.2.2.2.2.1)) : Int) == p1.2.2.2.2.2.2.2.1)] ++ (jl 159))) [] (0 : Nat)
noncomputable def X_46_3_1 : St := St.mk (jl 6 ++ ([CV.bool false] ++ (jl 159))) [] (0 : Nat)
noncomputable def X_46_3_2 (p2 : Zt46_0) : St := St.mk (jl 6 ++ ([CV.bool ((↑(List.length (p2.2.2.2.2.2.1)) : Int) == (0 : Int))] ++ (jl 159))) [] (0 : Nat)
inductive Sp.E_46_3 where
  | e0 (p1 : Zt46_1) (p2 : Zt46_0)
  | e1
  | e2 (p2 : Zt46_0)
noncomputable def Sp.B_46_3 {R : Type} (r : Option Sp.E_46_3) (k0 : (Zt46_1) → (Zt46_0) → Option R) (k1 : Option R) (k2 : (Zt46_0) → Option R) : Option R := match r with
  | none => none
  | some (.e0 p1 p2) => k0 p1 p2
  | some (.e1) => k1
  | some (.e2 p2) => k2 p2
noncomputable def Sp.J_46_3 (p0 : Bool) (p1 : Int × Int × Int × Int × Int × Int × Bool × Int × Unit) (p2 : Int × Int × Int × Int × Int × List Int × Int × Unit) : Option Sp.E_46_3 :=
  bif p0 then bif decide (p2.2.2.2.2.1 ≥ (1 : Int)) then bif decide (p2.2.2.1 ≥ (1 : Int)) then bif decide (p2.2.2.2.2.2.2.1 ≥ (1 : Int)) then some (Sp.E_46_3.e0 p1 p2) else some (Sp.E_46_3.e1) else some (Sp.E_46_3.e1) else some (Sp.E_46_3.e1) else bif p2.2.2.1 == (0 : Int) then bif p2.2.2.2.1 == (0 : Int) then bif p2.2.2.2.2.1 == (0 : Int) then bif p2.2.2.2.2.2.2.1 == (0 : Int) then some (Sp.E_46_3.e2 p2) else some (Sp.E_46_3.e1) else some (Sp.E_46_3.e1) else some (Sp.E_46_3.e1) else some (Sp.E_46_3.e1)
noncomputable def G_46_3 {R : Type} (p0 : Bool) (p1 : Zt46_1) (p2 : Zt46_0) (k : Ex → St → Option R) : Option R := Sp.B_46_3 (Sp.J_46_3 p0 p1 p2) (fun p1 p2 => k Ex.ret (X_46_3_0 p1 p2)) (k Ex.ret (X_46_3_1)) (fun p2 => k Ex.ret (X_46_3_2 p2))
noncomputable def o_46_3 {R : Type} (G : (Bool) → (Zt46_1) → (Zt46_0) → (Ex → St → Option R) → Option R) : St → (Ex → St → Option R) → Option R := fun T k => match T.sl.getD 3 .junk, T.sl.getD 4 .junk, T.sl.getD 7 .junk, T.hp with
  | CV.ptr (0 : Nat) [], CV.ptr (1 : Nat) [], CV.bool p0, ((Blk.mem (CV.pure (Ty.pair (Ty.int IntKind.i64) (Ty.pair (Ty.int IntKind.i64) (Ty.pair (Ty.int IntKind.i64) (Ty.pair (Ty.int IntKind.i64) (Ty.pair (Ty.int IntKind.i64) (Ty.pair (Ty.int IntKind.i64) (Ty.pair Ty.bool (Ty.pair (Ty.int IntKind.i64) Ty.unit)))))))) p1)) :: (Blk.mem (CV.pure (Ty.pair (Ty.int IntKind.i64) (Ty.pair (Ty.int IntKind.i64) (Ty.pair (Ty.int IntKind.i64) (Ty.pair (Ty.int IntKind.i64) (Ty.pair (Ty.int IntKind.i64) (Ty.pair (Ty.slice (Ty.int IntKind.i64)) (Ty.pair (Ty.int IntKind.i64) Ty.unit))))))) p2)) :: []) => gd (shapeOK T 166 [3, 4, 7] (0 : Nat)) (G p0 p1 p2 k)
  | _, _, _, _ => none
theorem o_46_3_inv {R : Type} {G : (Bool) → (Zt46_1) → (Zt46_0) → (Ex → St → Option R) → Option R} {T : St} {k : Ex → St → Option R} {r : R} (h : o_46_3 G T k = some r) : ∃ p0 p1 p2, T = T_46_3 p0 p1 p2 ∧ G p0 p1 p2 k = some r := by
  unfold o_46_3 at h
  split at h
  · obtain ⟨hs, h'⟩ := gd_some h
    refine ⟨_, _, _, (st_of (asg := [(3, _), (4, _), (7, _)]) hs ⟨by assumption, by assumption, by assumption, trivial⟩ (by assumption)).trans ?_, h'⟩
    kernel_rfl
  · cases h
noncomputable def T_46_2 (p0 : Bool) (p1 : Zt46_1) (p2 : Zt46_0) : St := St.mk ([jk, jk, jk, CV.ptr (0 : Nat) [], CV.ptr (1 : Nat) [], jk, jk, CV.bool p0] ++ (jl 158)) [Blk.mem (CV.pure Zy46_2 p1), Blk.mem (CV.pure Zy46_3 p2)] (0 : Nat)
noncomputable def X_46_2_0 : St := St.mk (jl 6 ++ ([CV.bool false] ++ (jl 159))) [] (0 : Nat)
noncomputable def X_46_2_1 (y6 : Zt46_1) (y7 : Zt46_0) : St := St.mk (jl 6 ++ ([CV.bool ((↑(List.length (y7.2.2.2.2.2.1)) : Int) == y6.2.2.2.2.2.2.2.1)] ++ (jl 159))) [] (0 : Nat)
noncomputable def X_46_2_2 (y8 : Zt46_0) : St := St.mk (jl 6 ++ ([CV.bool ((↑(List.length (y8.2.2.2.2.2.1)) : Int) == (0 : Int))] ++ (jl 159))) [] (0 : Nat)
inductive Sp.E_46_2 where
  | e0
  | e1 (y6 : Zt46_1) (y7 : Zt46_0)
  | e2 (y8 : Zt46_0)
noncomputable def Sp.B_46_2 {R : Type} (r : Option Sp.E_46_2) (k0 : Option R) (k1 : (Zt46_1) → (Zt46_0) → Option R) (k2 : (Zt46_0) → Option R) : Option R := match r with
  | none => none
  | some (.e0) => k0
  | some (.e1 y6 y7) => k1 y6 y7
  | some (.e2 y8) => k2 y8
noncomputable def Sp.J_46_2 (p0 : Bool) (p1 : Int × Int × Int × Int × Int × Int × Bool × Int × Unit) (p2 : Int × Int × Int × Int × Int × List Int × Int × Unit) : Option Sp.E_46_2 :=
  gd (Sp.p_56 p2 (2 : Int)) (bif (Sp.v_56 p2 (2 : Int)).1 then bif p2.2.2.2.1 != (0 : Int) then some (Sp.E_46_2.e0) else Sp.B_46_3 (Sp.J_46_3 p0 p1 p2) (fun y6 y7 => some (Sp.E_46_2.e1 y6 y7)) (some (Sp.E_46_2.e0)) fun y8 => some (Sp.E_46_2.e2 y8) else Sp.B_46_3 (Sp.J_46_3 p0 p1 p2) (fun y9 y10 => some (Sp.E_46_2.e1 y9 y10)) (some (Sp.E_46_2.e0)) fun y11 => some (Sp.E_46_2.e2 y11))
noncomputable def G_46_2 {R : Type} (p0 : Bool) (p1 : Zt46_1) (p2 : Zt46_0) (k : Ex → St → Option R) : Option R := Sp.B_46_2 (Sp.J_46_2 p0 p1 p2) (k Ex.ret (X_46_2_0)) (fun y6 y7 => k Ex.ret (X_46_2_1 y6 y7)) (fun y8 => k Ex.ret (X_46_2_2 y8))
noncomputable def o_46_2 {R : Type} (G : (Bool) → (Zt46_1) → (Zt46_0) → (Ex → St → Option R) → Option R) : St → (Ex → St → Option R) → Option R := fun T k => match T.sl.getD 3 .junk, T.sl.getD 4 .junk, T.sl.getD 7 .junk, T.hp with
  | CV.ptr (0 : Nat) [], CV.ptr (1 : Nat) [], CV.bool p0, ((Blk.mem (CV.pure (Ty.pair (Ty.int IntKind.i64) (Ty.pair (Ty.int IntKind.i64) (Ty.pair (Ty.int IntKind.i64) (Ty.pair (Ty.int IntKind.i64) (Ty.pair (Ty.int IntKind.i64) (Ty.pair (Ty.int IntKind.i64) (Ty.pair Ty.bool (Ty.pair (Ty.int IntKind.i64) Ty.unit)))))))) p1)) :: (Blk.mem (CV.pure (Ty.pair (Ty.int IntKind.i64) (Ty.pair (Ty.int IntKind.i64) (Ty.pair (Ty.int IntKind.i64) (Ty.pair (Ty.int IntKind.i64) (Ty.pair (Ty.int IntKind.i64) (Ty.pair (Ty.slice (Ty.int IntKind.i64)) (Ty.pair (Ty.int IntKind.i64) Ty.unit))))))) p2)) :: []) => gd (shapeOK T 166 [3, 4, 7] (0 : Nat)) (G p0 p1 p2 k)
  | _, _, _, _ => none
theorem o_46_2_inv {R : Type} {G : (Bool) → (Zt46_1) → (Zt46_0) → (Ex → St → Option R) → Option R} {T : St} {k : Ex → St → Option R} {r : R} (h : o_46_2 G T k = some r) : ∃ p0 p1 p2, T = T_46_2 p0 p1 p2 ∧ G p0 p1 p2 k = some r := by
  unfold o_46_2 at h
  split at h
  · obtain ⟨hs, h'⟩ := gd_some h
    refine ⟨_, _, _, (st_of (asg := [(3, _), (4, _), (7, _)]) hs ⟨by assumption, by assumption, by assumption, trivial⟩ (by assumption)).trans ?_, h'⟩
    kernel_rfl
  · cases h
noncomputable def T_46_1 (p0 : Bool) (p1 : Zt46_1) (p2 : Zt46_0) : St := St.mk ([jk, jk, jk, CV.ptr (0 : Nat) [], CV.ptr (1 : Nat) [], jk, jk, CV.bool p0] ++ (jl 158)) [Blk.mem (CV.pure Zy46_2 p1), Blk.mem (CV.pure Zy46_3 p2)] (0 : Nat)
noncomputable def X_46_1_0 : St := St.mk (jl 6 ++ ([CV.bool false] ++ (jl 159))) [] (0 : Nat)
noncomputable def X_46_1_1 (y6 : Zt46_1) (y7 : Zt46_0) : St := St.mk (jl 6 ++ ([CV.bool ((↑(List.length (y7.2.2.2.2.2.1)) : Int) == y6.2.2.2.2.2.2.2.1)] ++ (jl 159))) [] (0 : Nat)
noncomputable def X_46_1_2 (y8 : Zt46_0) : St := St.mk (jl 6 ++ ([CV.bool ((↑(List.length (y8.2.2.2.2.2.1)) : Int) == (0 : Int))] ++ (jl 159))) [] (0 : Nat)
inductive Sp.E_46_1 where
  | e0
  | e1 (y6 : Zt46_1) (y7 : Zt46_0)
  | e2 (y8 : Zt46_0)
noncomputable def Sp.B_46_1 {R : Type} (r : Option Sp.E_46_1) (k0 : Option R) (k1 : (Zt46_1) → (Zt46_0) → Option R) (k2 : (Zt46_0) → Option R) : Option R := match r with
  | none => none
  | some (.e0) => k0
  | some (.e1 y6 y7) => k1 y6 y7
  | some (.e2 y8) => k2 y8
noncomputable def Sp.J_46_1 (p0 : Bool) (p1 : Int × Int × Int × Int × Int × Int × Bool × Int × Unit) (p2 : Int × Int × Int × Int × Int × List Int × Int × Unit) : Option Sp.E_46_1 :=
  gd (Sp.p_56 p2 (4 : Int)) (bif !(Sp.v_56 p2 (4 : Int)).1 == (p2.2.2.1 == (2 : Int)) then some (Sp.E_46_1.e0) else gd (Sp.p_56 p2 (16 : Int)) (bif (Sp.v_56 p2 (16 : Int)).1 then gd (Sp.p_56 p2 (4 : Int)) (bif (Sp.v_56 p2 (4 : Int)).1 then bif !p1.2.2.2.2.2.2.1 then some (Sp.E_46_1.e0) else Sp.B_46_2 (Sp.J_46_2 p0 p1 p2) (some (Sp.E_46_1.e0)) (fun y6 y7 => some (Sp.E_46_1.e1 y6 y7)) fun y8 => some (Sp.E_46_1.e2 y8) else some (Sp.E_46_1.e0)) else Sp.B_46_2 (Sp.J_46_2 p0 p1 p2) (some (Sp.E_46_1.e0)) (fun y9 y10 => some (Sp.E_46_1.e1 y9 y10)) fun y11 => some (Sp.E_46_1.e2 y11)))
noncomputable def G_46_1 {R : Type} (p0 : Bool) (p1 : Zt46_1) (p2 : Zt46_0) (k : Ex → St → Option R) : Option R := Sp.B_46_1 (Sp.J_46_1 p0 p1 p2) (k Ex.ret (X_46_1_0)) (fun y6 y7 => k Ex.ret (X_46_1_1 y6 y7)) (fun y8 => k Ex.ret (X_46_1_2 y8))
noncomputable def o_46_1 {R : Type} (G : (Bool) → (Zt46_1) → (Zt46_0) → (Ex → St → Option R) → Option R) : St → (Ex → St → Option R) → Option R := fun T k => match T.sl.getD 3 .junk, T.sl.getD 4 .junk, T.sl.getD 7 .junk, T.hp with
  | CV.ptr (0 : Nat) [], CV.ptr (1 : Nat) [], CV.bool p0, ((Blk.mem (CV.pure (Ty.pair (Ty.int IntKind.i64) (Ty.pair (Ty.int IntKind.i64) (Ty.pair (Ty.int IntKind.i64) (Ty.pair (Ty.int IntKind.i64) (Ty.pair (Ty.int IntKind.i64) (Ty.pair (Ty.int IntKind.i64) (Ty.pair Ty.bool (Ty.pair (Ty.int IntKind.i64) Ty.unit)))))))) p1)) :: (Blk.mem (CV.pure (Ty.pair (Ty.int IntKind.i64) (Ty.pair (Ty.int IntKind.i64) (Ty.pair (Ty.int IntKind.i64) (Ty.pair (Ty.int IntKind.i64) (Ty.pair (Ty.int IntKind.i64) (Ty.pair (Ty.slice (Ty.int IntKind.i64)) (Ty.pair (Ty.int IntKind.i64) Ty.unit))))))) p2)) :: []) => gd (shapeOK T 166 [3, 4, 7] (0 : Nat)) (G p0 p1 p2 k)
  | _, _, _, _ => none
theorem o_46_1_inv {R : Type} {G : (Bool) → (Zt46_1) → (Zt46_0) → (Ex → St → Option R) → Option R} {T : St} {k : Ex → St → Option R} {r : R} (h : o_46_1 G T k = some r) : ∃ p0 p1 p2, T = T_46_1 p0 p1 p2 ∧ G p0 p1 p2 k = some r := by
  unfold o_46_1 at h
  split at h
  · obtain ⟨hs, h'⟩ := gd_some h
    refine ⟨_, _, _, (st_of (asg := [(3, _), (4, _), (7, _)]) hs ⟨by assumption, by assumption, by assumption, trivial⟩ (by assumption)).trans ?_, h'⟩
    kernel_rfl
  · cases h
noncomputable def T_46_0 (p0 : Int) (p1 : Bool) (p2 : Zt46_1) (p3 : Zt46_0) : St := St.mk ([jk, jk, CV.int IntKind.i64 p0, CV.ptr (0 : Nat) [], CV.ptr (1 : Nat) [], jk, jk, CV.bool p1] ++ (jl 158)) [Blk.mem (CV.pure Zy46_2 p2), Blk.mem (CV.pure Zy46_3 p3)] (0 : Nat)
noncomputable def X_46_0_0 : St := St.mk (jl 6 ++ ([CV.bool false] ++ (jl 159))) [] (0 : Nat)
noncomputable def X_46_0_1 (y6 : Zt46_1) (y7 : Zt46_0) : St := St.mk (jl 6 ++ ([CV.bool ((↑(List.length (y7.2.2.2.2.2.1)) : Int) == y6.2.2.2.2.2.2.2.1)] ++ (jl 159))) [] (0 : Nat)
noncomputable def X_46_0_2 (y8 : Zt46_0) : St := St.mk (jl 6 ++ ([CV.bool ((↑(List.length (y8.2.2.2.2.2.1)) : Int) == (0 : Int))] ++ (jl 159))) [] (0 : Nat)
inductive Sp.E_46_0 where
  | e0
  | e1 (y6 : Zt46_1) (y7 : Zt46_0)
  | e2 (y8 : Zt46_0)
noncomputable def Sp.B_46_0 {R : Type} (r : Option Sp.E_46_0) (k0 : Option R) (k1 : (Zt46_1) → (Zt46_0) → Option R) (k2 : (Zt46_0) → Option R) : Option R := match r with
  | none => none
  | some (.e0) => k0
  | some (.e1 y6 y7) => k1 y6 y7
  | some (.e2 y8) => k2 y8
noncomputable def Sp.J_46_0 (p0 : Int) (p1 : Bool) (p2 : Int × Int × Int × Int × Int × Int × Bool × Int × Unit) (p3 : Int × Int × Int × Int × Int × List Int × Int × Unit) : Option Sp.E_46_0 :=
  gd (Sp.p_56 p3 (1 : Int)) (bif (Sp.v_56 p3 (1 : Int)).1 then gd (Sp.p_56 p3 (2 : Int)) (bif (Sp.v_56 p3 (2 : Int)).1 then gd (Sp.p_56 p3 (8 : Int)) (bif (Sp.v_56 p3 (8 : Int)).1 then bif !p3.2.2.2.2.2.2.1 == p0 then some (Sp.E_46_0.e0) else Sp.B_46_1 (Sp.J_46_1 p1 p2 p3) (some (Sp.E_46_0.e0)) (fun y6 y7 => some (Sp.E_46_0.e1 y6 y7)) fun y8 => some (Sp.E_46_0.e2 y8) else some (Sp.E_46_0.e0)) else some (Sp.E_46_0.e0)) else Sp.B_46_1 (Sp.J_46_1 p1 p2 p3) (some (Sp.E_46_0.e0)) (fun y9 y10 => some (Sp.E_46_0.e1 y9 y10)) fun y11 => some (Sp.E_46_0.e2 y11))
noncomputable def G_46_0 {R : Type} (p0 : Int) (p1 : Bool) (p2 : Zt46_1) (p3 : Zt46_0) (k : Ex → St → Option R) : Option R := Sp.B_46_0 (Sp.J_46_0 p0 p1 p2 p3) (k Ex.ret (X_46_0_0)) (fun y6 y7 => k Ex.ret (X_46_0_1 y6 y7)) (fun y8 => k Ex.ret (X_46_0_2 y8))
noncomputable def o_46_0 {R : Type} (G : (Int) → (Bool) → (Zt46_1) → (Zt46_0) → (Ex → St → Option R) → Option R) : St → (Ex → St → Option R) → Option R := fun T k => match T.sl.getD 2 .junk, T.sl.getD 3 .junk, T.sl.getD 4 .junk, T.sl.getD 7 .junk, T.hp with
  | CV.int IntKind.i64 p0, CV.ptr (0 : Nat) [], CV.ptr (1 : Nat) [], CV.bool p1, ((Blk.mem (CV.pure (Ty.pair (Ty.int IntKind.i64) (Ty.pair (Ty.int IntKind.i64) (Ty.pair (Ty.int IntKind.i64) (Ty.pair (Ty.int IntKind.i64) (Ty.pair (Ty.int IntKind.i64) (Ty.pair (Ty.int IntKind.i64) (Ty.pair Ty.bool (Ty.pair (Ty.int IntKind.i64) Ty.unit)))))))) p2)) :: (Blk.mem (CV.pure (Ty.pair (Ty.int IntKind.i64) (Ty.pair (Ty.int IntKind.i64) (Ty.pair (Ty.int IntKind.i64) (Ty.pair (Ty.int IntKind.i64) (Ty.pair (Ty.int IntKind.i64) (Ty.pair (Ty.slice (Ty.int IntKind.i64)) (Ty.pair (Ty.int IntKind.i64) Ty.unit))))))) p3)) :: []) => gd (shapeOK T 166 [2, 3, 4, 7] (0 : Nat)) (G p0 p1 p2 p3 k)
  | _, _, _, _, _ => none
theorem o_46_0_inv {R : Type} {G : (Int) → (Bool) → (Zt46_1) → (Zt46_0) → (Ex → St → Option R) → Option R} {T : St} {k : Ex → St → Option R} {r : R} (h : o_46_0 G T k = some r) : ∃ p0 p1 p2 p3, T = T_46_0 p0 p1 p2 p3 ∧ G p0 p1 p2 p3 k = some r := by
  unfold o_46_0 at h
  split at h
  · obtain ⟨hs, h'⟩ := gd_some h
    refine ⟨_, _, _, _, (st_of (asg := [(2, _), (3, _), (4, _), (7, _)]) hs ⟨by assumption, by assumption, by assumption, by assumption, trivial⟩ (by assumption)).trans ?_, h'⟩
    kernel_rfl
  · cases h
noncomputable def O_46_46_3 {R : Type} : St → (Ex → St → Option R) → Option R := fun T k => o_46_3 G_46_3 T k
noncomputable def O_46_46_2 {R : Type} : St → (Ex → St → Option R) → Option R := fun T k => o_46_2 G_46_2 T k
noncomputable def O_46_46_1 {R : Type} : St → (Ex → St → Option R) → Option R := fun T k => o_46_1 G_46_1 T k
noncomputable def O_46_46_0 {R : Type} : St → (Ex → St → Option R) → Option R := fun T k => o_46_0 G_46_0 T k
theorem body_46_3 {R : Type} (K1 : Ex → St → Option R) (p0 : Bool) (p1 : Zt46_1) (p2 : Zt46_0) : evJ (evCodeL sm_46 FU (ovr noO (evFn sm_46 fns FU 0)) .nil ir46_b3) (T_46_3 p0 p1 p2) K1 =
  bif p0 then bif decide (p2.2.2.2.2.1 ≥ (1 : Int)) then bif decide (p2.2.2.1 ≥ (1 : Int)) then bif decide (p2.2.2.2.2.2.2.1 ≥ (1 : Int)) then K1 Ex.ret (X_46_3_0 p1 p2) else K1 Ex.ret X_46_3_1 else K1 Ex.ret X_46_3_1 else K1 Ex.ret X_46_3_1 else bif p2.2.2.1 == (0 : Int) then bif p2.2.2.2.1 == (0 : Int) then bif p2.2.2.2.2.1 == (0 : Int) then bif p2.2.2.2.2.2.2.1 == (0 : Int) then K1 Ex.ret (X_46_3_2 p2) else K1 Ex.ret X_46_3_1 else K1 Ex.ret X_46_3_1 else K1 Ex.ret X_46_3_1 else K1 Ex.ret X_46_3_1 := by kernel_rfl
theorem Bgd_46_3 {R : Type} {c : Bool} {x : Option R} {y : Option Sp.E_46_3} {k0 : (Zt46_1) → (Zt46_0) → Option R} {k1 : Option R} {k2 : (Zt46_0) → Option R} (h : x = Sp.B_46_3 y k0 k1 k2) : gd c x = Sp.B_46_3 (gd c y) k0 k1 k2 := by cases c; rfl; exact h
theorem Bcond_46_3 {R : Type} {c : Bool} {x x' : Option R} {y y' : Option Sp.E_46_3} {k0 : (Zt46_1) → (Zt46_0) → Option R} {k1 : Option R} {k2 : (Zt46_0) → Option R} (h : x = Sp.B_46_3 y k0 k1 k2) (h' : x' = Sp.B_46_3 y' k0 k1 k2) : (bif c then x else x') = Sp.B_46_3 (bif c then y else y') k0 k1 k2 := by cases c; exact h'; exact h
theorem loop_46_3 {R : Type} (k : Ex → St → Option R) (p0 : Bool) (p1 : Zt46_1) (p2 : Zt46_0) : evJ (evCodeL sm_46 FU (ovr noO (evFn sm_46 fns FU 0)) .nil ir46_b3) (T_46_3 p0 p1 p2) k = Sp.B_46_3 (Sp.J_46_3 p0 p1 p2) (fun p1 p2 => k Ex.ret (X_46_3_0 p1 p2)) (k Ex.ret (X_46_3_1)) (fun p2 => k Ex.ret (X_46_3_2 p2)) := by
  rw [body_46_3, Sp.J_46_3]
  repeat' first | apply Bgd_46_3 | apply Bcond_46_3 | rfl
theorem ok_46_3 {R : Type} (T : St) (k : Ex → St → Option R) (r : R) (h0 : o_46_3 G_46_3 T k = some r) : evCode sm_46 FU (evFn sm_46 fns FU 0) ir46_b3 T k = some r := by
  obtain ⟨p0, p1, p2, rfl, h⟩ := o_46_3_inv h0
  refine bodyL_sound (t := .nil) noO_ok trivial (((show ∀ (b : St → (Ex → St → Option R) → Option R) (T : St) (k : Ex → St → Option R), b T k = evJ b T k from fun _ _ _ => rfl) _ _ _).trans ((loop_46_3 k p0 p1 p2).trans h))
theorem OK_46_46_3 {R : Type} (T : St) (k : Ex → St → Option R) (r : R) (h : O_46_46_3 T k = some r) : evCode sm_46 FU (evFn sm_46 fns FU 0) ir46_b3 T k = some r := ok_46_3 T k r h
theorem body_46_2 {R : Type} (K1 : Ex → St → Option R) (p0 : Bool) (p1 : Zt46_1) (p2 : Zt46_0) : evJ (evCodeL sm_46 FU (ovr noO (evFn sm_46 fns FU 0)) (ir46_bt2 O_46_46_3) ir46_b2) (T_46_2 p0 p1 p2) K1 =
  gd (Sp.p_56 p2 (2 : Int)) (bif (Sp.v_56 p2 (2 : Int)).1 then bif p2.2.2.2.1 != (0 : Int) then K1 Ex.ret X_46_2_0 else Sp.B_46_3 (Sp.J_46_3 p0 p1 p2) (fun y6 y7 => K1 Ex.ret (X_46_2_1 y6 y7)) (K1 Ex.ret X_46_2_0) fun y8 => K1 Ex.ret (X_46_2_2 y8) else Sp.B_46_3 (Sp.J_46_3 p0 p1 p2) (fun y9 y10 => K1 Ex.ret (X_46_2_1 y9 y10)) (K1 Ex.ret X_46_2_0) fun y11 => K1 Ex.ret (X_46_2_2 y11)) := by kernel_rfl
theorem Bgd_46_2 {R : Type} {c : Bool} {x : Option R} {y : Option Sp.E_46_2} {k0 : Option R} {k1 : (Zt46_1) → (Zt46_0) → Option R} {k2 : (Zt46_0) → Option R} (h : x = Sp.B_46_2 y k0 k1 k2) : gd c x = Sp.B_46_2 (gd c y) k0 k1 k2 := by cases c; rfl; exact h
theorem Bcond_46_2 {R : Type} {c : Bool} {x x' : Option R} {y y' : Option Sp.E_46_2} {k0 : Option R} {k1 : (Zt46_1) → (Zt46_0) → Option R} {k2 : (Zt46_0) → Option R} (h : x = Sp.B_46_2 y k0 k1 k2) (h' : x' = Sp.B_46_2 y' k0 k1 k2) : (bif c then x else x') = Sp.B_46_2 (bif c then y else y') k0 k1 k2 := by cases c; exact h'; exact h
theorem Bin_46_2_46_3 {R : Type} {r : Option Sp.E_46_3} {k0 : Option R} {k1 : (Zt46_1) → (Zt46_0) → Option R} {k2 : (Zt46_0) → Option R} {f0 : (Zt46_1) → (Zt46_0) → Option R} {f1 : Option R} {f2 : (Zt46_0) → Option R} {g0 : (Zt46_1) → (Zt46_0) → Option Sp.E_46_2} {g1 : Option Sp.E_46_2} {g2 : (Zt46_0) → Option Sp.E_46_2} (h0 : ∀ z0 z1, f0 z0 z1 = Sp.B_46_2 (g0 z0 z1) k0 k1 k2) (h1 : f1 = Sp.B_46_2 g1 k0 k1 k2) (h2 : ∀ z0, f2 z0 = Sp.B_46_2 (g2 z0) k0 k1 k2) : Sp.B_46_3 r f0 f1 f2 = Sp.B_46_2 (Sp.B_46_3 r g0 g1 g2) k0 k1 k2 := by
  cases r with
  | none => rfl
  | some e => cases e with
    | e0 z0 z1 => exact h0 _ _
    | e1 => exact h1
    | e2 z0 => exact h2 _
theorem loop_46_2 {R : Type} (k : Ex → St → Option R) (p0 : Bool) (p1 : Zt46_1) (p2 : Zt46_0) : evJ (evCodeL sm_46 FU (ovr noO (evFn sm_46 fns FU 0)) (ir46_bt2 O_46_46_3) ir46_b2) (T_46_2 p0 p1 p2) k = Sp.B_46_2 (Sp.J_46_2 p0 p1 p2) (k Ex.ret (X_46_2_0)) (fun y6 y7 => k Ex.ret (X_46_2_1 y6 y7)) (fun y8 => k Ex.ret (X_46_2_2 y8)) := by
  rw [body_46_2, Sp.J_46_2]
  repeat' first | apply Bgd_46_2 | apply Bcond_46_2 | (apply Bin_46_2_46_3 <;> intros) | rfl
theorem ok_46_2 {R : Type} (T : St) (k : Ex → St → Option R) (r : R) (h0 : o_46_2 G_46_2 T k = some r) : evCode sm_46 FU (evFn sm_46 fns FU 0) ir46_b2 T k = some r := by
  obtain ⟨p0, p1, p2, rfl, h⟩ := o_46_2_inv h0
  refine bodyL_sound (t := (ir46_bt2 O_46_46_3)) noO_ok (ir46_bt2ok (fun T k r => OK_46_46_3 T k r)) (((show ∀ (b : St → (Ex → St → Option R) → Option R) (T : St) (k : Ex → St → Option R), b T k = evJ b T k from fun _ _ _ => rfl) _ _ _).trans ((loop_46_2 k p0 p1 p2).trans h))
theorem OK_46_46_2 {R : Type} (T : St) (k : Ex → St → Option R) (r : R) (h : O_46_46_2 T k = some r) : evCode sm_46 FU (evFn sm_46 fns FU 0) ir46_b2 T k = some r := ok_46_2 T k r h
theorem body_46_1 {R : Type} (K1 : Ex → St → Option R) (p0 : Bool) (p1 : Zt46_1) (p2 : Zt46_0) : evJ (evCodeL sm_46 FU (ovr noO (evFn sm_46 fns FU 0)) (ir46_bt1 O_46_46_2) ir46_b1) (T_46_1 p0 p1 p2) K1 =
  gd (Sp.p_56 p2 (4 : Int)) (bif !(Sp.v_56 p2 (4 : Int)).1 == (p2.2.2.1 == (2 : Int)) then K1 Ex.ret X_46_1_0 else gd (Sp.p_56 p2 (16 : Int)) (bif (Sp.v_56 p2 (16 : Int)).1 then gd (Sp.p_56 p2 (4 : Int)) (bif (Sp.v_56 p2 (4 : Int)).1 then bif !p1.2.2.2.2.2.2.1 then K1 Ex.ret X_46_1_0 else Sp.B_46_2 (Sp.J_46_2 p0 p1 p2) (K1 Ex.ret X_46_1_0) (fun y6 y7 => K1 Ex.ret (X_46_1_1 y6 y7)) fun y8 => K1 Ex.ret (X_46_1_2 y8) else K1 Ex.ret X_46_1_0) else Sp.B_46_2 (Sp.J_46_2 p0 p1 p2) (K1 Ex.ret X_46_1_0) (fun y9 y10 => K1 Ex.ret (X_46_1_1 y9 y10)) fun y11 => K1 Ex.ret (X_46_1_2 y11))) := by kernel_rfl
theorem Bgd_46_1 {R : Type} {c : Bool} {x : Option R} {y : Option Sp.E_46_1} {k0 : Option R} {k1 : (Zt46_1) → (Zt46_0) → Option R} {k2 : (Zt46_0) → Option R} (h : x = Sp.B_46_1 y k0 k1 k2) : gd c x = Sp.B_46_1 (gd c y) k0 k1 k2 := by cases c; rfl; exact h
theorem Bcond_46_1 {R : Type} {c : Bool} {x x' : Option R} {y y' : Option Sp.E_46_1} {k0 : Option R} {k1 : (Zt46_1) → (Zt46_0) → Option R} {k2 : (Zt46_0) → Option R} (h : x = Sp.B_46_1 y k0 k1 k2) (h' : x' = Sp.B_46_1 y' k0 k1 k2) : (bif c then x else x') = Sp.B_46_1 (bif c then y else y') k0 k1 k2 := by cases c; exact h'; exact h
theorem Bin_46_1_46_2 {R : Type} {r : Option Sp.E_46_2} {k0 : Option R} {k1 : (Zt46_1) → (Zt46_0) → Option R} {k2 : (Zt46_0) → Option R} {f0 : Option R} {f1 : (Zt46_1) → (Zt46_0) → Option R} {f2 : (Zt46_0) → Option R} {g0 : Option Sp.E_46_1} {g1 : (Zt46_1) → (Zt46_0) → Option Sp.E_46_1} {g2 : (Zt46_0) → Option Sp.E_46_1} (h0 : f0 = Sp.B_46_1 g0 k0 k1 k2) (h1 : ∀ z0 z1, f1 z0 z1 = Sp.B_46_1 (g1 z0 z1) k0 k1 k2) (h2 : ∀ z0, f2 z0 = Sp.B_46_1 (g2 z0) k0 k1 k2) : Sp.B_46_2 r f0 f1 f2 = Sp.B_46_1 (Sp.B_46_2 r g0 g1 g2) k0 k1 k2 := by
  cases r with
  | none => rfl
  | some e => cases e with
    | e0 => exact h0
    | e1 z0 z1 => exact h1 _ _
    | e2 z0 => exact h2 _
theorem loop_46_1 {R : Type} (k : Ex → St → Option R) (p0 : Bool) (p1 : Zt46_1) (p2 : Zt46_0) : evJ (evCodeL sm_46 FU (ovr noO (evFn sm_46 fns FU 0)) (ir46_bt1 O_46_46_2) ir46_b1) (T_46_1 p0 p1 p2) k = Sp.B_46_1 (Sp.J_46_1 p0 p1 p2) (k Ex.ret (X_46_1_0)) (fun y6 y7 => k Ex.ret (X_46_1_1 y6 y7)) (fun y8 => k Ex.ret (X_46_1_2 y8)) := by
  rw [body_46_1, Sp.J_46_1]
  repeat' first | apply Bgd_46_1 | apply Bcond_46_1 | (apply Bin_46_1_46_2 <;> intros) | rfl
theorem ok_46_1 {R : Type} (T : St) (k : Ex → St → Option R) (r : R) (h0 : o_46_1 G_46_1 T k = some r) : evCode sm_46 FU (evFn sm_46 fns FU 0) ir46_b1 T k = some r := by
  obtain ⟨p0, p1, p2, rfl, h⟩ := o_46_1_inv h0
  refine bodyL_sound (t := (ir46_bt1 O_46_46_2)) noO_ok (ir46_bt1ok (fun T k r => OK_46_46_2 T k r)) (((show ∀ (b : St → (Ex → St → Option R) → Option R) (T : St) (k : Ex → St → Option R), b T k = evJ b T k from fun _ _ _ => rfl) _ _ _).trans ((loop_46_1 k p0 p1 p2).trans h))
theorem OK_46_46_1 {R : Type} (T : St) (k : Ex → St → Option R) (r : R) (h : O_46_46_1 T k = some r) : evCode sm_46 FU (evFn sm_46 fns FU 0) ir46_b1 T k = some r := ok_46_1 T k r h
theorem body_46_0 {R : Type} (K1 : Ex → St → Option R) (p0 : Int) (p1 : Bool) (p2 : Zt46_1) (p3 : Zt46_0) : evJ (evCodeL sm_46 FU (ovr noO (evFn sm_46 fns FU 0)) (ir46_bt0 O_46_46_1) ir46_b0) (T_46_0 p0 p1 p2 p3) K1 =
  gd (Sp.p_56 p3 (1 : Int)) (bif (Sp.v_56 p3 (1 : Int)).1 then gd (Sp.p_56 p3 (2 : Int)) (bif (Sp.v_56 p3 (2 : Int)).1 then gd (Sp.p_56 p3 (8 : Int)) (bif (Sp.v_56 p3 (8 : Int)).1 then bif !p3.2.2.2.2.2.2.1 == p0 then K1 Ex.ret X_46_0_0 else Sp.B_46_1 (Sp.J_46_1 p1 p2 p3) (K1 Ex.ret X_46_0_0) (fun y6 y7 => K1 Ex.ret (X_46_0_1 y6 y7)) fun y8 => K1 Ex.ret (X_46_0_2 y8) else K1 Ex.ret X_46_0_0) else K1 Ex.ret X_46_0_0) else Sp.B_46_1 (Sp.J_46_1 p1 p2 p3) (K1 Ex.ret X_46_0_0) (fun y9 y10 => K1 Ex.ret (X_46_0_1 y9 y10)) fun y11 => K1 Ex.ret (X_46_0_2 y11)) := by kernel_rfl
theorem Bgd_46_0 {R : Type} {c : Bool} {x : Option R} {y : Option Sp.E_46_0} {k0 : Option R} {k1 : (Zt46_1) → (Zt46_0) → Option R} {k2 : (Zt46_0) → Option R} (h : x = Sp.B_46_0 y k0 k1 k2) : gd c x = Sp.B_46_0 (gd c y) k0 k1 k2 := by cases c; rfl; exact h
theorem Bcond_46_0 {R : Type} {c : Bool} {x x' : Option R} {y y' : Option Sp.E_46_0} {k0 : Option R} {k1 : (Zt46_1) → (Zt46_0) → Option R} {k2 : (Zt46_0) → Option R} (h : x = Sp.B_46_0 y k0 k1 k2) (h' : x' = Sp.B_46_0 y' k0 k1 k2) : (bif c then x else x') = Sp.B_46_0 (bif c then y else y') k0 k1 k2 := by cases c; exact h'; exact h
theorem Bin_46_0_46_1 {R : Type} {r : Option Sp.E_46_1} {k0 : Option R} {k1 : (Zt46_1) → (Zt46_0) → Option R} {k2 : (Zt46_0) → Option R} {f0 : Option R} {f1 : (Zt46_1) → (Zt46_0) → Option R} {f2 : (Zt46_0) → Option R} {g0 : Option Sp.E_46_0} {g1 : (Zt46_1) → (Zt46_0) → Option Sp.E_46_0} {g2 : (Zt46_0) → Option Sp.E_46_0} (h0 : f0 = Sp.B_46_0 g0 k0 k1 k2) (h1 : ∀ z0 z1, f1 z0 z1 = Sp.B_46_0 (g1 z0 z1) k0 k1 k2) (h2 : ∀ z0, f2 z0 = Sp.B_46_0 (g2 z0) k0 k1 k2) : Sp.B_46_1 r f0 f1 f2 = Sp.B_46_0 (Sp.B_46_1 r g0 g1 g2) k0 k1 k2 := by
  cases r with
  | none => rfl
  | some e => cases e with
    | e0 => exact h0
    | e1 z0 z1 => exact h1 _ _
    | e2 z0 => exact h2 _
theorem loop_46_0 {R : Type} (k : Ex → St → Option R) (p0 : Int) (p1 : Bool) (p2 : Zt46_1) (p3 : Zt46_0) : evJ (evCodeL sm_46 FU (ovr noO (evFn sm_46 fns FU 0)) (ir46_bt0 O_46_46_1) ir46_b0) (T_46_0 p0 p1 p2 p3) k = Sp.B_46_0 (Sp.J_46_0 p0 p1 p2 p3) (k Ex.ret (X_46_0_0)) (fun y6 y7 => k Ex.ret (X_46_0_1 y6 y7)) (fun y8 => k Ex.ret (X_46_0_2 y8)) := by
  rw [body_46_0, Sp.J_46_0]
  repeat' first | apply Bgd_46_0 | apply Bcond_46_0 | (apply Bin_46_0_46_1 <;> intros) | rfl
theorem ok_46_0 {R : Type} (T : St) (k : Ex → St → Option R) (r : R) (h0 : o_46_0 G_46_0 T k = some r) : evCode sm_46 FU (evFn sm_46 fns FU 0) ir46_b0 T k = some r := by
  obtain ⟨p0, p1, p2, p3, rfl, h⟩ := o_46_0_inv h0
  refine bodyL_sound (t := (ir46_bt0 O_46_46_1)) noO_ok (ir46_bt0ok (fun T k r => OK_46_46_1 T k r)) (((show ∀ (b : St → (Ex → St → Option R) → Option R) (T : St) (k : Ex → St → Option R), b T k = evJ b T k from fun _ _ _ => rfl) _ _ _).trans ((loop_46_0 k p0 p1 p2 p3).trans h))
theorem OK_46_46_0 {R : Type} (T : St) (k : Ex → St → Option R) (r : R) (h : O_46_46_0 T k = some r) : evCode sm_46 FU (evFn sm_46 fns FU 0) ir46_b0 T k = some r := ok_46_0 T k r h
noncomputable def F_46 (a0 : (Int × (Int × (Int × (Int × (Int × (Int × (Bool × (Int × Unit))))))))) (a1 : (Int × (Int × (Int × (Int × (Int × ((List Int) × (Int × Unit)))))))) (a2 : Int) : Option (Bool × Unit) :=
  gd (Sp.p_45 (a1.1) (0 : Int) (31 : Int)) (bif !(Sp.v_45 (a1.1) (0 : Int) (31 : Int)).1 then some (false, PUnit.unit) else gd (Sp.p_45 (a1.2.1) (IntKind.wrap IntKind.i64 ((0 : Int) - a0.2.2.1)) (a0.2.1)) (bif !(Sp.v_45 (a1.2.1) (IntKind.wrap IntKind.i64 ((0 : Int) - a0.2.2.1)) (a0.2.1)).1 then some (false, PUnit.unit) else gd (Sp.p_45 (a1.2.2.1) (0 : Int) (2 : Int)) (bif !(Sp.v_45 (a1.2.2.1) (0 : Int) (2 : Int)).1 then some (false, PUnit.unit) else gd (Sp.p_45 (a1.2.2.2.1) (0 : Int) (IntKind.wrap IntKind.i64 (a0.2.2.2.2.1 - (1 : Int)))) (bif !(Sp.v_45 (a1.2.2.2.1) (0 : Int) (IntKind.wrap IntKind.i64 (a0.2.2.2.2.1 - (1 : Int)))).1 then some (false, PUnit.unit) else gd (Sp.p_45 (a1.2.2.2.2.1) (0 : Int) (255 : Int)) (bif !(Sp.v_45 (a1.2.2.2.2.1) (0 : Int) (255 : Int)).1 then some (false, PUnit.unit) else gd (Sp.p_45 (a1.2.2.2.2.2.2.1) (0 : Int) a2) (bif !(Sp.v_45 (a1.2.2.2.2.2.2.1) (0 : Int) a2).1 then some (false, PUnit.unit) else bif (↑(List.length (a1.2.2.2.2.2.1)) : Int) != (0 : Int) then bif (↑(List.length (a1.2.2.2.2.2.1)) : Int) != a0.2.2.2.2.2.2.2.1 then some (false, PUnit.unit) else gd (Sp.p_55 (a1.2.2.2.2.2.1)) (bif !(Sp.v_55 (a1.2.2.2.2.2.1)).1 then some (false, PUnit.unit) else gd (Sp.p_56 a1 (2 : Int)) (bif (Sp.v_56 a1 (2 : Int)).1 then Sp.B_46_0 (Sp.J_46_0 a2 true a0 a1) (some (false, PUnit.unit)) (fun y12 y13 => some ((↑(List.length (y13.2.2.2.2.2.1)) : Int) == y12.2.2.2.2.2.2.2.1, PUnit.unit)) fun y14 => some ((↑(List.length (y14.2.2.2.2.2.1)) : Int) == (0 : Int), PUnit.unit) else gd (Sp.p_56 a1 (4 : Int)) (Sp.B_46_0 (Sp.J_46_0 a2 ((Sp.v_56 a1 (4 : Int)).1) a0 a1) (some (false, PUnit.unit)) (fun y15 y16 => some ((↑(List.length (y16.2.2.2.2.2.1)) : Int) == y15.2.2.2.2.2.2.2.1, PUnit.unit)) fun y17 => some ((↑(List.length (y17.2.2.2.2.2.1)) : Int) == (0 : Int), PUnit.unit)))) else gd (Sp.p_55 (a1.2.2.2.2.2.1)) (bif !(Sp.v_55 (a1.2.2.2.2.2.1)).1 then some (false, PUnit.unit) else gd (Sp.p_56 a1 (2 : Int)) (bif (Sp.v_56 a1 (2 : Int)).1 then Sp.B_46_0 (Sp.J_46_0 a2 true a0 a1) (some (false, PUnit.unit)) (fun y18 y19 => some ((↑(List.length (y19.2.2.2.2.2.1)) : Int) == y18.2.2.2.2.2.2.2.1, PUnit.unit)) fun y20 => some ((↑(List.length (y20.2.2.2.2.2.1)) : Int) == (0 : Int), PUnit.unit) else gd (Sp.p_56 a1 (4 : Int)) (Sp.B_46_0 (Sp.J_46_0 a2 ((Sp.v_56 a1 (4 : Int)).1) a0 a1) (some (false, PUnit.unit)) (fun y21 y22 => some ((↑(List.length (y22.2.2.2.2.2.1)) : Int) == y21.2.2.2.2.2.2.2.1, PUnit.unit)) fun y23 => some ((↑(List.length (y23.2.2.2.2.2.1)) : Int) == (0 : Int), PUnit.unit))))))))))
theorem fn_46 (a0 : (Int × (Int × (Int × (Int × (Int × (Int × (Bool × (Int × Unit))))))))) (a1 : (Int × (Int × (Int × (Int × (Int × ((List Int) × (Int × Unit)))))))) (a2 : Int) : evFnL sm_46 FU (ovr noO (evFn sm_46 fns FU 0)) (ir46_t O_46_46_0) ir46 (ofH [Zy46_4, Zy46_5, (.int .i64)] (a0, a1, a2, ())) [] (pureK [.bool]) = F_46 a0 a1 a2 := by kernel_rfl
noncomputable def Sp.p_46 (a0 : (Int × (Int × (Int × (Int × (Int × (Int × (Bool × (Int × Unit))))))))) (a1 : (Int × (Int × (Int × (Int × (Int × ((List Int) × (Int × Unit)))))))) (a2 : Int) : Bool := (F_46 a0 a1 a2).isSome
noncomputable def Sp.v_46 (a0 : (Int × (Int × (Int × (Int × (Int × (Int × (Bool × (Int × Unit))))))))) (a1 : (Int × (Int × (Int × (Int × (Int × ((List Int) × (Int × Unit)))))))) (a2 : Int) : Bool × Unit := (F_46 a0 a1 a2).getD (dfH [.bool])
noncomputable def s_46 : Summ := shN [Zy46_4, Zy46_5, (.int .i64)] [.bool] (fun x => Sp.p_46 x.1 x.2.1 x.2.2.1) (fun x => Sp.v_46 x.1 x.2.1 x.2.2.1)
theorem pv_46 (a0 : (Int × (Int × (Int × (Int × (Int × (Int × (Bool × (Int × Unit))))))))) (a1 : (Int × (Int × (Int × (Int × (Int × ((List Int) × (Int × Unit)))))))) (a2 : Int) {y : Bool × Unit} (h : F_46 a0 a1 a2 = some y) : Sp.p_46 a0 a1 a2 = true ∧ Sp.v_46 a0 a1 a2 = y := ⟨by rw [Sp.p_46, h]; rfl, by rw [Sp.v_46, h]; rfl⟩
theorem run_46 (x : HDen [Zy46_4, Zy46_5, (.int .i64)]) (y : HDen [.bool]) (h : F_46 x.1 x.2.1 x.2.2.1 = some y) : evFn sm_46 fns FU 1 46 (ofH [Zy46_4, Zy46_5, (.int .i64)] x) [] (pureK [.bool]) = some y :=
  evFnL_sound (fn := ir46) (t := (ir46_t O_46_46_0)) (o := noO) rfl noO_ok (ir46_tok (fun T k r => OK_46_46_0 T k r)) ((fn_46 _ _ _).trans h)
end
end Go.Ev
namespace Go.Ev
open Go
set_option maxRecDepth 100000
set_option maxHeartbeats 4000000
set_option linter.unusedVariables false
noncomputable section
abbrev Zt24_0 : Type := List (Int × Int × Int × Int × Int × Int × Bool × Int × Unit) × List (Int × Int × Int × Int × Int × List Int × Int × Unit) × Int × Bool × Unit
abbrev Zy24_1 : Ty := (.pair (.slice (.pair (.int .i64) (.pair (.int .i64) (.pair (.int .i64) (.pair (.int .i64) (.pair (.int .i64) (.pair (.int .i64) (.pair .bool (.pair (.int .i64) .unit))))))))) (.pair (.slice (.pair (.int .i64) (.pair (.int .i64) (.pair (.int .i64) (.pair (.int .i64) (.pair (.int .i64) (.pair (.slice (.int .i64)) (.pair (.int .i64) .unit)))))))) (.pair (.int .i64) (.pair .bool .unit))))
abbrev Zy24_2 : Ty := (Ty.pair (Ty.slice (Ty.pair (Ty.int IntKind.i64) (Ty.pair (Ty.int IntKind.i64) (Ty.pair (Ty.int IntKind.i64) (Ty.pair (Ty.int IntKind.i64) (Ty.pair (Ty.int IntKind.i64) (Ty.pair (Ty.int IntKind.i64) (Ty.pair Ty.bool (Ty.pair (Ty.int IntKind.i64) Ty.unit))))))))) (Ty.pair (Ty.slice (Ty.pair (Ty.int IntKind.i64) (Ty.pair (Ty.int IntKind.i64) (Ty.pair (Ty.int IntKind.i64) (Ty.pair (Ty.int IntKind.i64) (Ty.pair (Ty.int IntKind.i64) (Ty.pair (Ty.slice (Ty.int IntKind.i64)) (Ty.pair (Ty.int IntKind.i64) Ty.unit)))))))) (Ty.pair (Ty.int IntKind.i64) (Ty.pair Ty.bool Ty.unit))))
abbrev Zy24_3 : Ty := (Ty.pair (Ty.int IntKind.i64) (Ty.pair (Ty.int IntKind.i64) (Ty.pair (Ty.int IntKind.i64) (Ty.pair (Ty.int IntKind.i64) (Ty.pair (Ty.int IntKind.i64) (Ty.pair (Ty.int IntKind.i64) (Ty.pair Ty.bool (Ty.pair (Ty.int IntKind.i64) Ty.unit))))))))
abbrev Zy24_4 : Ty := (Ty.pair (Ty.int IntKind.i64) (Ty.pair (Ty.int IntKind.i64) (Ty.pair (Ty.int IntKind.i64) (Ty.pair (Ty.int IntKind.i64) (Ty.pair (Ty.int IntKind.i64) (Ty.pair (Ty.slice (Ty.int IntKind.i64)) (Ty.pair (Ty.int IntKind.i64) Ty.unit)))))))

noncomputable def sm_24 : Nat → Option Summ := fun f => bif Nat.beq f 44 then some s_44 else bif Nat.beq f 45 then some s_45 else bif Nat.beq f 46 then some s_46 else none
noncomputable def T_24_1 (p0 : Int) (p1 : Zt24_0) : St := St.mk ([jk, CV.ptr (0 : Nat) [], jk, CV.int IntKind.i64 p0] ++ (jl 49)) [Blk.mem (CV.pure Zy24_2 p1)] (0 : Nat)
noncomputable def X_24_1_0 : St := St.mk ([jk, jk, CV.bool false] ++ (jl 50)) [] (0 : Nat)
noncomputable def X_24_1_1 : St := St.mk (jl 53) [] (0 : Nat)
inductive Sp.E_24_1 where
  | e0
  | e1
noncomputable def Sp.B_24_1 {R : Type} (r : Option Sp.E_24_1) (k0 : Option R) (k1 : Option R) : Option R := match r with
  | none => none
  | some (.e0) => k0
  | some (.e1) => k1
noncomputable def Sp.L_24_1 : Nat → (Int) → (List (Int × Int × Int × Int × Int × Int × Bool × Int × Unit) × List (Int × Int × Int × Int × Int × List Int × Int × Unit) × Int × Bool × Unit) → Option Sp.E_24_1
  | 0, _, _ => none
  | m + 1, p0, p1 => bif decide (p0 < (↑(List.length (p1.2.1)) : Int)) then gd (inB p0 (List.length (p1.1))) (gd (inB p0 (List.length (p1.2.1))) (gd (Sp.p_46 (List.getD (p1.1) (Int.toNat p0) Zd1) (List.getD (p1.2.1) (Int.toNat p0) Zd2) (p1.2.2.1)) (bif !(Sp.v_46 (List.getD (p1.1) (Int.toNat p0) Zd1) (List.getD (p1.2.1) (Int.toNat p0) Zd2) (p1.2.2.1)).1 then some (Sp.E_24_1.e0) else Sp.L_24_1 m (IntKind.wrap IntKind.i64 (p0 + (1 : Int))) p1))) else some (Sp.E_24_1.e1)
noncomputable def G_24_1 {R : Type} (p0 : Int) (p1 : Zt24_0) (k : Ex → St → Option R) : Option R := Sp.B_24_1 (Sp.L_24_1 FU p0 p1) (k Ex.ret (X_24_1_0)) (k (Ex.exit (0 : Nat)) (X_24_1_1))
noncomputable def o_24_1 {R : Type} (G : (Int) → (Zt24_0) → (Ex → St → Option R) → Option R) : St → (Ex → St → Option R) → Option R := fun T k => match T.sl.getD 1 .junk, T.sl.getD 3 .junk, T.hp with
  | CV.ptr (0 : Nat) [], CV.int IntKind.i64 p0, ((Blk.mem (CV.pure (Ty.pair (Ty.slice (Ty.pair (Ty.int IntKind.i64) (Ty.pair (Ty.int IntKind.i64) (Ty.pair (Ty.int IntKind.i64) (Ty.pair (Ty.int IntKind.i64) (Ty.pair (Ty.int IntKind.i64) (Ty.pair (Ty.int IntKind.i64) (Ty.pair Ty.bool (Ty.pair (Ty.int IntKind.i64) Ty.unit))))))))) (Ty.pair (Ty.slice (Ty.pair (Ty.int IntKind.i64) (Ty.pair (Ty.int IntKind.i64) (Ty.pair (Ty.int IntKind.i64) (Ty.pair (Ty.int IntKind.i64) (Ty.pair (Ty.int IntKind.i64) (Ty.pair (Ty.slice (Ty.int IntKind.i64)) (Ty.pair (Ty.int IntKind.i64) Ty.unit)))))))) (Ty.pair (Ty.int IntKind.i64) (Ty.pair Ty.bool Ty.unit)))) p1)) :: []) => gd (shapeOK T 53 [1, 3] (0 : Nat)) (G p0 p1 k)
  | _, _, _ => none
theorem o_24_1_inv {R : Type} {G : (Int) → (Zt24_0) → (Ex → St → Option R) → Option R} {T : St} {k : Ex → St → Option R} {r : R} (h : o_24_1 G T k = some r) : ∃ p0 p1, T = T_24_1 p0 p1 ∧ G p0 p1 k = some r := by
  unfold o_24_1 at h
  split at h
  · obtain ⟨hs, h'⟩ := gd_some h
    refine ⟨_, _, (st_of (asg := [(1, _), (3, _)]) hs ⟨by assumption, by assumption, trivial⟩ (by assumption)).trans ?_, h'⟩
    kernel_rfl
  · cases h
noncomputable def T_24_0 (p0 : Zt24_0) : St := St.mk ([jk, CV.ptr (0 : Nat) []] ++ (jl 51)) [Blk.mem (CV.pure Zy24_2 p0)] (0 : Nat)
noncomputable def X_24_0_0 : St := St.mk ([jk, jk, CV.bool false] ++ (jl 50)) [] (0 : Nat)
noncomputable def X_24_0_1 : St := St.mk ([jk, jk, CV.bool true] ++ (jl 50)) [] (0 : Nat)
inductive Sp.E_24_0 where
  | e0
  | e1
noncomputable def Sp.B_24_0 {R : Type} (r : Option Sp.E_24_0) (k0 : Option R) (k1 : Option R) : Option R := match r with
  | none => none
  | some (.e0) => k0
  | some (.e1) => k1
noncomputable def Sp.J_24_0 (p0 : List (Int × Int × Int × Int × Int × Int × Bool × Int × Unit) × List (Int × Int × Int × Int × Int × List Int × Int × Unit) × Int × Bool × Unit) : Option Sp.E_24_0 :=
  Sp.B_24_1 (Sp.L_24_1 (4611686018427387904 : Nat) (0 : Int) p0) (some (Sp.E_24_0.e0)) (some (Sp.E_24_0.e1))
noncomputable def G_24_0 {R : Type} (p0 : Zt24_0) (k : Ex → St → Option R) : Option R := Sp.B_24_0 (Sp.J_24_0 p0) (k Ex.ret (X_24_0_0)) (k Ex.ret (X_24_0_1))
noncomputable def o_24_0 {R : Type} (G : (Zt24_0) → (Ex → St → Option R) → Option R) : St → (Ex → St → Option R) → Option R := fun T k => match T.sl.getD 1 .junk, T.hp with
  | CV.ptr (0 : Nat) [], ((Blk.mem (CV.pure (Ty.pair (Ty.slice (Ty.pair (Ty.int IntKind.i64) (Ty.pair (Ty.int IntKind.i64) (Ty.pair (Ty.int IntKind.i64) (Ty.pair (Ty.int IntKind.i64) (Ty.pair (Ty.int IntKind.i64) (Ty.pair (Ty.int IntKind.i64) (Ty.pair Ty.bool (Ty.pair (Ty.int IntKind.i64) Ty.unit))))))))) (Ty.pair (Ty.slice (Ty.pair (Ty.int IntKind.i64) (Ty.pair (Ty.int IntKind.i64) (Ty.pair (Ty.int IntKind.i64) (Ty.pair (Ty.int IntKind.i64) (Ty.pair (Ty.int IntKind.i64) (Ty.pair (Ty.slice (Ty.int IntKind.i64)) (Ty.pair (Ty.int IntKind.i64) Ty.unit)))))))) (Ty.pair (Ty.int IntKind.i64) (Ty.pair Ty.bool Ty.unit)))) p0)) :: []) => gd (shapeOK T 53 [1] (0 : Nat)) (G p0 k)
  | _, _ => none
theorem o_24_0_inv {R : Type} {G : (Zt24_0) → (Ex → St → Option R) → Option R} {T : St} {k : Ex → St → Option R} {r : R} (h : o_24_0 G T k = some r) : ∃ p0, T = T_24_0 p0 ∧ G p0 k = some r := by
  unfold o_24_0 at h
  split at h
  · obtain ⟨hs, h'⟩ := gd_some h
    refine ⟨_, (st_of (asg := [(1, _)]) hs ⟨by assumption, trivial⟩ (by assumption)).trans ?_, h'⟩
    kernel_rfl
  · cases h
noncomputable def O_24_24_1 {R : Type} : St → (Ex → St → Option R) → Option R := fun T k => o_24_1 G_24_1 T k
noncomputable def O_24_24_0 {R : Type} : St → (Ex → St → Option R) → Option R := fun T k => o_24_0 G_24_0 T k
theorem body_24_1 {R : Type} (K0 : St → Option R) (K1 : Ex → St → Option R) (p0 : Int) (p1 : Zt24_0) : evLB (evCodeL sm_24 FU (ovr noO (evFn sm_24 fns FU 0)) .nil ir24_b1) (St.norm ir24_v1) (T_24_1 p0 p1) K0 K1 =
  bif decide (p0 < (↑(List.length (p1.2.1)) : Int)) then gd (inB p0 (List.length (p1.1))) (gd (inB p0 (List.length (p1.2.1))) (gd (Sp.p_46 (List.getD (p1.1) (Int.toNat p0) (Ty.dflt Zy24_3)) (List.getD (p1.2.1) (Int.toNat p0) (Ty.dflt Zy24_4)) (p1.2.2.1)) (bif !(Sp.v_46 (List.getD (p1.1) (Int.toNat p0) (Ty.dflt Zy24_3)) (List.getD (p1.2.1) (Int.toNat p0) (Ty.dflt Zy24_4)) (p1.2.2.1)).1 then K1 Ex.ret X_24_1_0 else K0 (T_24_1 (IntKind.wrap IntKind.i64 (p0 + (1 : Int))) p1)))) else K1 (Ex.exit (0 : Nat)) X_24_1_1 := by kernel_rfl
theorem Bgd_24_1 {R : Type} {c : Bool} {x : Option R} {y : Option Sp.E_24_1} {k0 : Option R} {k1 : Option R} (h : x = Sp.B_24_1 y k0 k1) : gd c x = Sp.B_24_1 (gd c y) k0 k1 := by cases c; rfl; exact h
theorem Bcond_24_1 {R : Type} {c : Bool} {x x' : Option R} {y y' : Option Sp.E_24_1} {k0 : Option R} {k1 : Option R} (h : x = Sp.B_24_1 y k0 k1) (h' : x' = Sp.B_24_1 y' k0 k1) : (bif c then x else x') = Sp.B_24_1 (bif c then y else y') k0 k1 := by cases c; exact h'; exact h
theorem loop_24_1 {R : Type} (k : Ex → St → Option R) : ∀ (m : Nat) (p0 : Int) (p1 : Zt24_0), evLoopN (evCodeL sm_24 FU (ovr noO (evFn sm_24 fns FU 0)) .nil ir24_b1) (St.norm ir24_v1) m (T_24_1 p0 p1) k = Sp.B_24_1 (Sp.L_24_1 m p0 p1) (k Ex.ret (X_24_1_0)) (k (Ex.exit (0 : Nat)) (X_24_1_1))
  | 0, _, _ => rfl
  | m + 1, p0, p1 => by
    rw [evLoopN_succ, body_24_1, Sp.L_24_1]
    repeat' first | apply Bgd_24_1 | apply Bcond_24_1 | exact loop_24_1 k m _ _ | rfl
theorem ok_24_1 {R : Type} (T : St) (k : Ex → St → Option R) (r : R) (h0 : o_24_1 G_24_1 T k = some r) : evLoopN (evCode sm_24 FU (evFn sm_24 fns FU 0) ir24_b1) (St.norm ir24_v1) FU T k = some r := by
  obtain ⟨p0, p1, rfl, h⟩ := o_24_1_inv h0
  refine evLoopN_L (t := .nil) noO_ok trivial _ _ _ _ ?_
  rw [loop_24_1]
  exact h
theorem OK_24_24_1 {R : Type} (T : St) (k : Ex → St → Option R) (r : R) (h : O_24_24_1 T k = some r) : evLoopN (evCode sm_24 FU (evFn sm_24 fns FU 0) ir24_b1) (St.norm ir24_v1) FU T k = some r := ok_24_1 T k r h
theorem body_24_0 {R : Type} (K1 : Ex → St → Option R) (p0 : Zt24_0) : evJ (evCodeL sm_24 FU (ovr noO (evFn sm_24 fns FU 0)) (ir24_bt0 O_24_24_1) ir24_b0) (T_24_0 p0) K1 =
  Sp.B_24_1 (Sp.L_24_1 (4611686018427387904 : Nat) (0 : Int) p0) (K1 Ex.ret X_24_0_0) (K1 Ex.ret X_24_0_1) := by kernel_rfl
theorem Bgd_24_0 {R : Type} {c : Bool} {x : Option R} {y : Option Sp.E_24_0} {k0 : Option R} {k1 : Option R} (h : x = Sp.B_24_0 y k0 k1) : gd c x = Sp.B_24_0 (gd c y) k0 k1 := by cases c; rfl; exact h
theorem Bcond_24_0 {R : Type} {c : Bool} {x x' : Option R} {y y' : Option Sp.E_24_0} {k0 : Option R} {k1 : Option R} (h : x = Sp.B_24_0 y k0 k1) (h' : x' = Sp.B_24_0 y' k0 k1) : (bif c then x else x') = Sp.B_24_0 (bif c then y else y') k0 k1 := by cases c; exact h'; exact h
theorem Bin_24_0_24_1 {R : Type} {r : Option Sp.E_24_1} {k0 : Option R} {k1 : Option R} {f0 : Option R} {f1 : Option R} {g0 : Option Sp.E_24_0} {g1 : Option Sp.E_24_0} (h0 : f0 = Sp.B_24_0 g0 k0 k1) (h1 : f1 = Sp.B_24_0 g1 k0 k1) : Sp.B_24_1 r f0 f1 = Sp.B_24_0 (Sp.B_24_1 r g0 g1) k0 k1 := by
  cases r with
  | none => rfl
  | some e => cases e with
    | e0 => exact h0
    | e1 => exact h1
theorem loop_24_0 {R : Type} (k : Ex → St → Option R) (p0 : Zt24_0) : evJ (evCodeL sm_24 FU (ovr noO (evFn sm_24 fns FU 0)) (ir24_bt0 O_24_24_1) ir24_b0) (T_24_0 p0) k = Sp.B_24_0 (Sp.J_24_0 p0) (k Ex.ret (X_24_0_0)) (k Ex.ret (X_24_0_1)) := by
  rw [body_24_0, Sp.J_24_0]
  repeat' first | apply Bgd_24_0 | apply Bcond_24_0 | (apply Bin_24_0_24_1 <;> intros) | rfl
theorem ok_24_0 {R : Type} (T : St) (k : Ex → St → Option R) (r : R) (h0 : o_24_0 G_24_0 T k = some r) : evCode sm_24 FU (evFn sm_24 fns FU 0) ir24_b0 T k = some r := by
  obtain ⟨p0, rfl, h⟩ := o_24_0_inv h0
  refine bodyL_sound (t := (ir24_bt0 O_24_24_1)) noO_ok (ir24_bt0ok (fun T k r => OK_24_24_1 T k r)) (((show ∀ (b : St → (Ex → St → Option R) → Option R) (T : St) (k : Ex → St → Option R), b T k = evJ b T k from fun _ _ _ => rfl) _ _ _).trans ((loop_24_0 k p0).trans h))
theorem OK_24_24_0 {R : Type} (T : St) (k : Ex → St → Option R) (r : R) (h : O_24_24_0 T k = some r) : evCode sm_24 FU (evFn sm_24 fns FU 0) ir24_b0 T k = some r := ok_24_0 T k r h
noncomputable def F_24 (a0 : ((List (Int × (Int × (Int × (Int × (Int × (Int × (Bool × (Int × Unit))))))))) × ((List (Int × (Int × (Int × (Int × (Int × ((List Int) × (Int × Unit)))))))) × (Int × (Bool × Unit))))) : Option (Bool × Unit) :=
  gd (Sp.p_44 (a0.1)) (bif (Sp.v_44 (a0.1)).1 != (0 : Int) then some (false, PUnit.unit) else bif (↑(List.length (a0.2.1)) : Int) != (↑(List.length (a0.1)) : Int) then some (false, PUnit.unit) else gd (Sp.p_45 (a0.2.2.1) (0 : Int) (1073741824 : Int)) (bif !(Sp.v_45 (a0.2.2.1) (0 : Int) (1073741824 : Int)).1 then some (false, PUnit.unit) else bif a0.2.2.2.1 then bif decide (a0.2.2.1 < (1 : Int)) then some (false, PUnit.unit) else Sp.B_24_0 (Sp.J_24_0 a0) (some (false, PUnit.unit)) (some (true, PUnit.unit)) else Sp.B_24_0 (Sp.J_24_0 a0) (some (false, PUnit.unit)) (some (true, PUnit.unit))))
theorem fn_24 (a0 : ((List (Int × (Int × (Int × (Int × (Int × (Int × (Bool × (Int × Unit))))))))) × ((List (Int × (Int × (Int × (Int × (Int × ((List Int) × (Int × Unit)))))))) × (Int × (Bool × Unit))))) : evFnL sm_24 FU (ovr noO (evFn sm_24 fns FU 0)) (ir24_t O_24_24_0) ir24 (ofH [Zy24_1] (a0, ())) [] (pureK [.bool]) = F_24 a0 := by kernel_rfl
noncomputable def Sp.p_24 (a0 : ((List (Int × (Int × (Int × (Int × (Int × (Int × (Bool × (Int × Unit))))))))) × ((List (Int × (Int × (Int × (Int × (Int × ((List Int) × (Int × Unit)))))))) × (Int × (Bool × Unit))))) : Bool := (F_24 a0).isSome
noncomputable def Sp.v_24 (a0 : ((List (Int × (Int × (Int × (Int × (Int × (Int × (Bool × (Int × Unit))))))))) × ((List (Int × (Int × (Int × (Int × (Int × ((List Int) × (Int × Unit)))))))) × (Int × (Bool × Unit))))) : Bool × Unit := (F_24 a0).getD (dfH [.bool])
noncomputable def s_24 : Summ := shN [Zy24_1] [.bool] (fun x => Sp.p_24 x.1) (fun x => Sp.v_24 x.1)
theorem pv_24 (a0 : ((List (Int × (Int × (Int × (Int × (Int × (Int × (Bool × (Int × Unit))))))))) × ((List (Int × (Int × (Int × (Int × (Int × ((List Int) × (Int × Unit)))))))) × (Int × (Bool × Unit))))) {y : Bool × Unit} (h : F_24 a0 = some y) : Sp.p_24 a0 = true ∧ Sp.v_24 a0 = y := ⟨by rw [Sp.p_24, h]; rfl, by rw [Sp.v_24, h]; rfl⟩
theorem run_24 (x : HDen [Zy24_1]) (y : HDen [.bool]) (h : F_24 x.1 = some y) : evFn sm_24 fns FU 1 24 (ofH [Zy24_1] x) [] (pureK [.bool]) = some y :=
  evFnL_sound (fn := ir24) (t := (ir24_t O_24_24_0)) (o := noO) rfl noO_ok (ir24_tok (fun T k r => OK_24_24_0 T k r)) ((fn_24 _).trans h)
end
end Go.Ev
namespace Go.Ev
open Go
set_option maxRecDepth 100000
set_option maxHeartbeats 4000000
set_option linter.unusedVariables false
noncomputable section

noncomputable def sm_18 : Nat → Option Summ := fun f => bif Nat.beq f 11 then some s_11 else bif Nat.beq f 24 then some s_24 else none


noncomputable def F_18 (a0 : (List ((List Int) × (Int × (Int × ((List Int) × (Int × Unit))))))) (a1 : ((List (Int × (Int × (Int × (Int × (Int × (Int × (Bool × (Int × Unit))))))))) × ((List (Int × (Int × (Int × (Int × (Int × ((List Int) × (Int × Unit)))))))) × (Int × (Bool × Unit))))) : Option (Bool × Unit) :=
  gd (Sp.p_24 a1) (bif (Sp.v_24 a1).1 then gd (Sp.p_11 a0 (↑(List.length (a1.2.1)) : Int)) (some ((Sp.v_11 a0 (↑(List.length (a1.2.1)) : Int)).1, PUnit.unit)) else some (false, PUnit.unit))
theorem fn_18 (a0 : (List ((List Int) × (Int × (Int × ((List Int) × (Int × Unit))))))) (a1 : ((List (Int × (Int × (Int × (Int × (Int × (Int × (Bool × (Int × Unit))))))))) × ((List (Int × (Int × (Int × (Int × (Int × ((List Int) × (Int × Unit)))))))) × (Int × (Bool × Unit))))) : evFnL sm_18 FU (ovr noO (evFn sm_18 fns FU 0)) .nil ir18 (ofH [(.slice (.pair .str (.pair (.int .i64) (.pair (.int .i64) (.pair (.slice (.int .i64)) (.pair (.int .i64) .unit)))))), (.pair (.slice (.pair (.int .i64) (.pair (.int .i64) (.pair (.int .i64) (.pair (.int .i64) (.pair (.int .i64) (.pair (.int .i64) (.pair .bool (.pair (.int .i64) .unit))))))))) (.pair (.slice (.pair (.int .i64) (.pair (.int .i64) (.pair (.int .i64) (.pair (.int .i64) (.pair (.int .i64) (.pair (.slice (.int .i64)) (.pair (.int .i64) .unit)))))))) (.pair (.int .i64) (.pair .bool .unit))))] (a0, a1, ())) [] (pureK [.bool]) = F_18 a0 a1 := by kernel_rfl
noncomputable def Sp.p_18 (a0 : (List ((List Int) × (Int × (Int × ((List Int) × (Int × Unit))))))) (a1 : ((List (Int × (Int × (Int × (Int × (Int × (Int × (Bool × (Int × Unit))))))))) × ((List (Int × (Int × (Int × (Int × (Int × ((List Int) × (Int × Unit)))))))) × (Int × (Bool × Unit))))) : Bool := (F_18 a0 a1).isSome
noncomputable def Sp.v_18 (a0 : (List ((List Int) × (Int × (Int × ((List Int) × (Int × Unit))))))) (a1 : ((List (Int × (Int × (Int × (Int × (Int × (Int × (Bool × (Int × Unit))))))))) × ((List (Int × (Int × (Int × (Int × (Int × ((List Int) × (Int × Unit)))))))) × (Int × (Bool × Unit))))) : Bool × Unit := (F_18 a0 a1).getD (dfH [.bool])
noncomputable def s_18 : Summ := shN [(.slice (.pair .str (.pair (.int .i64) (.pair (.int .i64) (.pair (.slice (.int .i64)) (.pair (.int .i64) .unit)))))), (.pair (.slice (.pair (.int .i64) (.pair (.int .i64) (.pair (.int .i64) (.pair (.int .i64) (.pair (.int .i64) (.pair (.int .i64) (.pair .bool (.pair (.int .i64) .unit))))))))) (.pair (.slice (.pair (.int .i64) (.pair (.int .i64) (.pair (.int .i64) (.pair (.int .i64) (.pair (.int .i64) (.pair (.slice (.int .i64)) (.pair (.int .i64) .unit)))))))) (.pair (.int .i64) (.pair .bool .unit))))] [.bool] (fun x => Sp.p_18 x.1 x.2.1) (fun x => Sp.v_18 x.1 x.2.1)
theorem pv_18 (a0 : (List ((List Int) × (Int × (Int × ((List Int) × (Int × Unit))))))) (a1 : ((List (Int × (Int × (Int × (Int × (Int × (Int × (Bool × (Int × Unit))))))))) × ((List (Int × (Int × (Int × (Int × (Int × ((List Int) × (Int × Unit)))))))) × (Int × (Bool × Unit))))) {y : Bool × Unit} (h : F_18 a0 a1 = some y) : Sp.p_18 a0 a1 = true ∧ Sp.v_18 a0 a1 = y := ⟨by rw [Sp.p_18, h]; rfl, by rw [Sp.v_18, h]; rfl⟩
theorem run_18 (x : HDen [(.slice (.pair .str (.pair (.int .i64) (.pair (.int .i64) (.pair (.slice (.int .i64)) (.pair (.int .i64) .unit)))))), (.pair (.slice (.pair (.int .i64) (.pair (.int .i64) (.pair (.int .i64) (.pair (.int .i64) (.pair (.int .i64) (.pair (.int .i64) (.pair .bool (.pair (.int .i64) .unit))))))))) (.pair (.slice (.pair (.int .i64) (.pair (.int .i64) (.pair (.int .i64) (.pair (.int .i64) (.pair (.int .i64) (.pair (.slice (.int .i64)) (.pair (.int .i64) .unit)))))))) (.pair (.int .i64) (.pair .bool .unit))))]) (y : HDen [.bool]) (h : F_18 x.1 x.2.1 = some y) : evFn sm_18 fns FU 1 18 (ofH [(.slice (.pair .str (.pair (.int .i64) (.pair (.int .i64) (.pair (.slice (.int .i64)) (.pair (.int .i64) .unit)))))), (.pair (.slice (.pair (.int .i64) (.pair (.int .i64) (.pair (.int .i64) (.pair (.int .i64) (.pair (.int .i64) (.pair (.int .i64) (.pair .bool (.pair (.int .i64) .unit))))))))) (.pair (.slice (.pair (.int .i64) (.pair (.int .i64) (.pair (.int .i64) (.pair (.int .i64) (.pair (.int .i64) (.pair (.slice (.int .i64)) (.pair (.int .i64) .unit)))))))) (.pair (.int .i64) (.pair .bool .unit))))] x) [] (pureK [.bool]) = some y :=
  evFnL_sound (fn := ir18) (t := .nil) (o := noO) rfl noO_ok trivial ((fn_18 _ _).trans h)
end
end Go.Ev
namespace Go.Ev
open Go
set_option maxRecDepth 100000
set_option maxHeartbeats 4000000
set_option linter.unusedVariables false
noncomputable section

noncomputable def sm_22 : Nat → Option Summ := fun f => none
noncomputable def T_22_0 (p0 : List Int) (p1 : List Int) (p2 : Int) (p3 : Int) : St := St.mk ([CV.pure (Ty.slice (Ty.int IntKind.i64)) p0, CV.pure (Ty.slice (Ty.int IntKind.i64)) p1] ++ (jl 10 ++ ([CV.int IntKind.i64 p2, CV.int IntKind.i64 p3] ++ (jl 12)))) [] (0 : Nat)
noncomputable def X_22_0_0 : St := St.mk ([jk, jk, jk, jk, CV.bool false] ++ (jl 21)) [] (0 : Nat)
noncomputable def X_22_0_1 : St := St.mk (jl 26) [] (0 : Nat)
inductive Sp.E_22_0 where
  | e0
  | e1
noncomputable def Sp.B_22_0 {R : Type} (r : Option Sp.E_22_0) (k0 : Option R) (k1 : Option R) : Option R := match r with
  | none => none
  | some (.e0) => k0
  | some (.e1) => k1
noncomputable def Sp.L_22_0 : Nat → (List Int) → (List Int) → (Int) → (Int) → Option Sp.E_22_0
  | 0, _, _, _, _ => none
  | m + 1, p0, p1, p2, p3 => bif decide (p3 < p2) then gd (inB p3 (List.length p0)) (gd (inB p3 (List.length p1)) (bif List.getD p0 (Int.toNat p3) (0 : Int) != List.getD p1 (Int.toNat p3) (0 : Int) then some (Sp.E_22_0.e0) else Sp.L_22_0 m p0 p1 p2 (IntKind.wrap IntKind.i64 (p3 + (1 : Int))))) else some (Sp.E_22_0.e1)
noncomputable def G_22_0 {R : Type} (p0 : List Int) (p1 : List Int) (p2 : Int) (p3 : Int) (k : Ex → St → Option R) : Option R := Sp.B_22_0 (Sp.L_22_0 FU p0 p1 p2 p3) (k Ex.ret (X_22_0_0)) (k (Ex.exit (0 : Nat)) (X_22_0_1))
noncomputable def o_22_0 {R : Type} (G : (List Int) → (List Int) → (Int) → (Int) → (Ex → St → Option R) → Option R) : St → (Ex → St → Option R) → Option R := fun T k => match T.sl.getD 0 .junk, T.sl.getD 1 .junk, T.sl.getD 12 .junk, T.sl.getD 13 .junk, T.hp with
  | CV.pure (Ty.slice (Ty.int IntKind.i64)) p0, CV.pure (Ty.slice (Ty.int IntKind.i64)) p1, CV.int IntKind.i64 p2, CV.int IntKind.i64 p3, [] => gd (shapeOK T 26 [0, 1, 12, 13] (0 : Nat)) (G p0 p1 p2 p3 k)
  | _, _, _, _, _ => none
theorem o_22_0_inv {R : Type} {G : (List Int) → (List Int) → (Int) → (Int) → (Ex → St → Option R) → Option R} {T : St} {k : Ex → St → Option R} {r : R} (h : o_22_0 G T k = some r) : ∃ p0 p1 p2 p3, T = T_22_0 p0 p1 p2 p3 ∧ G p0 p1 p2 p3 k = some r := by
  unfold o_22_0 at h
  split at h
  · obtain ⟨hs, h'⟩ := gd_some h
    refine ⟨_, _, _, _, (st_of (asg := [(0, _), (1, _), (12, _), (13, _)]) hs ⟨by assumption, by assumption, by assumption, by assumption, trivial⟩ (by assumption)).trans ?_, h'⟩
    kernel_rfl
  · cases h
noncomputable def O_22_22_0 {R : Type} : St → (Ex → St → Option R) → Option R := fun T k => o_22_0 G_22_0 T k
theorem body_22_0 {R : Type} (K0 : St → Option R) (K1 : Ex → St → Option R) (p0 : List Int) (p1 : List Int) (p2 : Int) (p3 : Int) : evLB (evCodeL sm_22 FU (ovr noO (evFn sm_22 fns FU 0)) .nil ir22_b0) (St.norm ir22_v0) (T_22_0 p0 p1 p2 p3) K0 K1 =
  bif decide (p3 < p2) then gd (inB p3 (List.length p0)) (gd (inB p3 (List.length p1)) (bif List.getD p0 (Int.toNat p3) (0 : Int) != List.getD p1 (Int.toNat p3) (0 : Int) then K1 Ex.ret X_22_0_0 else K0 (T_22_0 p0 p1 p2 (IntKind.wrap IntKind.i64 (p3 + (1 : Int)))))) else K1 (Ex.exit (0 : Nat)) X_22_0_1 := by kernel_rfl
theorem Bgd_22_0 {R : Type} {c : Bool} {x : Option R} {y : Option Sp.E_22_0} {k0 : Option R} {k1 : Option R} (h : x = Sp.B_22_0 y k0 k1) : gd c x = Sp.B_22_0 (gd c y) k0 k1 := by cases c; rfl; exact h
theorem Bcond_22_0 {R : Type} {c : Bool} {x x' : Option R} {y y' : Option Sp.E_22_0} {k0 : Option R} {k1 : Option R} (h : x = Sp.B_22_0 y k0 k1) (h' : x' = Sp.B_22_0 y' k0 k1) : (bif c then x else x') = Sp.B_22_0 (bif c then y else y') k0 k1 := by cases c; exact h'; exact h
theorem loop_22_0 {R : Type} (k : Ex → St → Option R) : ∀ (m : Nat) (p0 : List Int) (p1 : List Int) (p2 : Int) (p3 : Int), evLoopN (evCodeL sm_22 FU (ovr noO (evFn sm_22 fns FU 0)) .nil ir22_b0) (St.norm ir22_v0) m (T_22_0 p0 p1 p2 p3) k = Sp.B_22_0 (Sp.L_22_0 m p0 p1 p2 p3) (k Ex.ret (X_22_0_0)) (k (Ex.exit (0 : Nat)) (X_22_0_1))
  | 0, _, _, _, _ => rfl
  | m + 1, p0, p1, p2, p3 => by
    rw [evLoopN_succ, body_22_0, Sp.L_22_0]
    repeat' first | apply Bgd_22_0 | apply Bcond_22_0 | exact loop_22_0 k m _ _ _ _ | rfl
theorem ok_22_0 {R : Type} (T : St) (k : Ex → St → Option R) (r : R) (h0 : o_22_0 G_22_0 T k = some r) : evLoopN (evCode sm_22 FU (evFn sm_22 fns FU 0) ir22_b0) (St.norm ir22_v0) FU T k = some r := by
  obtain ⟨p0, p1, p2, p3, rfl, h⟩ := o_22_0_inv h0
  refine evLoopN_L (t := .nil) noO_ok trivial _ _ _ _ ?_
  rw [loop_22_0]
  exact h
theorem OK_22_22_0 {R : Type} (T : St) (k : Ex → St → Option R) (r : R) (h : O_22_22_0 T k = some r) : evLoopN (evCode sm_22 FU (evFn sm_22 fns FU 0) ir22_b0) (St.norm ir22_v0) FU T k = some r := ok_22_0 T k r h
noncomputable def F_22 (a0 : (List Int)) (a1 : (List Int)) : Option (Bool × Unit) :=
  bif (↑(List.length a0) : Int) != (↑(List.length a1) : Int) then some (false, PUnit.unit) else Sp.B_22_0 (Sp.L_22_0 (4611686018427387904 : Nat) a0 a1 (↑(List.length a0) : Int) (0 : Int)) (some (false, PUnit.unit)) (some (true, PUnit.unit))
theorem fn_22 (a0 : (List Int)) (a1 : (List Int)) : evFnL sm_22 FU (ovr noO (evFn sm_22 fns FU 0)) (ir22_t O_22_22_0) ir22 (ofH [(.slice (.int .i64)), (.slice (.int .i64))] (a0, a1, ())) [] (pureK [.bool]) = F_22 a0 a1 := by kernel_rfl
noncomputable def Sp.p_22 (a0 : (List Int)) (a1 : (List Int)) : Bool := (F_22 a0 a1).isSome
noncomputable def Sp.v_22 (a0 : (List Int)) (a1 : (List Int)) : Bool × Unit := (F_22 a0 a1).getD (dfH [.bool])
noncomputable def s_22 : Summ := shN [(.slice (.int .i64)), (.slice (.int .i64))] [.bool] (fun x => Sp.p_22 x.1 x.2.1) (fun x => Sp.v_22 x.1 x.2.1)
theorem pv_22 (a0 : (List Int)) (a1 : (List Int)) {y : Bool × Unit} (h : F_22 a0 a1 = some y) : Sp.p_22 a0 a1 = true ∧ Sp.v_22 a0 a1 = y := ⟨by rw [Sp.p_22, h]; rfl, by rw [Sp.v_22, h]; rfl⟩
theorem run_22 (x : HDen [(.slice (.int .i64)), (.slice (.int .i64))]) (y : HDen [.bool]) (h : F_22 x.1 x.2.1 = some y) : evFn sm_22 fns FU 1 22 (ofH [(.slice (.int .i64)), (.slice (.int .i64))] x) [] (pureK [.bool]) = some y :=
  evFnL_sound (fn := ir22) (t := (ir22_t O_22_22_0)) (o := noO) rfl noO_ok (ir22_tok (fun T k r => OK_22_22_0 T k r)) ((fn_22 _ _).trans h)
end
end Go.Ev
namespace Go.Ev
open Go
set_option maxRecDepth 100000
set_option maxHeartbeats 4000000
set_option linter.unusedVariables false
noncomputable section
abbrev Zt6_0 : Type := List (Int × Int × Int × Int × Int × Int × Bool × Int × Unit) × List (Int × Int × Int × Int × Int × List Int × Int × Unit) × Int × Bool × Unit
abbrev Zy6_1 : Ty := (Ty.pair (Ty.slice (Ty.pair (Ty.int IntKind.i64) (Ty.pair (Ty.int IntKind.i64) (Ty.pair (Ty.int IntKind.i64) (Ty.pair (Ty.int IntKind.i64) (Ty.pair (Ty.int IntKind.i64) (Ty.pair (Ty.int IntKind.i64) (Ty.pair Ty.bool (Ty.pair (Ty.int IntKind.i64) Ty.unit))))))))) (Ty.pair (Ty.slice (Ty.pair (Ty.int IntKind.i64) (Ty.pair (Ty.int IntKind.i64) (Ty.pair (Ty.int IntKind.i64) (Ty.pair (Ty.int IntKind.i64) (Ty.pair (Ty.int IntKind.i64) (Ty.pair (Ty.slice (Ty.int IntKind.i64)) (Ty.pair (Ty.int IntKind.i64) Ty.unit)))))))) (Ty.pair (Ty.int IntKind.i64) (Ty.pair Ty.bool Ty.unit))))
abbrev Zt6_2 : Type := List (Int × Int × Int × Int × Int × Int × Bool × Int × Unit)
abbrev Zt6_3 : Type := List (Int × Int × Int × Int × Int × List Int × Int × Unit)
abbrev Zy6_4 : Ty := (.pair (.slice (.pair (.int .i64) (.pair (.int .i64) (.pair (.int .i64) (.pair (.int .i64) (.pair (.int .i64) (.pair (.int .i64) (.pair .bool (.pair (.int .i64) .unit))))))))) (.pair (.slice (.pair (.int .i64) (.pair (.int .i64) (.pair (.int .i64) (.pair (.int .i64) (.pair (.int .i64) (.pair (.slice (.int .i64)) (.pair (.int .i64) .unit)))))))) (.pair (.int .i64) (.pair .bool .unit))))
abbrev Zy6_5 : Ty := (Ty.slice (Ty.pair (Ty.int IntKind.i64) (Ty.pair (Ty.int IntKind.i64) (Ty.pair (Ty.int IntKind.i64) (Ty.pair (Ty.int IntKind.i64) (Ty.pair (Ty.int IntKind.i64) (Ty.pair (Ty.int IntKind.i64) (Ty.pair Ty.bool (Ty.pair (Ty.int IntKind.i64) Ty.unit)))))))))
abbrev Zy6_6 : Ty := (Ty.pair (Ty.int IntKind.i64) (Ty.pair (Ty.int IntKind.i64) (Ty.pair (Ty.int IntKind.i64) (Ty.pair (Ty.int IntKind.i64) (Ty.pair (Ty.int IntKind.i64) (Ty.pair (Ty.slice (Ty.int IntKind.i64)) (Ty.pair (Ty.int IntKind.i64) Ty.unit)))))))
abbrev Zt6_7 : Type := Int × Bool × Unit
abbrev Zy6_8 : Ty := (.pair (.int .i64) (.pair (.int .i64) (.pair (.slice (.int .i64)) (.pair (.int .i64) .unit))))
abbrev Zt6_9 : Type := List (Int × List Int × Unit)
abbrev Zy6_10 : Ty := (Ty.pair (Ty.int IntKind.i64) (Ty.pair Ty.bool Ty.unit))

noncomputable def sm_6 : Nat → Option Summ := fun f => bif Nat.beq f 8 then some s_8 else bif Nat.beq f 9 then some s_9 else bif Nat.beq f 17 then some s_17 else bif Nat.beq f 18 then some s_18 else bif Nat.beq f 19 then some s_19 else bif Nat.beq f 22 then some s_22 else bif Nat.beq f 24 then some s_24 else bif Nat.beq f 25 then some s_25 else bif Nat.beq f 27 then some s_27 else none
noncomputable def T_6_20_0_0 (p0 : Zt6_9) (p1 : Int) (p2 : Int) (p3 : Zt6_0) (p4 : Zt6_2) (p5 : Zt6_7) (p6 : Zt6_3) (p7 : Int) : St := St.mk ([CV.pure (Ty.slice (Ty.pair (Ty.int IntKind.i64) (Ty.pair (Ty.slice (Ty.int IntKind.i64)) Ty.unit))) p0, CV.clo (26 : Nat) (CV.pair (CV.ptr (3 : Nat) []) (CV.pure Ty.unit PUnit.unit)), jk, jk, jk, jk, jk, CV.int IntKind.i64 p1, CV.int IntKind.i64 p2] ++ (jl 10)) [Blk.mem (CV.pure Zy6_1 p3), Blk.mem (CV.pair (CV.pure Zy6_5 p4) (CV.pair (CV.whole (2 : Nat)) (CV.pure Zy6_10 p5))), Blk.fvec (67 : Nat) Zy6_6 p6, Blk.mem (CV.int IntKind.i64 p7)] (4 : Nat)
noncomputable def X_6_20_0_0_0 (p2 : Int) (p3 : Zt6_0) (p4 : Zt6_2) (p5 : Zt6_7) (p6 : Zt6_3) (p7 : Int) : St := St.mk ([jk, jk, jk, jk, CV.int IntKind.i64 p2] ++ (jl 14)) [Blk.mem (CV.pure Zy6_1 p3), Blk.mem (CV.pair (CV.pure Zy6_5 p4) (CV.pair (CV.whole (2 : Nat)) (CV.pure Zy6_10 p5))), Blk.fvec (67 : Nat) Zy6_6 p6, Blk.mem (CV.int IntKind.i64 p7)] (4 : Nat)
noncomputable def X_6_20_0_0_1 (p3 : Zt6_0) (p4 : Zt6_2) (p5 : Zt6_7) (p6 : Zt6_3) (p7 : Int) : St := St.mk (jl 19) [Blk.mem (CV.pure Zy6_1 p3), Blk.mem (CV.pair (CV.pure Zy6_5 p4) (CV.pair (CV.whole (2 : Nat)) (CV.pure Zy6_10 p5))), Blk.fvec (67 : Nat) Zy6_6 p6, Blk.mem (CV.int IntKind.i64 p7)] (4 : Nat)
inductive Sp.E_6_20_0_0 where
  | e0 (p2 : Int) (p3 : Zt6_0) (p4 : Zt6_2) (p5 : Zt6_7) (p6 : Zt6_3) (p7 : Int)
  | e1 (p3 : Zt6_0) (p4 : Zt6_2) (p5 : Zt6_7) (p6 : Zt6_3) (p7 : Int)
noncomputable def Sp.B_6_20_0_0 {R : Type} (r : Option Sp.E_6_20_0_0) (k0 : (Int) → (Zt6_0) → (Zt6_2) → (Zt6_7) → (Zt6_3) → (Int) → Option R) (k1 : (Zt6_0) → (Zt6_2) → (Zt6_7) → (Zt6_3) → (Int) → Option R) : Option R := match r with
  | none => none
  | some (.e0 p2 p3 p4 p5 p6 p7) => k0 p2 p3 p4 p5 p6 p7
  | some (.e1 p3 p4 p5 p6 p7) => k1 p3 p4 p5 p6 p7
noncomputable def Sp.L_6_20_0_0 : Nat → (List (Int × List Int × Unit)) → (Int) → (Int) → (List (Int × Int × Int × Int × Int × Int × Bool × Int × Unit) × List (Int × Int × Int × Int × Int × List Int × Int × Unit) × Int × Bool × Unit) → (List (Int × Int × Int × Int × Int × Int × Bool × Int × Unit)) → (Int × Bool × Unit) → (List (Int × Int × Int × Int × Int × List Int × Int × Unit)) → (Int) → Option Sp.E_6_20_0_0
  | 0, _, _, _, _, _, _, _, _ => none
  | m + 1, p0, p1, p2, p3, p4, p5, p6, p7 => bif decide (p2 < p1) then gd (inB p2 (List.length p0)) (bif (List.getD p0 (Int.toNat p2) Zd0).1 == p7 then some (Sp.E_6_20_0_0.e0 p2 p3 p4 p5 p6 p7) else Sp.L_6_20_0_0 m p0 p1 (IntKind.wrap IntKind.i64 (p2 + (1 : Int))) p3 p4 p5 p6 p7) else some (Sp.E_6_20_0_0.e1 p3 p4 p5 p6 p7)
noncomputable def G_6_20_0_0 {R : Type} (p0 : Zt6_9) (p1 : Int) (p2 : Int) (p3 : Zt6_0) (p4 : Zt6_2) (p5 : Zt6_7) (p6 : Zt6_3) (p7 : Int) (k : Ex → St → Option R) : Option R := Sp.B_6_20_0_0 (Sp.L_6_20_0_0 FU p0 p1 p2 p3 p4 p5 p6 p7) (fun p2 p3 p4 p5 p6 p7 => k Ex.ret (X_6_20_0_0_0 p2 p3 p4 p5 p6 p7)) (fun p3 p4 p5 p6 p7 => k (Ex.exit (0 : Nat)) (X_6_20_0_0_1 p3 p4 p5 p6 p7))
noncomputable def o_6_20_0_0 {R : Type} (G : (Zt6_9) → (Int) → (Int) → (Zt6_0) → (Zt6_2) → (Zt6_7) → (Zt6_3) → (Int) → (Ex → St → Option R) → Option R) : St → (Ex → St → Option R) → Option R := fun T k => match T.sl.getD 0 .junk, T.sl.getD 1 .junk, T.sl.getD 7 .junk, T.sl.getD 8 .junk, T.hp with
  | CV.pure (Ty.slice (Ty.pair (Ty.int IntKind.i64) (Ty.pair (Ty.slice (Ty.int IntKind.i64)) Ty.unit))) p0, CV.clo (26 : Nat) (CV.pair (CV.ptr (3 : Nat) []) (CV.pure Ty.unit PUnit.unit)), CV.int IntKind.i64 p1, CV.int IntKind.i64 p2, ((Blk.mem (CV.pure (Ty.pair (Ty.slice (Ty.pair (Ty.int IntKind.i64) (Ty.pair (Ty.int IntKind.i64) (Ty.pair (Ty.int IntKind.i64) (Ty.pair (Ty.int IntKind.i64) (Ty.pair (Ty.int IntKind.i64) (Ty.pair (Ty.int IntKind.i64) (Ty.pair Ty.bool (Ty.pair (Ty.int IntKind.i64) Ty.unit))))))))) (Ty.pair (Ty.slice (Ty.pair (Ty.int IntKind.i64) (Ty.pair (Ty.int IntKind.i64) (Ty.pair (Ty.int IntKind.i64) (Ty.pair (Ty.int IntKind.i64) (Ty.pair (Ty.int IntKind.i64) (Ty.pair (Ty.slice (Ty.int IntKind.i64)) (Ty.pair (Ty.int IntKind.i64) Ty.unit)))))))) (Ty.pair (Ty.int IntKind.i64) (Ty.pair Ty.bool Ty.unit)))) p3)) :: (Blk.mem (CV.pair (CV.pure (Ty.slice (Ty.pair (Ty.int IntKind.i64) (Ty.pair (Ty.int IntKind.i64) (Ty.pair (Ty.int IntKind.i64) (Ty.pair (Ty.int IntKind.i64) (Ty.pair (Ty.int IntKind.i64) (Ty.pair (Ty.int IntKind.i64) (Ty.pair Ty.bool (Ty.pair (Ty.int IntKind.i64) Ty.unit))))))))) p4) (CV.pair (CV.whole (2 : Nat)) (CV.pure (Ty.pair (Ty.int IntKind.i64) (Ty.pair Ty.bool Ty.unit)) p5)))) :: (Blk.fvec (67 : Nat) (Ty.pair (Ty.int IntKind.i64) (Ty.pair (Ty.int IntKind.i64) (Ty.pair (Ty.int IntKind.i64) (Ty.pair (Ty.int IntKind.i64) (Ty.pair (Ty.int IntKind.i64) (Ty.pair (Ty.slice (Ty.int IntKind.i64)) (Ty.pair (Ty.int IntKind.i64) Ty.unit))))))) p6) :: (Blk.mem (CV.int IntKind.i64 p7)) :: []) => gd (shapeOK T 19 [0, 1, 7, 8] (4 : Nat)) (G p0 p1 p2 p3 p4 p5 p6 p7 k)
  | _, _, _, _, _ => none
theorem o_6_20_0_0_inv {R : Type} {G : (Zt6_9) → (Int) → (Int) → (Zt6_0) → (Zt6_2) → (Zt6_7) → (Zt6_3) → (Int) → (Ex → St → Option R) → Option R} {T : St} {k : Ex → St → Option R} {r : R} (h : o_6_20_0_0 G T k = some r) : ∃ p0 p1 p2 p3 p4 p5 p6 p7, T = T_6_20_0_0 p0 p1 p2 p3 p4 p5 p6 p7 ∧ G p0 p1 p2 p3 p4 p5 p6 p7 k = some r := by
  unfold o_6_20_0_0 at h
  split at h
  · obtain ⟨hs, h'⟩ := gd_some h
    refine ⟨_, _, _, _, _, _, _, _, (st_of (asg := [(0, _), (1, _), (7, _), (8, _)]) hs ⟨by assumption, by assumption, by assumption, by assumption, trivial⟩ (by assumption)).trans ?_, h'⟩
    kernel_rfl
  · cases h
noncomputable def O_6_20_0 {R : Type} : St → (Ex → St → Option R) → Option R := fun T k => o_6_20_0_0 G_6_20_0_0 T k
noncomputable def g_6_20 {R : Type} : List CV → List Blk → (CV → List Blk → Option R) → Option R := evFnL sm_6 FU (ovr noO (evFn sm_6 fns FU 1)) (ir20_t O_6_20_0) ir20
theorem body_6_20_0_0 {R : Type} (K0 : St → Option R) (K1 : Ex → St → Option R) (p0 : Zt6_9) (p1 : Int) (p2 : Int) (p3 : Zt6_0) (p4 : Zt6_2) (p5 : Zt6_7) (p6 : Zt6_3) (p7 : Int) : evLB (evCodeL sm_6 FU (ovr noO (evFn sm_6 fns FU 1)) .nil ir20_b0) (St.norm ir20_v0) (T_6_20_0_0 p0 p1 p2 p3 p4 p5 p6 p7) K0 K1 =
  bif decide (p2 < p1) then gd (inB p2 (List.length p0)) (bif (List.getD p0 (Int.toNat p2) Zd0).1 == p7 then K1 Ex.ret (X_6_20_0_0_0 p2 p3 p4 p5 p6 p7) else K0 (T_6_20_0_0 p0 p1 (IntKind.wrap IntKind.i64 (p2 + (1 : Int))) p3 p4 p5 p6 p7)) else K1 (Ex.exit (0 : Nat)) (X_6_20_0_0_1 p3 p4 p5 p6 p7) := by kernel_rfl
theorem Bgd_6_20_0_0 {R : Type} {c : Bool} {x : Option R} {y : Option Sp.E_6_20_0_0} {k0 : (Int) → (Zt6_0) → (Zt6_2) → (Zt6_7) → (Zt6_3) → (Int) → Option R} {k1 : (Zt6_0) → (Zt6_2) → (Zt6_7) → (Zt6_3) → (Int) → Option R} (h : x = Sp.B_6_20_0_0 y k0 k1) : gd c x = Sp.B_6_20_0_0 (gd c y) k0 k1 := by cases c; rfl; exact h
theorem Bcond_6_20_0_0 {R : Type} {c : Bool} {x x' : Option R} {y y' : Option Sp.E_6_20_0_0} {k0 : (Int) → (Zt6_0) → (Zt6_2) → (Zt6_7) → (Zt6_3) → (Int) → Option R} {k1 : (Zt6_0) → (Zt6_2) → (Zt6_7) → (Zt6_3) → (Int) → Option R} (h : x = Sp.B_6_20_0_0 y k0 k1) (h' : x' = Sp.B_6_20_0_0 y' k0 k1) : (bif c then x else x') = Sp.B_6_20_0_0 (bif c then y else y') k0 k1 := by cases c; exact h'; exact h
theorem loop_6_20_0_0 {R : Type} (k : Ex → St → Option R) : ∀ (m : Nat) (p0 : Zt6_9) (p1 : Int) (p2 : Int) (p3 : Zt6_0) (p4 : Zt6_2) (p5 : Zt6_7) (p6 : Zt6_3) (p7 : Int), evLoopN (evCodeL sm_6 FU (ovr noO (evFn sm_6 fns FU 1)) .nil ir20_b0) (St.norm ir20_v0) m (T_6_20_0_0 p0 p1 p2 p3 p4 p5 p6 p7) k = Sp.B_6_20_0_0 (Sp.L_6_20_0_0 m p0 p1 p2 p3 p4 p5 p6 p7) (fun p2 p3 p4 p5 p6 p7 => k Ex.ret (X_6_20_0_0_0 p2 p3 p4 p5 p6 p7)) (fun p3 p4 p5 p6 p7 => k (Ex.exit (0 : Nat)) (X_6_20_0_0_1 p3 p4 p5 p6 p7))
  | 0, _, _, _, _, _, _, _, _ => rfl
  | m + 1, p0, p1, p2, p3, p4, p5, p6, p7 => by
    rw [evLoopN_succ, body_6_20_0_0, Sp.L_6_20_0_0]
    repeat' first | apply Bgd_6_20_0_0 | apply Bcond_6_20_0_0 | exact loop_6_20_0_0 k m _ _ _ _ _ _ _ _ | rfl
theorem ok_6_20_0_0 {R : Type} (T : St) (k : Ex → St → Option R) (r : R) (h0 : o_6_20_0_0 G_6_20_0_0 T k = some r) : evLoopN (evCode sm_6 FU (evFn sm_6 fns FU 1) ir20_b0) (St.norm ir20_v0) FU T k = some r := by
  obtain ⟨p0, p1, p2, p3, p4, p5, p6, p7, rfl, h⟩ := o_6_20_0_0_inv h0
  refine evLoopN_L (t := .nil) noO_ok trivial _ _ _ _ ?_
  rw [loop_6_20_0_0]
  exact h
theorem OK_6_20_0 {R : Type} (T : St) (k : Ex → St → Option R) (r : R) (h : O_6_20_0 T k = some r) : evLoopN (evCode sm_6 FU (evFn sm_6 fns FU 1) ir20_b0) (St.norm ir20_v0) FU T k = some r := ok_6_20_0_0 T k r h
theorem g_6_20_ok {R : Type} (args : List CV) (hp : List Blk) (k : CV → List Blk → Option R) (r : R) (h : g_6_20 args hp k = some r) : evFn sm_6 fns FU 2 20 args hp k = some r :=
  evFnL_sound (fn := ir20) (t := (ir20_t O_6_20_0)) (o := noO) rfl noO_ok (ir20_tok (fun T k r => OK_6_20_0 T k r)) h
theorem ov_6_6_ok {R : Type} : OvrOK (R := R) (fun f' => bif Nat.beq f' 20 then some (g_6_20) else none) (evFn sm_6 fns FU 2) := by
  intro f' g h args hp k r hg
  dsimp only at h
  by_cases h20 : f' = 20
  · subst h20
    injection h with h
    subst h
    exact evFn_le 0 (g_6_20_ok _ _ _ _ hg)
  rw [nbeq_ne h20, cond_false] at h
  cases h
noncomputable def F_6 (a0 : (List ((List Int) × (Int × (Int × ((List Int) × (Int × Unit))))))) (a1 : ((List (Int × (Int × (Int × (Int × (Int × (Int × (Bool × (Int × Unit))))))))) × ((List (Int × (Int × (Int × (Int × (Int × ((List Int) × (Int × Unit)))))))) × (Int × (Bool × Unit))))) (a2 : Int) (a3 : Int) : Option (Bool) :=
  gd Sp.p_8 (bif !Sp.v_8.1 then gd Sp.p_8 (some (Sp.v_8.1)) else gd (Sp.p_9 a0 a1) (bif !(Sp.v_9 a0 a1).1 then gd Sp.p_8 (some (Sp.v_8.1)) else gd (Sp.p_18 a0 a1) (bif !(Sp.v_18 a0 a1).1 then gd Sp.p_8 (some (Sp.v_8.1)) else bif (↑(List.length a0) : Int) == (0 : Int) then gd Sp.p_8 (some (Sp.v_8.1)) else bif (↑(List.length (a1.2.1)) : Int) == (0 : Int) then gd Sp.p_8 (some (Sp.v_8.1)) else gd ((↑(List.length (a1.2.1)) : Int) == (↑(List.length (a1.2.1)) : Int) && room (Int.toNat (↑(List.length (a1.2.1)) : Int)) (72 : Nat)) (gd (Sp.p_24 (a1.1, List.replicate (Int.toNat (↑(List.length (a1.2.1)) : Int)) Zd2, a1.2.2)) (bif !(Sp.v_24 (a1.1, List.replicate (Int.toNat (↑(List.length (a1.2.1)) : Int)) Zd2, a1.2.2)).1 then some false else gd (Sp.p_19 a0 (a1.1, List.replicate (Int.toNat (↑(List.length (a1.2.1)) : Int)) Zd2, a1.2.2)) (bif (Sp.v_19 a0 (a1.1, List.replicate (Int.toNat (↑(List.length (a1.2.1)) : Int)) Zd2, a1.2.2)).2.1 != (0 : Int) then some false else bif (↑(List.length ((Sp.v_19 a0 (a1.1, List.replicate (Int.toNat (↑(List.length (a1.2.1)) : Int)) Zd2, a1.2.2)).1)) : Int) != (0 : Int) then some false else gd (!(↑(List.length a0) : Int) == (0 : Int)) (gd (!(↑(List.length (a1.2.1)) : Int) == (0 : Int)) (gd (Sp.p_25 a0 a1 (Int.tmod (IntKind.wrap IntKind.i64 a3) (↑(List.length (a1.2.1)) : Int))) (gd (Sp.p_17 a0 a1 (Int.tmod (IntKind.wrap IntKind.i64 a2) (↑(List.length a0) : Int))) (bif (Sp.v_25 a0 a1 (Int.tmod (IntKind.wrap IntKind.i64 a3) (↑(List.length (a1.2.1)) : Int))).2.1 != (0 : Int) then some false else bif (Sp.v_17 a0 a1 (Int.tmod (IntKind.wrap IntKind.i64 a2) (↑(List.length a0) : Int))).2.1 != (0 : Int) then some false else Sp.B_6_20_0_0 (Sp.L_6_20_0_0 (4611686018427387904 : Nat) ((Sp.v_25 a0 a1 (Int.tmod (IntKind.wrap IntKind.i64 a3) (↑(List.length (a1.2.1)) : Int))).1) (↑(List.length ((Sp.v_25 a0 a1 (Int.tmod (IntKind.wrap IntKind.i64 a3) (↑(List.length (a1.2.1)) : Int))).1)) : Int) (0 : Int) a1 (a1.1) (a1.2.2) (List.replicate (Int.toNat (↑(List.length (a1.2.1)) : Int)) Zd2) (Int.tmod (IntKind.wrap IntKind.i64 a2) (↑(List.length a0) : Int))) (fun y11 y12 y13 y14 y15 y16 => gd (inB y16 (List.length a0)) (gd (Sp.p_27 ((List.getD a0 (Int.toNat y16) (Ty.dflt (Ty.pair Ty.str (Ty.pair (Ty.int IntKind.i64) (Ty.pair (Ty.int IntKind.i64) (Ty.pair (Ty.slice (Ty.int IntKind.i64)) (Ty.pair (Ty.int IntKind.i64) Ty.unit))))))).2.2.2.1) (Int.tmod (IntKind.wrap IntKind.i64 a3) (↑(List.length (a1.2.1)) : Int))) (bif !(Sp.v_27 ((List.getD a0 (Int.toNat y16) (Ty.dflt (Ty.pair Ty.str (Ty.pair (Ty.int IntKind.i64) (Ty.pair (Ty.int IntKind.i64) (Ty.pair (Ty.slice (Ty.int IntKind.i64)) (Ty.pair (Ty.int IntKind.i64) Ty.unit))))))).2.2.2.1) (Int.tmod (IntKind.wrap IntKind.i64 a3) (↑(List.length (a1.2.1)) : Int))).1 then bif decide (y11 ≥ (0 : Int)) == decide ((↑(List.length ((Sp.v_17 a0 a1 (Int.tmod (IntKind.wrap IntKind.i64 a2) (↑(List.length a0) : Int))).1)) : Int) > (0 : Int)) then bif decide (y11 < (0 : Int)) then some true else gd (inB y11 (List.length ((Sp.v_25 a0 a1 (Int.tmod (IntKind.wrap IntKind.i64 a3) (↑(List.length (a1.2.1)) : Int))).1))) (gd (Sp.p_22 ((List.getD ((Sp.v_25 a0 a1 (Int.tmod (IntKind.wrap IntKind.i64 a3) (↑(List.length (a1.2.1)) : Int))).1) (Int.toNat y11) Zd0).2.1) ((Sp.v_17 a0 a1 (Int.tmod (IntKind.wrap IntKind.i64 a2) (↑(List.length a0) : Int))).1)) (some ((Sp.v_22 ((List.getD ((Sp.v_25 a0 a1 (Int.tmod (IntKind.wrap IntKind.i64 a3) (↑(List.length (a1.2.1)) : Int))).1) (Int.toNat y11) Zd0).2.1) ((Sp.v_17 a0 a1 (Int.tmod (IntKind.wrap IntKind.i64 a2) (↑(List.length a0) : Int))).1)).1))) else some false else bif (↑(List.length ((Sp.v_17 a0 a1 (Int.tmod (IntKind.wrap IntKind.i64 a2) (↑(List.length a0) : Int))).1)) : Int) == (1 : Int) then gd (inB (0 : Int) (List.length ((Sp.v_17 a0 a1 (Int.tmod (IntKind.wrap IntKind.i64 a2) (↑(List.length a0) : Int))).1))) (bif decide ((↑(List.length ((Sp.v_17 a0 a1 (Int.tmod (IntKind.wrap IntKind.i64 a2) (↑(List.length a0) : Int))).1)) : Int) > (0 : Int)) then some (decide (y11 ≥ (0 : Int)) == !List.getD ((Sp.v_17 a0 a1 (Int.tmod (IntKind.wrap IntKind.i64 a2) (↑(List.length a0) : Int))).1) (0 : Nat) (0 : Int) == Int.tmod (IntKind.wrap IntKind.i64 a3) (↑(List.length (a1.2.1)) : Int)) else some (decide (y11 ≥ (0 : Int)) == false)) else bif decide ((↑(List.length ((Sp.v_17 a0 a1 (Int.tmod (IntKind.wrap IntKind.i64 a2) (↑(List.length a0) : Int))).1)) : Int) > (0 : Int)) then some (decide (y11 ≥ (0 : Int)) == true) else some (decide (y11 ≥ (0 : Int)) == false)))) fun y29 y30 y31 y32 y33 => gd (inB y33 (List.length a0)) (gd (Sp.p_27 ((List.getD a0 (Int.toNat y33) (Ty.dflt (Ty.pair Ty.str (Ty.pair (Ty.int IntKind.i64) (Ty.pair (Ty.int IntKind.i64) (Ty.pair (Ty.slice (Ty.int IntKind.i64)) (Ty.pair (Ty.int IntKind.i64) Ty.unit))))))).2.2.2.1) (Int.tmod (IntKind.wrap IntKind.i64 a3) (↑(List.length (a1.2.1)) : Int))) (bif !(Sp.v_27 ((List.getD a0 (Int.toNat y33) (Ty.dflt (Ty.pair Ty.str (Ty.pair (Ty.int IntKind.i64) (Ty.pair (Ty.int IntKind.i64) (Ty.pair (Ty.slice (Ty.int IntKind.i64)) (Ty.pair (Ty.int IntKind.i64) Ty.unit))))))).2.2.2.1) (Int.tmod (IntKind.wrap IntKind.i64 a3) (↑(List.length (a1.2.1)) : Int))).1 then bif false == decide ((↑(List.length ((Sp.v_17 a0 a1 (Int.tmod (IntKind.wrap IntKind.i64 a2) (↑(List.length a0) : Int))).1)) : Int) > (0 : Int)) then some true else some false else bif (↑(List.length ((Sp.v_17 a0 a1 (Int.tmod (IntKind.wrap IntKind.i64 a2) (↑(List.length a0) : Int))).1)) : Int) == (1 : Int) then gd (inB (0 : Int) (List.length ((Sp.v_17 a0 a1 (Int.tmod (IntKind.wrap IntKind.i64 a2) (↑(List.length a0) : Int))).1))) (bif decide ((↑(List.length ((Sp.v_17 a0 a1 (Int.tmod (IntKind.wrap IntKind.i64 a2) (↑(List.length a0) : Int))).1)) : Int) > (0 : Int)) then some (false == !List.getD ((Sp.v_17 a0 a1 (Int.tmod (IntKind.wrap IntKind.i64 a2) (↑(List.length a0) : Int))).1) (0 : Nat) (0 : Int) == Int.tmod (IntKind.wrap IntKind.i64 a3) (↑(List.length (a1.2.1)) : Int)) else some true) else bif decide ((↑(List.length ((Sp.v_17 a0 a1 (Int.tmod (IntKind.wrap IntKind.i64 a2) (↑(List.length a0) : Int))).1)) : Int) > (0 : Int)) then some false else some true))))))))))))
theorem fn_6 (a0 : (List ((List Int) × (Int × (Int × ((List Int) × (Int × Unit))))))) (a1 : ((List (Int × (Int × (Int × (Int × (Int × (Int × (Bool × (Int × Unit))))))))) × ((List (Int × (Int × (Int × (Int × (Int × ((List Int) × (Int × Unit)))))))) × (Int × (Bool × Unit))))) (a2 : Int) (a3 : Int) : evFnL sm_6 FU (ovr (fun f' => bif Nat.beq f' 20 then some (g_6_20) else none) (evFn sm_6 fns FU 2)) .nil ir6 (ofH [(.slice (.pair .str Zy6_8)), Zy6_4, (.int .u8), (.int .u8)] (a0, a1, a2, a3, ())) [] bk = F_6 a0 a1 a2 a3 := by kernel_rfl
theorem run_6 (a0 : (List ((List Int) × (Int × (Int × ((List Int) × (Int × Unit))))))) (a1 : ((List (Int × (Int × (Int × (Int × (Int × (Int × (Bool × (Int × Unit))))))))) × ((List (Int × (Int × (Int × (Int × (Int × ((List Int) × (Int × Unit)))))))) × (Int × (Bool × Unit))))) (a2 : Int) (a3 : Int) {b : Bool} (h : F_6 a0 a1 a2 a3 = some b) : evFn sm_6 fns FU 3 6 (ofH [(.slice (.pair .str Zy6_8)), Zy6_4, (.int .u8), (.int .u8)] (a0, a1, a2, a3, ())) [] bk = some b :=
  evFnL_sound (fn := ir6) (t := .nil) (o := (fun f' => bif Nat.beq f' 20 then some (g_6_20) else none)) rfl ov_6_6_ok trivial ((fn_6 _ _ _ _).trans h)
end
end Go.Ev
namespace Go.Proofs
open Go.Shelf
end Go.Proofs
namespace Go.Ev
open Go Go.Proofs Go.RowKit
set_option maxRecDepth 100000
set_option maxHeartbeats 4000000
noncomputable def smB : Nat → Bool := fun f => [8, 9, 10, 11, 14, 16, 17, 18, 19, 22, 23, 24, 25, 27, 29, 31, 32, 34, 36, 37, 39, 40, 42, 44, 45, 46, 47, 51, 52, 54, 55, 56, 57, 59, 60, 61, 62, 64, 65, 66, 67, 69, 70].contains f
theorem hm0 : Try.prog.follows .mixedOrders = true := by kernel_rfl
theorem key6 : fnKey Try.prog smB 6 = ir6.key := by kernel_rfl
theorem key8 : fnKey Try.prog smB 8 = ir8.key := by kernel_rfl
theorem key9 : fnKey Try.prog smB 9 = ir9.key := by kernel_rfl
theorem key10 : fnKey Try.prog smB 10 = ir10.key := by kernel_rfl
theorem key11 : fnKey Try.prog smB 11 = ir11.key := by kernel_rfl
theorem key12 : fnKey Try.prog smB 12 = ir12.key := by kernel_rfl
theorem key17 : fnKey Try.prog smB 17 = ir17.key := by kernel_rfl
theorem key18 : fnKey Try.prog smB 18 = ir18.key := by kernel_rfl
theorem key19 : fnKey Try.prog smB 19 = ir19.key := by kernel_rfl
theorem key20 : fnKey Try.prog smB 20 = ir20.key := by kernel_rfl
theorem key22 : fnKey Try.prog smB 22 = ir22.key := by kernel_rfl
theorem key23 : fnKey Try.prog smB 23 = ir23.key := by kernel_rfl
theorem key24 : fnKey Try.prog smB 24 = ir24.key := by kernel_rfl
theorem key25 : fnKey Try.prog smB 25 = ir25.key := by kernel_rfl
theorem key26 : fnKey Try.prog smB 26 = ir26.key := by kernel_rfl
theorem key27 : fnKey Try.prog smB 27 = ir27.key := by kernel_rfl
theorem key31 : fnKey Try.prog smB 31 = ir31.key := by kernel_rfl
theorem key32 : fnKey Try.prog smB 32 = ir32.key := by kernel_rfl
theorem key33 : fnKey Try.prog smB 33 = ir33.key := by kernel_rfl
theorem key34 : fnKey Try.prog smB 34 = ir34.key := by kernel_rfl
theorem key35 : fnKey Try.prog smB 35 = ir35.key := by kernel_rfl
theorem key36 : fnKey Try.prog smB 36 = ir36.key := by kernel_rfl
theorem key37 : fnKey Try.prog smB 37 = ir37.key := by kernel_rfl
theorem key38 : fnKey Try.prog smB 38 = ir38.key := by kernel_rfl
theorem key39 : fnKey Try.prog smB 39 = ir39.key := by kernel_rfl
theorem key40 : fnKey Try.prog smB 40 = ir40.key := by kernel_rfl
theorem key41 : fnKey Try.prog smB 41 = ir41.key := by kernel_rfl
theorem key42 : fnKey Try.prog smB 42 = ir42.key := by kernel_rfl
theorem key43 : fnKey Try.prog smB 43 = ir43.key := by kernel_rfl
theorem key44 : fnKey Try.prog smB 44 = ir44.key := by kernel_rfl
theorem key45 : fnKey Try.prog smB 45 = ir45.key := by kernel_rfl
theorem key46 : fnKey Try.prog smB 46 = ir46.key := by kernel_rfl
theorem key47 : fnKey Try.prog smB 47 = ir47.key := by kernel_rfl
theorem key48 : fnKey Try.prog smB 48 = ir48.key := by kernel_rfl
theorem key49 : fnKey Try.prog smB 49 = ir49.key := by kernel_rfl
theorem key50 : fnKey Try.prog smB 50 = ir50.key := by kernel_rfl
theorem key51 : fnKey Try.prog smB 51 = ir51.key := by kernel_rfl
theorem key52 : fnKey Try.prog smB 52 = ir52.key := by kernel_rfl
theorem key53 : fnKey Try.prog smB 53 = ir53.key := by kernel_rfl
theorem key54 : fnKey Try.prog smB 54 = ir54.key := by kernel_rfl
theorem key55 : fnKey Try.prog smB 55 = ir55.key := by kernel_rfl
theorem key56 : fnKey Try.prog smB 56 = ir56.key := by kernel_rfl
theorem key57 : fnKey Try.prog smB 57 = ir57.key := by kernel_rfl
theorem key58 : fnKey Try.prog smB 58 = ir58.key := by kernel_rfl
theorem key59 : fnKey Try.prog smB 59 = ir59.key := by kernel_rfl
theorem key61 : fnKey Try.prog smB 61 = ir61.key := by kernel_rfl
theorem key62 : fnKey Try.prog smB 62 = ir62.key := by kernel_rfl
theorem key63 : fnKey Try.prog smB 63 = ir63.key := by kernel_rfl
theorem key64 : fnKey Try.prog smB 64 = ir64.key := by kernel_rfl
theorem key65 : fnKey Try.prog smB 65 = ir65.key := by kernel_rfl
theorem key66 : fnKey Try.prog smB 66 = ir66.key := by kernel_rfl
theorem key67 : fnKey Try.prog smB 67 = ir67.key := by kernel_rfl
theorem key68 : fnKey Try.prog smB 68 = ir68.key := by kernel_rfl
theorem key69 : fnKey Try.prog smB 69 = ir69.key := by kernel_rfl
theorem key70 : fnKey Try.prog smB 70 = ir70.key := by kernel_rfl
theorem fns_ok : FnsOK Try.prog smB fns := by
  intro f fn h
  unfold fns at h
  split at h
  · simp only [Option.some.injEq] at h; subst h; exact key6
  · simp only [Option.some.injEq] at h; subst h; exact key8
  · simp only [Option.some.injEq] at h; subst h; exact key9
  · simp only [Option.some.injEq] at h; subst h; exact key10
  · simp only [Option.some.injEq] at h; subst h; exact key11
  · simp only [Option.some.injEq] at h; subst h; exact key12
  · simp only [Option.some.injEq] at h; subst h; exact key17
  · simp only [Option.some.injEq] at h; subst h; exact key18
  · simp only [Option.some.injEq] at h; subst h; exact key19
  · simp only [Option.some.injEq] at h; subst h; exact key20
  · simp only [Option.some.injEq] at h; subst h; exact key22
  · simp only [Option.some.injEq] at h; subst h; exact key23
  · simp only [Option.some.injEq] at h; subst h; exact key24
  · simp only [Option.some.injEq] at h; subst h; exact key25
  · simp only [Option.some.injEq] at h; subst h; exact key26
  · simp only [Option.some.injEq] at h; subst h; exact key27
  · simp only [Option.some.injEq] at h; subst h; exact key31
  · simp only [Option.some.injEq] at h; subst h; exact key32
  · simp only [Option.some.injEq] at h; subst h; exact key33
  · simp only [Option.some.injEq] at h; subst h; exact key34
  · simp only [Option.some.injEq] at h; subst h; exact key35
  · simp only [Option.some.injEq] at h; subst h; exact key36
  · simp only [Option.some.injEq] at h; subst h; exact key37
  · simp only [Option.some.injEq] at h; subst h; exact key38
  · simp only [Option.some.injEq] at h; subst h; exact key39
  · simp only [Option.some.injEq] at h; subst h; exact key40
  · simp only [Option.some.injEq] at h; subst h; exact key41
  · simp only [Option.some.injEq] at h; subst h; exact key42
  · simp only [Option.some.injEq] at h; subst h; exact key43
  · simp only [Option.some.injEq] at h; subst h; exact key44
  · simp only [Option.some.injEq] at h; subst h; exact key45
  · simp only [Option.some.injEq] at h; subst h; exact key46
  · simp only [Option.some.injEq] at h; subst h; exact key47
  · simp only [Option.some.injEq] at h; subst h; exact key48
  · simp only [Option.some.injEq] at h; subst h; exact key49
  · simp only [Option.some.injEq] at h; subst h; exact key50
  · simp only [Option.some.injEq] at h; subst h; exact key51
  · simp only [Option.some.injEq] at h; subst h; exact key52
  · simp only [Option.some.injEq] at h; subst h; exact key53
  · simp only [Option.some.injEq] at h; subst h; exact key54
  · simp only [Option.some.injEq] at h; subst h; exact key55
  · simp only [Option.some.injEq] at h; subst h; exact key56
  · simp only [Option.some.injEq] at h; subst h; exact key57
  · simp only [Option.some.injEq] at h; subst h; exact key58
  · simp only [Option.some.injEq] at h; subst h; exact key59
  · simp only [Option.some.injEq] at h; subst h; exact key61
  · simp only [Option.some.injEq] at h; subst h; exact key62
  · simp only [Option.some.injEq] at h; subst h; exact key63
  · simp only [Option.some.injEq] at h; subst h; exact key64
  · simp only [Option.some.injEq] at h; subst h; exact key65
  · simp only [Option.some.injEq] at h; subst h; exact key66
  · simp only [Option.some.injEq] at h; subst h; exact key67
  · simp only [Option.some.injEq] at h; subst h; exact key68
  · simp only [Option.some.injEq] at h; subst h; exact key69
  · simp only [Option.some.injEq] at h; subst h; exact key70
  · cases h
theorem sok_42 : SummOK Try.prog 42 actS := by
  refine summ_clo (call := evFn (fun _ => none) fns FU 3) (fun base => ev_sound hm0 (fun f s h => by cases h) (fun f s h => by cases h) fns_ok 3) (by kernel_rfl) ?_
  intro look cs cs' c2 hp hF
  obtain ⟨x, rfl⟩ := purify_ofH hp
  rw [toH_ofH] at hF
  injection hF with hF
  injection hF with _ hF
  subst hF
  obtain ⟨F, b, _⟩ := x
  exact ⟨53, .pair (.ptr 0 []) (.pair (.ptr 1 []) cunit), .pair (.ref (.int .i64) b) (.pair (.ref (.pair (.slice (.pair (.int .i64) (.pair (.int .i64) (.pair (.int .i64) (.pair (.int .i64) (.pair (.int .i64) (.pair (.int .i64) (.pair .bool (.pair (.int .i64) .unit))))))))) (.pair (.slice (.pair (.int .i64) (.pair (.int .i64) (.pair (.int .i64) (.pair (.int .i64) (.pair (.int .i64) (.pair (.slice (.int .i64)) (.pair (.int .i64) .unit)))))))) (.pair (.int .i64) (.pair .bool .unit)))) F) cunit), [.int .i64, (.pair (.slice (.pair (.int .i64) (.pair (.int .i64) (.pair (.int .i64) (.pair (.int .i64) (.pair (.int .i64) (.pair (.int .i64) (.pair .bool (.pair (.int .i64) .unit))))))))) (.pair (.slice (.pair (.int .i64) (.pair (.int .i64) (.pair (.int .i64) (.pair (.int .i64) (.pair (.int .i64) (.pair (.slice (.int .i64)) (.pair (.int .i64) .unit)))))))) (.pair (.int .i64) (.pair .bool .unit))))], [.mem (.int .i64 b), .mem (.pure (.pair (.slice (.pair (.int .i64) (.pair (.int .i64) (.pair (.int .i64) (.pair (.int .i64) (.pair (.int .i64) (.pair (.int .i64) (.pair .bool (.pair (.int .i64) .unit))))))))) (.pair (.slice (.pair (.int .i64) (.pair (.int .i64) (.pair (.int .i64) (.pair (.int .i64) (.pair (.int .i64) (.pair (.slice (.int .i64)) (.pair (.int .i64) .unit)))))))) (.pair (.int .i64) (.pair .bool .unit)))) F)], rfl, by kernel_rfl, by kernel_rfl⟩
theorem smok_57 : ∀ f s, sm_57 f = some s → SummOK Try.prog f s := by
  intro f s h
  unfold sm_57 at h
  cases h
theorem call_57 {R : Type} (n base : Nat) : CallOK Try.prog base (evFn (R := R) sm_57 fns FU n) := ev_sound hm0 smok_57 (fun f s h => (smok_57 f s h).2.1) fns_ok n
theorem sok_57 : SummOK Try.prog 57 s_57 := summ_shN (by decide) (fun _ => rfl) (fun _ => rfl) (call_57 1) (by kernel_rfl) run_57
theorem smok_51 : ∀ f s, sm_51 f = some s → SummOK Try.prog f s := by
  intro f s h
  unfold sm_51 at h
  by_cases h57 : f = 57
  · subst h57
    injection h with h
    subst h
    exact sok_57
  rw [nbeq_ne h57, cond_false] at h
  cases h
theorem call_51 {R : Type} (n base : Nat) : CallOK Try.prog base (evFn (R := R) sm_51 fns FU n) := ev_sound hm0 smok_51 (fun f s h => (smok_51 f s h).2.1) fns_ok n
theorem sok_51 : SummOK Try.prog 51 s_51 := summ_shN (by decide) (fun _ => rfl) (fun _ => rfl) (call_51 1) (by kernel_rfl) run_51
theorem sok_37 : SummOK Try.prog 37 s_37 := hand_37 sok_51
theorem smok_10 : ∀ f s, sm_10 f = some s → SummOK Try.prog f s := by
  intro f s h
  unfold sm_10 at h
  by_cases h37 : f = 37
  · subst h37
    injection h with h
    subst h
    exact sok_37
  rw [nbeq_ne h37, cond_false] at h
  cases h
theorem call_10 {R : Type} (n base : Nat) : CallOK Try.prog base (evFn (R := R) sm_10 fns FU n) := ev_sound hm0 smok_10 (fun f s h => (smok_10 f s h).2.1) fns_ok n
theorem sok_10 : SummOK Try.prog 10 s_10 := summ_shN (by decide) (fun _ => rfl) (fun _ => rfl) (call_10 4) (by kernel_rfl) run_10
theorem smok_61 : ∀ f s, sm_61 f = some s → SummOK Try.prog f s := by
  intro f s h
  unfold sm_61 at h
  cases h
theorem call_61 {R : Type} (n base : Nat) : CallOK Try.prog base (evFn (R := R) sm_61 fns FU n) := ev_sound hm0 smok_61 (fun f s h => (smok_61 f s h).2.1) fns_ok n
theorem sok_61 : SummOK Try.prog 61 s_61 := summ_shN (by decide) (fun _ => rfl) (fun _ => rfl) (call_61 1) (by kernel_rfl) run_61
theorem smok_70 : ∀ f s, sm_70 f = some s → SummOK Try.prog f s := by
  intro f s h
  unfold sm_70 at h
  by_cases h61 : f = 61
  · subst h61
    injection h with h
    subst h
    exact sok_61
  rw [nbeq_ne h61, cond_false] at h
  cases h
theorem call_70 {R : Type} (n base : Nat) : CallOK Try.prog base (evFn (R := R) sm_70 fns FU n) := ev_sound hm0 smok_70 (fun f s h => (smok_70 f s h).2.1) fns_ok n
theorem sok_70 : SummOK Try.prog 70 s_70 := summ_shN (by decide) (fun _ => rfl) (fun _ => rfl) (call_70 1) (by kernel_rfl) run_70
theorem smok_65 : ∀ f s, sm_65 f = some s → SummOK Try.prog f s := by
  intro f s h
  unfold sm_65 at h
  by_cases h70 : f = 70
  · subst h70
    injection h with h
    subst h
    exact sok_70
  rw [nbeq_ne h70, cond_false] at h
  cases h
theorem call_65 {R : Type} (n base : Nat) : CallOK Try.prog base (evFn (R := R) sm_65 fns FU n) := ev_sound hm0 smok_65 (fun f s h => (smok_65 f s h).2.1) fns_ok n
theorem sok_65 : SummOK Try.prog 65 s_65 := summ_shN (by decide) (fun _ => rfl) (fun _ => rfl) (call_65 4) (by kernel_rfl) run_65
theorem smok_66 : ∀ f s, sm_66 f = some s → SummOK Try.prog f s := by
  intro f s h
  unfold sm_66 at h
  cases h
theorem call_66 {R : Type} (n base : Nat) : CallOK Try.prog base (evFn (R := R) sm_66 fns FU n) := ev_sound hm0 smok_66 (fun f s h => (smok_66 f s h).2.1) fns_ok n
theorem sok_66 : SummOK Try.prog 66 s_66 := summ_shN (by decide) (fun _ => rfl) (fun _ => rfl) (call_66 1) (by kernel_rfl) run_66
theorem smok_67 : ∀ f s, sm_67 f = some s → SummOK Try.prog f s := by
  intro f s h
  unfold sm_67 at h
  cases h
theorem call_67 {R : Type} (n base : Nat) : CallOK Try.prog base (evFn (R := R) sm_67 fns FU n) := ev_sound hm0 smok_67 (fun f s h => (smok_67 f s h).2.1) fns_ok n
theorem sok_67 : SummOK Try.prog 67 s_67 := summ_shN (by decide) (fun _ => rfl) (fun _ => rfl) (call_67 1) (by kernel_rfl) run_67
theorem smok_62 : ∀ f s, sm_62 f = some s → SummOK Try.prog f s := by
  intro f s h
  unfold sm_62 at h
  by_cases h61 : f = 61
  · subst h61
    injection h with h
    subst h
    exact sok_61
  rw [nbeq_ne h61, cond_false] at h
  by_cases h65 : f = 65
  · subst h65
    injection h with h
    subst h
    exact sok_65
  rw [nbeq_ne h65, cond_false] at h
  by_cases h66 : f = 66
  · subst h66
    injection h with h
    subst h
    exact sok_66
  rw [nbeq_ne h66, cond_false] at h
  by_cases h67 : f = 67
  · subst h67
    injection h with h
    subst h
    exact sok_67
  rw [nbeq_ne h67, cond_false] at h
  cases h
theorem call_62 {R : Type} (n base : Nat) : CallOK Try.prog base (evFn (R := R) sm_62 fns FU n) := ev_sound hm0 smok_62 (fun f s h => (smok_62 f s h).2.1) fns_ok n
theorem sok_62 : SummOK Try.prog 62 s_62 := summ_shN (by decide) (fun _ => rfl) (fun _ => rfl) (call_62 1) (by kernel_rfl) run_62
theorem smok_64 : ∀ f s, sm_64 f = some s → SummOK Try.prog f s := by
  intro f s h
  unfold sm_64 at h
  by_cases h61 : f = 61
  · subst h61
    injection h with h
    subst h
    exact sok_61
  rw [nbeq_ne h61, cond_false] at h
  cases h
theorem call_64 {R : Type} (n base : Nat) : CallOK Try.prog base (evFn (R := R) sm_64 fns FU n) := ev_sound hm0 smok_64 (fun f s h => (smok_64 f s h).2.1) fns_ok n
theorem sok_64 : SummOK Try.prog 64 s_64 := summ_shN (by decide) (fun _ => rfl) (fun _ => rfl) (call_64 1) (by kernel_rfl) run_64
theorem smok_52 : ∀ f s, sm_52 f = some s → SummOK Try.prog f s := by
  intro f s h
  unfold sm_52 at h
  by_cases h60 : f = 60
  · subst h60
    injection h with h
    subst h
    exact sok_60
  rw [nbeq_ne h60, cond_false] at h
  by_cases h61 : f = 61
  · subst h61
    injection h with h
    subst h
    exact sok_61
  rw [nbeq_ne h61, cond_false] at h
  by_cases h62 : f = 62
  · subst h62
    injection h with h
    subst h
    exact sok_62
  rw [nbeq_ne h62, cond_false] at h
  by_cases h64 : f = 64
  · subst h64
    injection h with h
    subst h
    exact sok_64
  rw [nbeq_ne h64, cond_false] at h
  cases h
theorem call_52 {R : Type} (n base : Nat) : CallOK Try.prog base (evFn (R := R) sm_52 fns FU n) := ev_sound hm0 smok_52 (fun f s h => (smok_52 f s h).2.1) fns_ok n
theorem sok_52 : SummOK Try.prog 52 s_52 := summ_shN (by decide) (fun _ => rfl) (fun _ => rfl) (call_52 4) (by kernel_rfl) run_52
theorem smok_40 : ∀ f s, sm_40 f = some s → SummOK Try.prog f s := by
  intro f s h
  unfold sm_40 at h
  by_cases h37 : f = 37
  · subst h37
    injection h with h
    subst h
    exact sok_37
  rw [nbeq_ne h37, cond_false] at h
  by_cases h52 : f = 52
  · subst h52
    injection h with h
    subst h
    exact sok_52
  rw [nbeq_ne h52, cond_false] at h
  cases h
theorem call_40 {R : Type} (n base : Nat) : CallOK Try.prog base (evFn (R := R) sm_40 fns FU n) := ev_sound hm0 smok_40 (fun f s h => (smok_40 f s h).2.1) fns_ok n
theorem sok_40 : SummOK Try.prog 40 s_40 := summ_shN (by decide) (fun _ => rfl) (fun _ => rfl) (call_40 1) (by kernel_rfl) run_40
theorem smok_19 : ∀ f s, sm_19 f = some s → SummOK Try.prog f s := by
  intro f s h
  unfold sm_19 at h
  by_cases h40 : f = 40
  · subst h40
    injection h with h
    subst h
    exact sok_40
  rw [nbeq_ne h40, cond_false] at h
  by_cases h42 : f = 42
  · subst h42
    injection h with h
    subst h
    exact sok_42
  rw [nbeq_ne h42, cond_false] at h
  cases h
theorem call_19 {R : Type} (n base : Nat) : CallOK Try.prog base (evFn (R := R) sm_19 fns FU n) := ev_sound hm0 smok_19 (fun f s h => (smok_19 f s h).2.1) fns_ok n
theorem sok_19 : SummOK Try.prog 19 s_19 := summ_sh (fun _ => rfl) (fun _ => rfl) (call_19 4) (by kernel_rfl) run_19
theorem smok_25 : ∀ f s, sm_25 f = some s → SummOK Try.prog f s := by
  intro f s h
  unfold sm_25 at h
  by_cases h40 : f = 40
  · subst h40
    injection h with h
    subst h
    exact sok_40
  rw [nbeq_ne h40, cond_false] at h
  by_cases h42 : f = 42
  · subst h42
    injection h with h
    subst h
    exact sok_42
  rw [nbeq_ne h42, cond_false] at h
  cases h
theorem call_25 {R : Type} (n base : Nat) : CallOK Try.prog base (evFn (R := R) sm_25 fns FU n) := ev_sound hm0 smok_25 (fun f s h => (smok_25 f s h).2.1) fns_ok n
theorem sok_25 : SummOK Try.prog 25 s_25 := summ_sh (fun _ => rfl) (fun _ => rfl) (call_25 4) (by kernel_rfl) run_25
theorem smok_31 : ∀ f s, sm_31 f = some s → SummOK Try.prog f s := by
  intro f s h
  unfold sm_31 at h
  cases h
theorem call_31 {R : Type} (n base : Nat) : CallOK Try.prog base (evFn (R := R) sm_31 fns FU n) := ev_sound hm0 smok_31 (fun f s h => (smok_31 f s h).2.1) fns_ok n
theorem sok_31 : SummOK Try.prog 31 s_31 := summ_shN (by decide) (fun _ => rfl) (fun _ => rfl) (call_31 1) (by kernel_rfl) run_31
theorem smok_47 : ∀ f s, sm_47 f = some s → SummOK Try.prog f s := by
  intro f s h
  unfold sm_47 at h
  cases h
theorem call_47 {R : Type} (n base : Nat) : CallOK Try.prog base (evFn (R := R) sm_47 fns FU n) := ev_sound hm0 smok_47 (fun f s h => (smok_47 f s h).2.1) fns_ok n
theorem sok_47 : SummOK Try.prog 47 s_47 := summ_shN (by decide) (fun _ => rfl) (fun _ => rfl) (call_47 1) (by kernel_rfl) run_47
theorem smok_27 : ∀ f s, sm_27 f = some s → SummOK Try.prog f s := by
  intro f s h
  unfold sm_27 at h
  by_cases h47 : f = 47
  · subst h47
    injection h with h
    subst h
    exact sok_47
  rw [nbeq_ne h47, cond_false] at h
  cases h
theorem call_27 {R : Type} (n base : Nat) : CallOK Try.prog base (evFn (R := R) sm_27 fns FU n) := ev_sound hm0 smok_27 (fun f s h => (smok_27 f s h).2.1) fns_ok n
theorem sok_27 : SummOK Try.prog 27 s_27 := summ_shN (by decide) (fun _ => rfl) (fun _ => rfl) (call_27 1) (by kernel_rfl) run_27
theorem smok_32 : ∀ f s, sm_32 f = some s → SummOK Try.prog f s := by
  intro f s h
  unfold sm_32 at h
  by_cases h27 : f = 27
  · subst h27
    injection h with h
    subst h
    exact sok_27
  rw [nbeq_ne h27, cond_false] at h
  cases h
theorem call_32 {R : Type} (n base : Nat) : CallOK Try.prog base (evFn (R := R) sm_32 fns FU n) := ev_sound hm0 smok_32 (fun f s h => (smok_32 f s h).2.1) fns_ok n
theorem sok_32 : SummOK Try.prog 32 s_32 := summ_sh (fun _ => rfl) (fun _ => rfl) (call_32 1) (by kernel_rfl) run_32
theorem smok_8 : ∀ f s, sm_8 f = some s → SummOK Try.prog f s := by
  intro f s h
  unfold sm_8 at h
  by_cases h10 : f = 10
  · subst h10
    injection h with h
    subst h
    exact sok_10
  rw [nbeq_ne h10, cond_false] at h
  by_cases h19 : f = 19
  · subst h19
    injection h with h
    subst h
    exact sok_19
  rw [nbeq_ne h19, cond_false] at h
  by_cases h25 : f = 25
  · subst h25
    injection h with h
    subst h
    exact sok_25
  rw [nbeq_ne h25, cond_false] at h
  by_cases h31 : f = 31
  · subst h31
    injection h with h
    subst h
    exact sok_31
  rw [nbeq_ne h31, cond_false] at h
  by_cases h32 : f = 32
  · subst h32
    injection h with h
    subst h
    exact sok_32
  rw [nbeq_ne h32, cond_false] at h
  cases h
theorem call_8 {R : Type} (n base : Nat) : CallOK Try.prog base (evFn (R := R) sm_8 fns FU n) := ev_sound hm0 smok_8 (fun f s h => (smok_8 f s h).2.1) fns_ok n
theorem sok_8 : SummOK Try.prog 8 s_8 := summ_shN (by decide) (fun _ => rfl) (fun _ => rfl) (call_8 1) (by kernel_rfl) run_8
theorem smok_9 : ∀ f s, sm_9 f = some s → SummOK Try.prog f s := by
  intro f s h
  unfold sm_9 at h
  cases h
theorem call_9 {R : Type} (n base : Nat) : CallOK Try.prog base (evFn (R := R) sm_9 fns FU n) := ev_sound hm0 smok_9 (fun f s h => (smok_9 f s h).2.1) fns_ok n
theorem sok_9 : SummOK Try.prog 9 s_9 := summ_shN (by decide) (fun _ => rfl) (fun _ => rfl) (call_9 4) (by kernel_rfl) run_9
theorem smok_17 : ∀ f s, sm_17 f = some s → SummOK Try.prog f s := by
  intro f s h
  unfold sm_17 at h
  by_cases h40 : f = 40
  · subst h40
    injection h with h
    subst h
    exact sok_40
  rw [nbeq_ne h40, cond_false] at h
  by_cases h42 : f = 42
  · subst h42
    injection h with h
    subst h
    exact sok_42
  rw [nbeq_ne h42, cond_false] at h
  cases h
theorem call_17 {R : Type} (n base : Nat) : CallOK Try.prog base (evFn (R := R) sm_17 fns FU n) := ev_sound hm0 smok_17 (fun f s h => (smok_17 f s h).2.1) fns_ok n
theorem sok_17 : SummOK Try.prog 17 s_17 := summ_sh (fun _ => rfl) (fun _ => rfl) (call_17 3) (by kernel_rfl) run_17
theorem smok_39 : ∀ f s, sm_39 f = some s → SummOK Try.prog f s := by
  intro f s h
  unfold sm_39 at h
  cases h
theorem call_39 {R : Type} (n base : Nat) : CallOK Try.prog base (evFn (R := R) sm_39 fns FU n) := ev_sound hm0 smok_39 (fun f s h => (smok_39 f s h).2.1) fns_ok n
theorem sok_39 : SummOK Try.prog 39 s_39 := summ_shN (by decide) (fun _ => rfl) (fun _ => rfl) (call_39 1) (by kernel_rfl) run_39
theorem smok_11 : ∀ f s, sm_11 f = some s → SummOK Try.prog f s := by
  intro f s h
  unfold sm_11 at h
  by_cases h39 : f = 39
  · subst h39
    injection h with h
    subst h
    exact sok_39
  rw [nbeq_ne h39, cond_false] at h
  cases h
theorem call_11 {R : Type} (n base : Nat) : CallOK Try.prog base (evFn (R := R) sm_11 fns FU n) := ev_sound hm0 smok_11 (fun f s h => (smok_11 f s h).2.1) fns_ok n
theorem sok_11 : SummOK Try.prog 11 s_11 := summ_shN (by decide) (fun _ => rfl) (fun _ => rfl) (call_11 1) (by kernel_rfl) run_11
theorem smok_45 : ∀ f s, sm_45 f = some s → SummOK Try.prog f s := by
  intro f s h
  unfold sm_45 at h
  cases h
theorem call_45 {R : Type} (n base : Nat) : CallOK Try.prog base (evFn (R := R) sm_45 fns FU n) := ev_sound hm0 smok_45 (fun f s h => (smok_45 f s h).2.1) fns_ok n
theorem sok_45 : SummOK Try.prog 45 s_45 := summ_shN (by decide) (fun _ => rfl) (fun _ => rfl) (call_45 1) (by kernel_rfl) run_45
theorem smok_54 : ∀ f s, sm_54 f = some s → SummOK Try.prog f s := by
  intro f s h
  unfold sm_54 at h
  by_cases h45 : f = 45
  · subst h45
    injection h with h
    subst h
    exact sok_45
  rw [nbeq_ne h45, cond_false] at h
  cases h
theorem call_54 {R : Type} (n base : Nat) : CallOK Try.prog base (evFn (R := R) sm_54 fns FU n) := ev_sound hm0 smok_54 (fun f s h => (smok_54 f s h).2.1) fns_ok n
theorem sok_54 : SummOK Try.prog 54 s_54 := summ_shN (by decide) (fun _ => rfl) (fun _ => rfl) (call_54 1) (by kernel_rfl) run_54
theorem smok_44 : ∀ f s, sm_44 f = some s → SummOK Try.prog f s := by
  intro f s h
  unfold sm_44 at h
  by_cases h54 : f = 54
  · subst h54
    injection h with h
    subst h
    exact sok_54
  rw [nbeq_ne h54, cond_false] at h
  cases h
theorem call_44 {R : Type} (n base : Nat) : CallOK Try.prog base (evFn (R := R) sm_44 fns FU n) := ev_sound hm0 smok_44 (fun f s h => (smok_44 f s h).2.1) fns_ok n
theorem sok_44 : SummOK Try.prog 44 s_44 := summ_shN (by decide) (fun _ => rfl) (fun _ => rfl) (call_44 1) (by kernel_rfl) run_44
theorem smok_55 : ∀ f s, sm_55 f = some s → SummOK Try.prog f s := by
  intro f s h
  unfold sm_55 at h
  by_cases h45 : f = 45
  · subst h45
    injection h with h
    subst h
    exact sok_45
  rw [nbeq_ne h45, cond_false] at h
  cases h
theorem call_55 {R : Type} (n base : Nat) : CallOK Try.prog base (evFn (R := R) sm_55 fns FU n) := ev_sound hm0 smok_55 (fun f s h => (smok_55 f s h).2.1) fns_ok n
theorem sok_55 : SummOK Try.prog 55 s_55 := summ_shN (by decide) (fun _ => rfl) (fun _ => rfl) (call_55 1) (by kernel_rfl) run_55
theorem smok_56 : ∀ f s, sm_56 f = some s → SummOK Try.prog f s := by
  intro f s h
  unfold sm_56 at h
  cases h
theorem call_56 {R : Type} (n base : Nat) : CallOK Try.prog base (evFn (R := R) sm_56 fns FU n) := ev_sound hm0 smok_56 (fun f s h => (smok_56 f s h).2.1) fns_ok n
theorem sok_56 : SummOK Try.prog 56 s_56 := summ_shN (by decide) (fun _ => rfl) (fun _ => rfl) (call_56 1) (by kernel_rfl) run_56
theorem smok_46 : ∀ f s, sm_46 f = some s → SummOK Try.prog f s := by
  intro f s h
  unfold sm_46 at h
  by_cases h45 : f = 45
  · subst h45
    injection h with h
    subst h
    exact sok_45
  rw [nbeq_ne h45, cond_false] at h
  by_cases h55 : f = 55
  · subst h55
    injection h with h
    subst h
    exact sok_55
  rw [nbeq_ne h55, cond_false] at h
  by_cases h56 : f = 56
  · subst h56
    injection h with h
    subst h
    exact sok_56
  rw [nbeq_ne h56, cond_false] at h
  cases h
theorem call_46 {R : Type} (n base : Nat) : CallOK Try.prog base (evFn (R := R) sm_46 fns FU n) := ev_sound hm0 smok_46 (fun f s h => (smok_46 f s h).2.1) fns_ok n
theorem sok_46 : SummOK Try.prog 46 s_46 := summ_shN (by decide) (fun _ => rfl) (fun _ => rfl) (call_46 1) (by kernel_rfl) run_46
theorem smok_24 : ∀ f s, sm_24 f = some s → SummOK Try.prog f s := by
  intro f s h
  unfold sm_24 at h
  by_cases h44 : f = 44
  · subst h44
    injection h with h
    subst h
    exact sok_44
  rw [nbeq_ne h44, cond_false] at h
  by_cases h45 : f = 45
  · subst h45
    injection h with h
    subst h
    exact sok_45
  rw [nbeq_ne h45, cond_false] at h
  by_cases h46 : f = 46
  · subst h46
    injection h with h
    subst h
    exact sok_46
  rw [nbeq_ne h46, cond_false] at h
  cases h
theorem call_24 {R : Type} (n base : Nat) : CallOK Try.prog base (evFn (R := R) sm_24 fns FU n) := ev_sound hm0 smok_24 (fun f s h => (smok_24 f s h).2.1) fns_ok n
theorem sok_24 : SummOK Try.prog 24 s_24 := summ_shN (by decide) (fun _ => rfl) (fun _ => rfl) (call_24 1) (by kernel_rfl) run_24
theorem smok_18 : ∀ f s, sm_18 f = some s → SummOK Try.prog f s := by
  intro f s h
  unfold sm_18 at h
  by_cases h11 : f = 11
  · subst h11
    injection h with h
    subst h
    exact sok_11
  rw [nbeq_ne h11, cond_false] at h
  by_cases h24 : f = 24
  · subst h24
    injection h with h
    subst h
    exact sok_24
  rw [nbeq_ne h24, cond_false] at h
  cases h
theorem call_18 {R : Type} (n base : Nat) : CallOK Try.prog base (evFn (R := R) sm_18 fns FU n) := ev_sound hm0 smok_18 (fun f s h => (smok_18 f s h).2.1) fns_ok n
theorem sok_18 : SummOK Try.prog 18 s_18 := summ_shN (by decide) (fun _ => rfl) (fun _ => rfl) (call_18 1) (by kernel_rfl) run_18
theorem smok_22 : ∀ f s, sm_22 f = some s → SummOK Try.prog f s := by
  intro f s h
  unfold sm_22 at h
  cases h
theorem call_22 {R : Type} (n base : Nat) : CallOK Try.prog base (evFn (R := R) sm_22 fns FU n) := ev_sound hm0 smok_22 (fun f s h => (smok_22 f s h).2.1) fns_ok n
theorem sok_22 : SummOK Try.prog 22 s_22 := summ_shN (by decide) (fun _ => rfl) (fun _ => rfl) (call_22 1) (by kernel_rfl) run_22
theorem smok_6 : ∀ f s, sm_6 f = some s → SummOK Try.prog f s := by
  intro f s h
  unfold sm_6 at h
  by_cases h8 : f = 8
  · subst h8
    injection h with h
    subst h
    exact sok_8
  rw [nbeq_ne h8, cond_false] at h
  by_cases h9 : f = 9
  · subst h9
    injection h with h
    subst h
    exact sok_9
  rw [nbeq_ne h9, cond_false] at h
  by_cases h17 : f = 17
  · subst h17
    injection h with h
    subst h
    exact sok_17
  rw [nbeq_ne h17, cond_false] at h
  by_cases h18 : f = 18
  · subst h18
    injection h with h
    subst h
    exact sok_18
  rw [nbeq_ne h18, cond_false] at h
  by_cases h19 : f = 19
  · subst h19
    injection h with h
    subst h
    exact sok_19
  rw [nbeq_ne h19, cond_false] at h
  by_cases h22 : f = 22
  · subst h22
    injection h with h
    subst h
    exact sok_22
  rw [nbeq_ne h22, cond_false] at h
  by_cases h24 : f = 24
  · subst h24
    injection h with h
    subst h
    exact sok_24
  rw [nbeq_ne h24, cond_false] at h
  by_cases h25 : f = 25
  · subst h25
    injection h with h
    subst h
    exact sok_25
  rw [nbeq_ne h25, cond_false] at h
  by_cases h27 : f = 27
  · subst h27
    injection h with h
    subst h
    exact sok_27
  rw [nbeq_ne h27, cond_false] at h
  cases h
theorem call_6 {R : Type} (n base : Nat) : CallOK Try.prog base (evFn (R := R) sm_6 fns FU n) := ev_sound hm0 smok_6 (fun f s h => (smok_6 f s h).2.1) fns_ok n
end Go.Ev
