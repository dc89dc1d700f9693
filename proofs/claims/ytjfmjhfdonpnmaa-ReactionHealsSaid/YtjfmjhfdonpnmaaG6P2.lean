/- Helpers: functions of the program as Lean functions, and what they compute. No condition. -/
import Derived.Test.YtjfmjhfdonpnmaaE6P4
import Derived.Test.YtjfmjhfdonpnmaaE6P2
import Derived.Test.YtjfmjhfdonpnmaaG6P1
import Derived.Test.YtjfmjhfdonpnmaaProg
import Derived.WalkKit
import Derived.Maps.OwnSet
import Derived.Maps.Views
import Derived.Maps.OwnOps
import Derived.Test.YtjfmjhfdonpnmaaE6P3
set_option maxRecDepth 10000
set_option linter.unusedVariables false
set_option linter.unusedSimpArgs false
set_option linter.unusedSimpArgs false
set_option linter.unusedVariables false
namespace Go.Ev
open Go
noncomputable def actS : Summ := cloS [(.pair (.slice (.pair (.int .i64) (.pair (.int .i64) (.pair (.int .i64) (.pair (.int .i64) (.pair (.int .i64) (.pair (.int .i64) (.pair .bool (.pair (.int .i64) .unit))))))))) (.pair (.slice (.pair (.int .i64) (.pair (.int .i64) (.pair (.int .i64) (.pair (.int .i64) (.pair (.int .i64) (.pair (.slice (.int .i64)) (.pair (.int .i64) .unit)))))))) (.pair (.int .i64) (.pair .bool .unit)))), .int .i64] (fun cs => match toH [(.pair (.slice (.pair (.int .i64) (.pair (.int .i64) (.pair (.int .i64) (.pair (.int .i64) (.pair (.int .i64) (.pair (.int .i64) (.pair .bool (.pair (.int .i64) .unit))))))))) (.pair (.slice (.pair (.int .i64) (.pair (.int .i64) (.pair (.int .i64) (.pair (.int .i64) (.pair (.int .i64) (.pair (.slice (.int .i64)) (.pair (.int .i64) .unit)))))))) (.pair (.int .i64) (.pair .bool .unit)))), .int .i64] cs with
  | some x => some (true, .clo 53 (.pair (.ref (.int .i64) x.2.1) (.pair (.ref (.pair (.slice (.pair (.int .i64) (.pair (.int .i64) (.pair (.int .i64) (.pair (.int .i64) (.pair (.int .i64) (.pair (.int .i64) (.pair .bool (.pair (.int .i64) .unit))))))))) (.pair (.slice (.pair (.int .i64) (.pair (.int .i64) (.pair (.int .i64) (.pair (.int .i64) (.pair (.int .i64) (.pair (.slice (.int .i64)) (.pair (.int .i64) .unit)))))))) (.pair (.int .i64) (.pair .bool .unit)))) x.1) cunit)))
  | none => none)
end Go.Ev
namespace Go.Ev
open Go
set_option maxRecDepth 100000
set_option maxHeartbeats 4000000
set_option linter.unusedVariables false
noncomputable section

noncomputable def sm_57 : Nat → Option Summ := fun f => none
noncomputable def T_57_0 (p0 : List Int) (p1 : Int) (p2 : Int) : St := St.mk ([CV.pure Ty.str p0] ++ (jl 12 ++ ([CV.int IntKind.i64 p1, CV.int IntKind.i64 p2] ++ (jl 13)))) [] (0 : Nat)
noncomputable def X_57_0_0 : St := St.mk ([jk, jk, CV.bool false] ++ (jl 25)) [] (0 : Nat)
noncomputable def X_57_0_1 : St := St.mk (jl 28) [] (0 : Nat)
inductive Sp.E_57_0 where
  | e0
  | e1
noncomputable def Sp.B_57_0 {R : Type} (r : Option Sp.E_57_0) (k0 : Option R) (k1 : Option R) : Option R := match r with
  | none => none
  | some (.e0) => k0
  | some (.e1) => k1
noncomputable def Sp.L_57_0 : Nat → (List Int) → (Int) → (Int) → Option Sp.E_57_0
  | 0, _, _, _ => none
  | m + 1, p0, p1, p2 => bif decide (p2 < p1) then gd (inB p2 (List.length p0)) (bif decide (List.getD p0 (Int.toNat p2) (0 : Int) < (33 : Int)) then some (Sp.E_57_0.e0) else gd (inB p2 (List.length p0)) (bif decide (List.getD p0 (Int.toNat p2) (0 : Int) > (126 : Int)) then some (Sp.E_57_0.e0) else Sp.L_57_0 m p0 p1 (IntKind.wrap IntKind.i64 (p2 + (1 : Int))))) else some (Sp.E_57_0.e1)
noncomputable def G_57_0 {R : Type} (p0 : List Int) (p1 : Int) (p2 : Int) (k : Ex → St → Option R) : Option R := Sp.B_57_0 (Sp.L_57_0 FU p0 p1 p2) (k Ex.ret (X_57_0_0)) (k (Ex.exit (0 : Nat)) (X_57_0_1))
noncomputable def o_57_0 {R : Type} (G : (List Int) → (Int) → (Int) → (Ex → St → Option R) → Option R) : St → (Ex → St → Option R) → Option R := fun T k => match T.sl.getD 0 .junk, T.sl.getD 13 .junk, T.sl.getD 14 .junk, T.hp with
  | CV.pure Ty.str p0, CV.int IntKind.i64 p1, CV.int IntKind.i64 p2, [] => gd (shapeOK T 28 [0, 13, 14] (0 : Nat)) (G p0 p1 p2 k)
  | _, _, _, _ => none
theorem o_57_0_inv {R : Type} {G : (List Int) → (Int) → (Int) → (Ex → St → Option R) → Option R} {T : St} {k : Ex → St → Option R} {r : R} (h : o_57_0 G T k = some r) : ∃ p0 p1 p2, T = T_57_0 p0 p1 p2 ∧ G p0 p1 p2 k = some r := by
  unfold o_57_0 at h
  split at h
  · obtain ⟨hs, h'⟩ := gd_some h
    refine ⟨_, _, _, (st_of (asg := [(0, _), (13, _), (14, _)]) hs ⟨by assumption, by assumption, by assumption, trivial⟩ (by assumption)).trans ?_, h'⟩
    kernel_rfl
  · cases h
noncomputable def O_57_57_0 {R : Type} : St → (Ex → St → Option R) → Option R := fun T k => o_57_0 G_57_0 T k
theorem body_57_0 {R : Type} (K0 : St → Option R) (K1 : Ex → St → Option R) (p0 : List Int) (p1 : Int) (p2 : Int) : evLB (evCodeL sm_57 FU (ovr noO (evFn sm_57 fns FU 0)) .nil ir57_b0) (St.norm ir57_v0) (T_57_0 p0 p1 p2) K0 K1 =
  bif decide (p2 < p1) then gd (inB p2 (List.length p0)) (bif decide (List.getD p0 (Int.toNat p2) (0 : Int) < (33 : Int)) then K1 Ex.ret X_57_0_0 else gd (inB p2 (List.length p0)) (bif decide (List.getD p0 (Int.toNat p2) (0 : Int) > (126 : Int)) then K1 Ex.ret X_57_0_0 else K0 (T_57_0 p0 p1 (IntKind.wrap IntKind.i64 (p2 + (1 : Int)))))) else K1 (Ex.exit (0 : Nat)) X_57_0_1 := by kernel_rfl
theorem Bgd_57_0 {R : Type} {c : Bool} {x : Option R} {y : Option Sp.E_57_0} {k0 : Option R} {k1 : Option R} (h : x = Sp.B_57_0 y k0 k1) : gd c x = Sp.B_57_0 (gd c y) k0 k1 := by cases c; rfl; exact h
theorem Bcond_57_0 {R : Type} {c : Bool} {x x' : Option R} {y y' : Option Sp.E_57_0} {k0 : Option R} {k1 : Option R} (h : x = Sp.B_57_0 y k0 k1) (h' : x' = Sp.B_57_0 y' k0 k1) : (bif c then x else x') = Sp.B_57_0 (bif c then y else y') k0 k1 := by cases c; exact h'; exact h
theorem loop_57_0 {R : Type} (k : Ex → St → Option R) : ∀ (m : Nat) (p0 : List Int) (p1 : Int) (p2 : Int), evLoopN (evCodeL sm_57 FU (ovr noO (evFn sm_57 fns FU 0)) .nil ir57_b0) (St.norm ir57_v0) m (T_57_0 p0 p1 p2) k = Sp.B_57_0 (Sp.L_57_0 m p0 p1 p2) (k Ex.ret (X_57_0_0)) (k (Ex.exit (0 : Nat)) (X_57_0_1))
  | 0, _, _, _ => rfl
  | m + 1, p0, p1, p2 => by
    rw [evLoopN_succ, body_57_0, Sp.L_57_0]
    repeat' first | apply Bgd_57_0 | apply Bcond_57_0 | exact loop_57_0 k m _ _ _ | rfl
theorem ok_57_0 {R : Type} (T : St) (k : Ex → St → Option R) (r : R) (h0 : o_57_0 G_57_0 T k = some r) : evLoopN (evCode sm_57 FU (evFn sm_57 fns FU 0) ir57_b0) (St.norm ir57_v0) FU T k = some r := by
  obtain ⟨p0, p1, p2, rfl, h⟩ := o_57_0_inv h0
  refine evLoopN_L (t := .nil) noO_ok trivial _ _ _ _ ?_
  rw [loop_57_0]
  exact h
theorem OK_57_57_0 {R : Type} (T : St) (k : Ex → St → Option R) (r : R) (h : O_57_57_0 T k = some r) : evLoopN (evCode sm_57 FU (evFn sm_57 fns FU 0) ir57_b0) (St.norm ir57_v0) FU T k = some r := ok_57_0 T k r h
noncomputable def F_57 (a0 : (List Int)) : Option (Bool × Unit) :=
  bif decide ((↑(List.length a0) : Int) < (1 : Int)) then some (false, PUnit.unit) else bif decide ((↑(List.length a0) : Int) > (24 : Int)) then some (false, PUnit.unit) else Sp.B_57_0 (Sp.L_57_0 (4611686018427387904 : Nat) a0 (↑(List.length a0) : Int) (0 : Int)) (some (false, PUnit.unit)) (some (true, PUnit.unit))
theorem fn_57 (a0 : (List Int)) : evFnL sm_57 FU (ovr noO (evFn sm_57 fns FU 0)) (ir57_t O_57_57_0) ir57 (ofH [.str] (a0, ())) [] (pureK [.bool]) = F_57 a0 := by kernel_rfl
noncomputable def Sp.p_57 (a0 : (List Int)) : Bool := (F_57 a0).isSome
noncomputable def Sp.v_57 (a0 : (List Int)) : Bool × Unit := (F_57 a0).getD (dfH [.bool])
noncomputable def s_57 : Summ := shN [.str] [.bool] (fun x => Sp.p_57 x.1) (fun x => Sp.v_57 x.1)
theorem pv_57 (a0 : (List Int)) {y : Bool × Unit} (h : F_57 a0 = some y) : Sp.p_57 a0 = true ∧ Sp.v_57 a0 = y := ⟨by rw [Sp.p_57, h]; rfl, by rw [Sp.v_57, h]; rfl⟩
theorem run_57 (x : HDen [.str]) (y : HDen [.bool]) (h : F_57 x.1 = some y) : evFn sm_57 fns FU 1 57 (ofH [.str] x) [] (pureK [.bool]) = some y :=
  evFnL_sound (fn := ir57) (t := (ir57_t O_57_57_0)) (o := noO) rfl noO_ok (ir57_tok (fun T k r => OK_57_57_0 T k r)) ((fn_57 _).trans h)
end
end Go.Ev
namespace Go.Ev
open Go
set_option maxRecDepth 100000
set_option maxHeartbeats 4000000
set_option linter.unusedVariables false
noncomputable section
abbrev Zy51_0 : Ty := (.pair (.int .i64) (.pair (.int .i64) (.pair (.slice (.int .i64)) (.pair (.int .i64) .unit))))
abbrev Zt51_1 : Type := List Int × Int × Int × List Int × Int × Unit

noncomputable def sm_51 : Nat → Option Summ := fun f => bif Nat.beq f 57 then some s_57 else none
noncomputable def T_51_0 (p0 : Int) (p1 : List Int) (p2 : Int) (p3 : Int) (p4 : Zt51_1) : St := St.mk ([jk, CV.int IntKind.i64 p0, CV.ptr (0 : Nat) []] ++ (jl 51 ++ ([CV.pure (Ty.slice (Ty.int IntKind.i64)) p1, CV.int IntKind.i64 p2, CV.int IntKind.i64 p3] ++ (jl 26)))) [Blk.mem (CV.pure (Ty.pair Ty.str (Ty.pair (Ty.int IntKind.i64) (Ty.pair (Ty.int IntKind.i64) (Ty.pair (Ty.slice (Ty.int IntKind.i64)) (Ty.pair (Ty.int IntKind.i64) Ty.unit))))) p4)] (0 : Nat)
noncomputable def X_51_0_0 : St := St.mk ([jk, jk, jk, jk, CV.bool false] ++ (jl 78)) [] (0 : Nat)
noncomputable def X_51_0_1 : St := St.mk (jl 83) [] (0 : Nat)
inductive Sp.E_51_0 where
  | e0
  | e1
noncomputable def Sp.B_51_0 {R : Type} (r : Option Sp.E_51_0) (k0 : Option R) (k1 : Option R) : Option R := match r with
  | none => none
  | some (.e0) => k0
  | some (.e1) => k1
noncomputable def Sp.L_51_0 : Nat → (Int) → (List Int) → (Int) → (Int) → (List Int × Int × Int × List Int × Int × Unit) → Option Sp.E_51_0
  | 0, _, _, _, _, _ => none
  | m + 1, p0, p1, p2, p3, p4 => bif decide (p3 < p2) then gd (inB p3 (List.length p1)) (bif decide (List.getD p1 (Int.toNat p3) (0 : Int) < (0 : Int)) then some (Sp.E_51_0.e0) else bif decide (List.getD p1 (Int.toNat p3) (0 : Int) ≥ p0) then some (Sp.E_51_0.e0) else bif decide (p3 > (0 : Int)) then gd (inB (IntKind.wrap IntKind.i64 (p3 - (1 : Int))) (List.length (p4.2.2.2.1))) (bif decide (List.getD p1 (Int.toNat p3) (0 : Int) ≤ List.getD (p4.2.2.2.1) (Int.toNat (IntKind.wrap IntKind.i64 (p3 - (1 : Int)))) (0 : Int)) then some (Sp.E_51_0.e0) else Sp.L_51_0 m p0 p1 p2 (IntKind.wrap IntKind.i64 (p3 + (1 : Int))) p4) else Sp.L_51_0 m p0 p1 p2 (IntKind.wrap IntKind.i64 (p3 + (1 : Int))) p4) else some (Sp.E_51_0.e1)
noncomputable def G_51_0 {R : Type} (p0 : Int) (p1 : List Int) (p2 : Int) (p3 : Int) (p4 : Zt51_1) (k : Ex → St → Option R) : Option R := Sp.B_51_0 (Sp.L_51_0 FU p0 p1 p2 p3 p4) (k Ex.ret (X_51_0_0)) (k (Ex.exit (0 : Nat)) (X_51_0_1))
noncomputable def o_51_0 {R : Type} (G : (Int) → (List Int) → (Int) → (Int) → (Zt51_1) → (Ex → St → Option R) → Option R) : St → (Ex → St → Option R) → Option R := fun T k => match T.sl.getD 1 .junk, T.sl.getD 2 .junk, T.sl.getD 54 .junk, T.sl.getD 55 .junk, T.sl.getD 56 .junk, T.hp with
  | CV.int IntKind.i64 p0, CV.ptr (0 : Nat) [], CV.pure (Ty.slice (Ty.int IntKind.i64)) p1, CV.int IntKind.i64 p2, CV.int IntKind.i64 p3, ((Blk.mem (CV.pure (Ty.pair Ty.str (Ty.pair (Ty.int IntKind.i64) (Ty.pair (Ty.int IntKind.i64) (Ty.pair (Ty.slice (Ty.int IntKind.i64)) (Ty.pair (Ty.int IntKind.i64) Ty.unit))))) p4)) :: []) => gd (shapeOK T 83 [1, 2, 54, 55, 56] (0 : Nat)) (G p0 p1 p2 p3 p4 k)
  | _, _, _, _, _, _ => none
theorem o_51_0_inv {R : Type} {G : (Int) → (List Int) → (Int) → (Int) → (Zt51_1) → (Ex → St → Option R) → Option R} {T : St} {k : Ex → St → Option R} {r : R} (h : o_51_0 G T k = some r) : ∃ p0 p1 p2 p3 p4, T = T_51_0 p0 p1 p2 p3 p4 ∧ G p0 p1 p2 p3 p4 k = some r := by
  unfold o_51_0 at h
  split at h
  · obtain ⟨hs, h'⟩ := gd_some h
    refine ⟨_, _, _, _, _, (st_of (asg := [(1, _), (2, _), (54, _), (55, _), (56, _)]) hs ⟨by assumption, by assumption, by assumption, by assumption, by assumption, trivial⟩ (by assumption)).trans ?_, h'⟩
    kernel_rfl
  · cases h
noncomputable def O_51_51_0 {R : Type} : St → (Ex → St → Option R) → Option R := fun T k => o_51_0 G_51_0 T k
theorem body_51_0 {R : Type} (K0 : St → Option R) (K1 : Ex → St → Option R) (p0 : Int) (p1 : List Int) (p2 : Int) (p3 : Int) (p4 : Zt51_1) : evLB (evCodeL sm_51 FU (ovr noO (evFn sm_51 fns FU 0)) .nil ir51_b0) (St.norm ir51_v0) (T_51_0 p0 p1 p2 p3 p4) K0 K1 =
  bif decide (p3 < p2) then gd (inB p3 (List.length p1)) (bif decide (List.getD p1 (Int.toNat p3) (0 : Int) < (0 : Int)) then K1 Ex.ret X_51_0_0 else bif decide (List.getD p1 (Int.toNat p3) (0 : Int) ≥ p0) then K1 Ex.ret X_51_0_0 else bif decide (p3 > (0 : Int)) then gd (inB (IntKind.wrap IntKind.i64 (p3 - (1 : Int))) (List.length (p4.2.2.2.1))) (bif decide (List.getD p1 (Int.toNat p3) (0 : Int) ≤ List.getD (p4.2.2.2.1) (Int.toNat (IntKind.wrap IntKind.i64 (p3 - (1 : Int)))) (0 : Int)) then K1 Ex.ret X_51_0_0 else K0 (T_51_0 p0 p1 p2 (IntKind.wrap IntKind.i64 (p3 + (1 : Int))) p4)) else K0 (T_51_0 p0 p1 p2 (IntKind.wrap IntKind.i64 (p3 + (1 : Int))) p4)) else K1 (Ex.exit (0 : Nat)) X_51_0_1 := by kernel_rfl
theorem Bgd_51_0 {R : Type} {c : Bool} {x : Option R} {y : Option Sp.E_51_0} {k0 : Option R} {k1 : Option R} (h : x = Sp.B_51_0 y k0 k1) : gd c x = Sp.B_51_0 (gd c y) k0 k1 := by cases c; rfl; exact h
theorem Bcond_51_0 {R : Type} {c : Bool} {x x' : Option R} {y y' : Option Sp.E_51_0} {k0 : Option R} {k1 : Option R} (h : x = Sp.B_51_0 y k0 k1) (h' : x' = Sp.B_51_0 y' k0 k1) : (bif c then x else x') = Sp.B_51_0 (bif c then y else y') k0 k1 := by cases c; exact h'; exact h
theorem loop_51_0 {R : Type} (k : Ex → St → Option R) : ∀ (m : Nat) (p0 : Int) (p1 : List Int) (p2 : Int) (p3 : Int) (p4 : Zt51_1), evLoopN (evCodeL sm_51 FU (ovr noO (evFn sm_51 fns FU 0)) .nil ir51_b0) (St.norm ir51_v0) m (T_51_0 p0 p1 p2 p3 p4) k = Sp.B_51_0 (Sp.L_51_0 m p0 p1 p2 p3 p4) (k Ex.ret (X_51_0_0)) (k (Ex.exit (0 : Nat)) (X_51_0_1))
  | 0, _, _, _, _, _ => rfl
  | m + 1, p0, p1, p2, p3, p4 => by
    rw [evLoopN_succ, body_51_0, Sp.L_51_0]
    repeat' first | apply Bgd_51_0 | apply Bcond_51_0 | exact loop_51_0 k m _ _ _ _ _ | rfl
theorem ok_51_0 {R : Type} (T : St) (k : Ex → St → Option R) (r : R) (h0 : o_51_0 G_51_0 T k = some r) : evLoopN (evCode sm_51 FU (evFn sm_51 fns FU 0) ir51_b0) (St.norm ir51_v0) FU T k = some r := by
  obtain ⟨p0, p1, p2, p3, p4, rfl, h⟩ := o_51_0_inv h0
  refine evLoopN_L (t := .nil) noO_ok trivial _ _ _ _ ?_
  rw [loop_51_0]
  exact h
theorem OK_51_51_0 {R : Type} (T : St) (k : Ex → St → Option R) (r : R) (h : O_51_51_0 T k = some r) : evLoopN (evCode sm_51 FU (evFn sm_51 fns FU 0) ir51_b0) (St.norm ir51_v0) FU T k = some r := ok_51_0 T k r h
noncomputable def F_51 (a0 : ((List Int) × (Int × (Int × ((List Int) × (Int × Unit)))))) (a1 : Int) : Option (Bool × Unit) :=
  gd (Sp.p_57 (a0.1)) (bif !(Sp.v_57 (a0.1)).1 then some (false, PUnit.unit) else bif decide (a0.2.1 < (0 : Int)) then some (false, PUnit.unit) else bif decide (a0.2.1 > (15 : Int)) then some (false, PUnit.unit) else bif decide (a0.2.2.1 < (0 : Int)) then some (false, PUnit.unit) else bif decide (a0.2.2.1 > (15 : Int)) then some (false, PUnit.unit) else bif decide ((↑(List.length (a0.2.2.2.1)) : Int) < (1 : Int)) then some (false, PUnit.unit) else bif decide ((↑(List.length (a0.2.2.2.1)) : Int) > (16 : Int)) then some (false, PUnit.unit) else bif decide (a0.2.2.2.2.1 < (-5000 : Int)) then some (false, PUnit.unit) else bif decide (a0.2.2.2.2.1 > (10000 : Int)) then some (false, PUnit.unit) else Sp.B_51_0 (Sp.L_51_0 (4611686018427387904 : Nat) a1 (a0.2.2.2.1) (↑(List.length (a0.2.2.2.1)) : Int) (0 : Int) a0) (some (false, PUnit.unit)) (some (true, PUnit.unit)))
theorem fn_51 (a0 : ((List Int) × (Int × (Int × ((List Int) × (Int × Unit)))))) (a1 : Int) : evFnL sm_51 FU (ovr noO (evFn sm_51 fns FU 0)) (ir51_t O_51_51_0) ir51 (ofH [(.pair .str Zy51_0), (.int .i64)] (a0, a1, ())) [] (pureK [.bool]) = F_51 a0 a1 := by kernel_rfl
noncomputable def Sp.p_51 (a0 : ((List Int) × (Int × (Int × ((List Int) × (Int × Unit)))))) (a1 : Int) : Bool := (F_51 a0 a1).isSome
noncomputable def Sp.v_51 (a0 : ((List Int) × (Int × (Int × ((List Int) × (Int × Unit)))))) (a1 : Int) : Bool × Unit := (F_51 a0 a1).getD (dfH [.bool])
noncomputable def s_51 : Summ := shN [(.pair .str Zy51_0), (.int .i64)] [.bool] (fun x => Sp.p_51 x.1 x.2.1) (fun x => Sp.v_51 x.1 x.2.1)
theorem pv_51 (a0 : ((List Int) × (Int × (Int × ((List Int) × (Int × Unit)))))) (a1 : Int) {y : Bool × Unit} (h : F_51 a0 a1 = some y) : Sp.p_51 a0 a1 = true ∧ Sp.v_51 a0 a1 = y := ⟨by rw [Sp.p_51, h]; rfl, by rw [Sp.v_51, h]; rfl⟩
theorem run_51 (x : HDen [(.pair .str Zy51_0), (.int .i64)]) (y : HDen [.bool]) (h : F_51 x.1 x.2.1 = some y) : evFn sm_51 fns FU 1 51 (ofH [(.pair .str Zy51_0), (.int .i64)] x) [] (pureK [.bool]) = some y :=
  evFnL_sound (fn := ir51) (t := (ir51_t O_51_51_0)) (o := noO) rfl noO_ok (ir51_tok (fun T k r => OK_51_51_0 T k r)) ((fn_51 _ _).trans h)
end
end Go.Ev
namespace Go.Ev
open Go
set_option maxRecDepth 100000
set_option maxHeartbeats 4000000
set_option linter.unusedVariables false
noncomputable section
/-- All reactions are right, and no name comes twice. -/
noncomputable def Sp.rvl (n : Int) : List (List Int × Int × Int × List Int × Int × Unit) → List (List Int) → Option Bool
  | [], _ => some true
  | r :: l, seen => gd (Sp.p_51 r n) (bif !(Sp.v_51 r n).1 then some false else bif seen.contains r.1 then some false else Sp.rvl n l (seen ++ [r.1]))
noncomputable def F_37 (a0 : List (List Int × Int × Int × List Int × Int × Unit)) (a1 : Int) : Option (Bool × Unit) :=
  bif decide (a1 < 0) then some (false, ()) else bif decide (a1 > 64) then some (false, ()) else bif decide ((a0.length : Int) > 64) then some (false, ()) else (Sp.rvl a1 a0 []).map fun b => (b, ())

noncomputable def Sp.p_37 (a0 : (List ((List Int) × (Int × (Int × ((List Int) × (Int × Unit))))))) (a1 : Int) : Bool := (F_37 a0 a1).isSome
noncomputable def Sp.v_37 (a0 : (List ((List Int) × (Int × (Int × ((List Int) × (Int × Unit))))))) (a1 : Int) : Bool × Unit := (F_37 a0 a1).getD (dfH [.bool])
noncomputable def s_37 : Summ := shN [(.slice (.pair .str (.pair (.int .i64) (.pair (.int .i64) (.pair (.slice (.int .i64)) (.pair (.int .i64) .unit)))))), (.int .i64)] [.bool] (fun x => Sp.p_37 x.1 x.2.1) (fun x => Sp.v_37 x.1 x.2.1)
theorem pv_37 (a0 : (List ((List Int) × (Int × (Int × ((List Int) × (Int × Unit))))))) (a1 : Int) {y : Bool × Unit} (h : F_37 a0 a1 = some y) : Sp.p_37 a0 a1 = true ∧ Sp.v_37 a0 a1 = y := ⟨by rw [Sp.p_37, h]; rfl, by rw [Sp.v_37, h]; rfl⟩
end
end Go.Ev
set_option linter.unusedSimpArgs false
set_option linter.unusedVariables false
namespace Go.Ev
open Go Go.Proofs Go.RowKit Go.Maps
set_option maxRecDepth 100000
set_option maxHeartbeats 4000000
theorem rv_law9 : Keyed Try.prog 9 := string_keyed Try.underlying9
theorem rv_zero4 (w : World) : (zeroValue 4).run Try.prog w = .ok (.bool false) w := by kernel_rfl
noncomputable def kb (x : List Int) : List UInt8 := (bytesOf x).data.toList
theorem kb_inj {x y : List Int} (hx : strOK x = true) (hy : strOK y = true) (h : kb x = kb y) : x = y := by
  have hb : ∀ {z : List Int}, strOK z = true → (kb z).map (fun b => (b.toNat : Int)) = z := by
    intro z hz
    unfold strOK at hz
    simp only [Bool.and_eq_true, List.all_eq_true, decide_eq_true_eq] at hz
    show (((z.map fun n => UInt8.ofNat n.toNat).toArray).toList).map _ = z
    rw [List.toList_toArray, List.map_map]
    conv => rhs; rw [← List.map_id z]
    apply List.map_congr_left
    intro a ha
    have := hz.1 a ha
    simp only [Function.comp_apply, id_eq, UInt8.toNat_ofNat']
    omega
  rw [← hb hx, ← hb hy, h]
/-- The map holds what was seen. -/
noncomputable def SeenS (D : DataW Unit) (l : List (List Int)) : Prop := ∀ x : List Int, strOK x = true → D.atKey (.string (kb x)) (.lit (.bool false)) = .lit (.bool (l.contains x))
theorem SeenS.put {D : DataW Unit} {l : List (List Int)} (h : SeenS D l) (hD : IsMap D) {x : List Int} (hx : strOK x = true) : SeenS (D.put (.string (kb x)) (.lit (.bool true))) (l ++ [x]) := by
  intro y hy
  by_cases e : y = x
  · subst e
    rw [atKey_put_same hD (by simp [WideAt.IsKeyLit])]
    simp
  · rw [atKey_put_other (by intro h; injection h with h; first | exact e (kb_inj hx hy h).symm | exact e (kb_inj hy hx h) | exact e (kb_inj hx hy h.symm).symm), h y hy]
    congr 2
    simp [e]
theorem bel_weaken {A B : Nat} {w w' : World} (h : Below A w w') (hB : B ≤ A) : Below B w w' := ⟨h.os, h.tape, h.output, h.size, fun k hk => h.block k (Nat.lt_of_lt_of_le hk hB)⟩
theorem keep_map {w w' : World} {k b n : Nat} {R : Value → Option (DataW Unit × List MemPlace)} {D : DataW Unit} (h : w.ownsMap Try.prog k R b n D) (hb : Below w.heap.size w w') : w'.ownsMap Try.prog k R b n D := by
  have hl := h.lt
  obtain ⟨es, clock, h1, h2⟩ := h
  exact ⟨es, clock, (hb.block b hl).trans h1, h2⟩
theorem rv_walk (b off n cap : Nat) (w : World) (rows : List (List Int × Int × Int × List Int × Int × Unit)) (fa : Int) (res : Bool) (ad : Nat → Option Addr) (ln cp : Nat → Nat) (hb : b < w.heap.size) (hn : n ≤ maxLen) (hl : rows.length = n)
   (hf : Sp.rvl fa rows [] = some res) (f0 : 0 ≤ fa) (f1 : fa ≤ 64) (hn64 : n ≤ 64)
   (hstr : ∀ k, k < n → strOK (rows.getD k default).1 = true)
   (h0 : ∀ j, j < n → w.cell? ⟨b, off + j * 5, none⟩ = some (.string (bytesOf (rows.getD j default).1)))
   (h1 : ∀ j, j < n → w.cell? ⟨b, off + j * 5 + 1, none⟩ = some (.int .i64 (rows.getD j default).2.1))
   (h2 : ∀ j, j < n → w.cell? ⟨b, off + j * 5 + 2, none⟩ = some (.int .i64 (rows.getD j default).2.2.1))
   (h3 : ∀ j, j < n → w.cell? ⟨b, off + j * 5 + 3, none⟩ = some (.slice (ad j) (ln j) (cp j)))
   (h4 : ∀ j, j < n → w.cell? ⟨b, off + j * 5 + 4, none⟩ = some (.int .i64 (rows.getD j default).2.2.2.2.1))
   (hcall : ∀ j, j < n → Sp.p_51 (rows.getD j default) fa = true → ∀ W, Below w.heap.size w W → Calls Try.prog 51 #[.agg #[.string (bytesOf (rows.getD j default).1), .int .i64 (rows.getD j default).2.1, .int .i64 (rows.getD j default).2.2.1, .slice (ad j) (ln j) (cp j), .int .i64 (rows.getD j default).2.2.2.2.1], .int .i64 fa] W fun e W' => e = .returned (.bool (Sp.v_51 (rows.getD j default) fa).1) ∧ Below W.heap.size W W')
   : Calls Try.prog 37 #[.slice (some ⟨b, off, none⟩) n cap, .int .i64 fa] w fun e w' => e = .returned (.bool res) ∧ Below w.heap.size w w' := by
  have hn63 : n ≤ 9223372036854775807 := by simpa [maxLen] using hn
  have hmm := @run_makeMap Try.prog
  go_enter Try.func37, Try.ntmps37
  go_wp2
  go_loopw [22] (fun i wr => ∃ (k : Nat) (D : DataW Unit), (k ≤ n ∧ i = .int .i64 k ∧ Sp.rvl fa (rows.drop k) ((rows.take k).map fun r => r.1) = some res ∧ SeenS D ((rows.take k).map fun r => r.1)) ∧ wr.ownsMap Try.prog 9 (plainElem Try.prog 4) w.heap.size k D ∧ Below w.heap.size w wr)
    (fun i _ => n - (intOf i).toNat)
  case atStart => exact ⟨0, .map [], ⟨Nat.zero_le _, rfl, hf, fun x _ => rfl⟩, World.ownsMap_made _ _ _ _, (Below.refl _ _).alloc (Nat.le_refl _) _⟩
  case round =>
    obtain ⟨k, D, ⟨hk, rfl, hrv, hseen⟩, hown, hnx⟩ := hrel
    by_cases hkn : k < n
    · have hkl : k < rows.length := by omega
      have hc0 : wr.cell? ⟨b, off + k * 5, none⟩ = _ := (hnx.cell hb).trans (h0 k hkn)
      have hc1 : wr.cell? ⟨b, off + k * 5 + 1, none⟩ = _ := (hnx.cell hb).trans (h1 k hkn)
      have hc2 : wr.cell? ⟨b, off + k * 5 + 2, none⟩ = _ := (hnx.cell hb).trans (h2 k hkn)
      have hc3 : wr.cell? ⟨b, off + k * 5 + 3, none⟩ = _ := (hnx.cell hb).trans (h3 k hkn)
      have hc4 : wr.cell? ⟨b, off + k * 5 + 4, none⟩ = _ := (hnx.cell hb).trans (h4 k hkn)
      have hsk := hstr k hkn
      have hck := hcall k hkn
      have hdrop : rows.drop k = rows.getD k default :: rows.drop (k + 1) := by
        rw [List.drop_eq_getElem_cons hkl]
        simp [List.getD_eq_getElem?_getD, hkl]
      have htake : (rows.take (k + 1)).map (fun r => r.1) = (rows.take k).map (fun r => r.1) ++ [(rows.getD k default).1] := by
        rw [List.take_succ_eq_append_getElem hkl, List.map_append]
        simp [List.getD_eq_getElem?_getD, hkl]
      rw [hdrop, Sp.rvl] at hrv
      clear h0 h1 h2 h3 h4 hstr hcall hf
      generalize rows.getD k default = r at hc0 hc1 hc2 hc3 hc4 hsk hck htake hrv
      obtain ⟨hp, hrv⟩ := gd_some hrv
      have hkey : keyOf Try.prog 9 (.string (bytesOf r.1)) = some (.string (kb r.1)) := by
        rw [keyOf_string Try.underlying9]
        unfold mapKey
        rw [Try.underlying9]
        have : (bytesOf r.1).size ≤ maxLen := by
          unfold strOK at hsk
          simp only [Bool.and_eq_true, decide_eq_true_eq] at hsk
          show ((r.1.map fun n => UInt8.ofNat n.toNat).toArray).size ≤ maxLen
          simpa using hsk.2
        simp only [if_pos this]
        rfl
      have hlook : ∀ W : World, W.ownsMap Try.prog 9 (plainElem Try.prog 4) w.heap.size k D → (Instr.lookup 82 (.map (some w.heap.size)) (.string (bytesOf r.1)) false).run Try.prog W = .ok (.bool (((rows.take k).map fun r => r.1).contains r.1)) W := by
        intro W hW
        obtain ⟨v, ps, hrun, hv⟩ := hW.lookup rv_law9 Try.underlying82 (rv_zero4 _) (plainElem_bool Try.underlying4 false) hkey
        rw [hseen _ hsk] at hv
        have e : v = .bool (((rows.take k).map fun r => r.1).contains r.1) := by
          unfold plainElem at hv
          rw [Try.underlying4] at hv
          cases v <;> simp at hv
          rw [hv.1]
          simp
        rw [hrun, e]
      have hz0 := hnx.size
      generalize hcc : ((rows.take k).map fun r => r.1).contains r.1 = cc at hlook hrv
      cases hv : (Sp.v_51 r fa).1
      · rw [hv] at hck
        rw [hv, Bool.not_false, cond_t] at hrv
        injection hrv with hrv
        subst hrv
        clear hlook
        go_wp2_with (first
          | (go_at_call 51; refine (hck hp _ (hnx.alloc (by simpa using hnx.size) _)).mono ?_; rintro e W1 ⟨rfl, hb1⟩)
          | go_in)
        go_ret
        exact ⟨rfl, (hnx.alloc (by simpa using hnx.size) _).trans (bel_weaken hb1 (by simp; omega))⟩
      · rw [hv] at hck
        rw [hv, Bool.not_true, cond_f] at hrv
        have hown2 := hown.alloc (.cells #[.string (bytesOf r.1), .int .i64 r.2.1, .int .i64 r.2.2.1, .slice (ad k) (ln k) (cp k), .int .i64 r.2.2.2.2.1] 42)
        cases cc
        · rw [cond_f] at hrv
          go_wp2_with (first
            | (go_at_call 51; refine (hck hp _ (hnx.alloc (by simpa using hnx.size) _)).mono ?_; rintro e W1 ⟨rfl, hb1⟩; have hown3 := keep_map hown2 hb1; have hlk := hlook _ hown3; clear hlook; have hz1 := hb1.size; (try simp at hz1); have hcl : W1.cell? ⟨wr.heap.size, 0, none⟩ = some (.string (bytesOf r.1)) := (hb1.cell (by simp)).trans (by simp))
            | (at_mapUpdate; refine wpList_mapUpdate_own _ rfl _ _ _ 82 rfl 9 4 rv_law9 Try.underlying82 _ w.heap.size k _ rfl hown3 (by omega) _ _ _ rfl rfl hkey _ [] (plainElem_bool Try.underlying4 true) ?_; intro w1 hown1 hgrow1)
            | go_in)
          go_roundw
          case rel =>
            refine ⟨k + 1, _, ⟨by omega, by go_num, ?_, ?_⟩, hown1, ?_⟩
            · rw [htake]; exact hrv
            · rw [htake]; exact hseen.put hown.isMap hsk
            · exact ((hnx.alloc (by simpa using hnx.size) _).trans (bel_weaken hb1 (by simp; omega))).grown hgrow1 (by omega) (fun j hj => by cases hj; exact Nat.le_refl _)
          case measure => simp [intOf]; omega
        · rw [cond_t] at hrv
          injection hrv with hrv
          subst hrv
          go_wp2_with (first
            | (go_at_call 51; refine (hck hp _ (hnx.alloc (by simpa using hnx.size) _)).mono ?_; rintro e W1 ⟨rfl, hb1⟩; have hown3 := keep_map hown2 hb1; have hlk := hlook _ hown3; clear hlook; have hz1 := hb1.size; (try simp at hz1); have hcl : W1.cell? ⟨wr.heap.size, 0, none⟩ = some (.string (bytesOf r.1)) := (hb1.cell (by simp)).trans (by simp))
            | go_in)
          go_ret
          exact ⟨rfl, (hnx.alloc (by simpa using hnx.size) _).trans (bel_weaken hb1 (by simp; omega))⟩
    · have : k = n := by omega
      subst this
      rw [List.drop_of_length_le (by omega)] at hrv
      injection hrv with hrv
      subst hrv
      go_wp2
      go_ret
      exact ⟨rfl, hnx⟩
theorem rv_early (a : Option Addr) (n cap : Nat) (w : World) (fa : Int) (f0 : -9223372036854775808 ≤ fa) (f1 : fa ≤ 9223372036854775807) (hn : n ≤ maxLen) (h : fa < 0 ∨ fa > 64 ∨ n > 64) : Calls Try.prog 37 #[.slice a n cap, .int .i64 fa] w fun e w' => e = .returned (.bool false) ∧ Below w.heap.size w w' := by
  have hn63 : n ≤ 9223372036854775807 := by simpa [maxLen] using hn
  go_enter Try.func37, Try.ntmps37
  by_cases h1 : fa < 0
  · go_wp2
    go_ret
    exact ⟨rfl, Below.refl _ _⟩
  by_cases h2 : fa > 64
  · go_wp2
    go_ret
    exact ⟨rfl, Below.refl _ _⟩
  have h3 : (64 : Int) < (n : Int) := by omega
  go_wp2
  go_ret
  exact ⟨rfl, Below.refl _ _⟩
theorem rv_none (a : Option Addr) (cap : Nat) (w : World) (fa : Int) (f0 : 0 ≤ fa) (f1 : fa ≤ 64) : Calls Try.prog 37 #[.slice a 0 cap, .int .i64 fa] w fun e w' => e = .returned (.bool true) ∧ Below w.heap.size w w' := by
  have hmm := @run_makeMap Try.prog
  go_enter Try.func37, Try.ntmps37
  go_wp2
  refine wp_loop_rounds 1 ?_
  rw [rounds_succ]
  go_wp2
  go_ret
  exact ⟨rfl, (Below.refl _ _).alloc (Nat.le_refl _) _⟩
abbrev RxTy : Ty := .pair .str (.pair (.int .i64) (.pair (.int .i64) (.pair (.slice (.int .i64)) (.pair (.int .i64) .unit))))
theorem rx_cells {w : World} {I : Nat → Prop} {x : RxTy.den} {cs : List Value} (h : RepD w I RxTy x cs) : ∃ a l c, cs = [.string (bytesOf x.1), .int .i64 x.2.1, .int .i64 x.2.2.1, .slice a l c, .int .i64 x.2.2.2.2.1] ∧ strOK x.1 = true := by
  obtain ⟨a0, r0, rfl, ⟨rfl, hw⟩, a1, r1, rfl, ⟨rfl, _⟩, a2, r2, rfl, ⟨rfl, _⟩, a3, r3, rfl, h3, a4, r4, rfl, ⟨rfl, _⟩, rfl⟩ := h
  have : ∃ a l c, a3 = [.slice a l c] := by
    obtain ⟨a, c, e, _⟩ := h3
    exact ⟨_, _, _, e⟩
  obtain ⟨a, l, c, rfl⟩ := this
  exact ⟨a, l, c, rfl, hw⟩
theorem hand_37 (h51 : SummOK Try.prog 51 s_51) : SummOK Try.prog 37 s_37 := by
  unfold s_37 shN fN
  refine summ_of_callsN (rs := [.bool]) rfl (by kernel_rfl) ?_ ?_
  · intro cs' r h
    split at h
    · simp at h; subst h
      rfl
    · cases h
  · intro w I look cs cs' l vs himm hp h hvs
    obtain ⟨x, rfl⟩ := purify_ofH hp
    rw [toH_ofH] at h
    simp only [Option.some.injEq, Prod.mk.injEq] at h
    obtain ⟨hpp, rfl⟩ := h
    obtain ⟨xs', fa', _⟩ := x
    obtain ⟨fa, hfa⟩ : ∃ z : Int, z = fa' := ⟨fa', rfl⟩
    subst hfa
    obtain ⟨xs, hxs⟩ : ∃ z : List (List Int × Int × Int × List Int × Int × Unit), z = xs' := ⟨xs', rfl⟩
    subst hxs
    match vs, hvs with
    | [v, v2], ⟨hv, hv2, _⟩ =>
      have e2 : v2 = .int .i64 fa ∧ IntKind.wrap .i64 fa = fa := by
        have := (VRep_one rfl (by simp [ofP])).1 hv2
        obtain ⟨h1, h2⟩ := this
        injection h1 with h1
        exact ⟨h1, h2⟩
      obtain ⟨rfl, hfw⟩ := e2
      have hfb : -9223372036854775808 ≤ fa ∧ fa ≤ 9223372036854775807 := by
        have := wf_wrap hfw
        simp [Lit.wf, IntKind.min, IntKind.max, IntKind.signed, IntKind.bits] at this
        omega
      obtain ⟨a, c, ev, q1, q2, q3⟩ := VRep_slice.1 hv
      simp at ev
      subst ev
      have fin : ∀ (w' : World) (b : Bool), Sp.v_37 xs fa = (b, ()) → VRep (pureE w' I) (tupOf (ofH [.bool] (Sp.v_37 xs fa))) (.bool b) := by
        intro w' b hb
        rw [hb]
        exact (VRep_one rfl (by simp [tupOf, ofH, ofP])).2 rfl
      have hlen : List.length xs ≤ maxLen := Nat.le_trans q1 q2
      by_cases he : fa < 0 ∨ fa > 64 ∨ List.length xs > 64
      · have hF : F_37 xs fa = some (false, ()) := by
          unfold F_37
          by_cases h1 : fa < 0
          · rw [cond_dtt h1]
          rw [cond_dff h1]
          by_cases h2 : fa > 64
          · rw [cond_dtt h2]
          rw [cond_dff h2, cond_dtt (by omega)]
        refine Calls.mono (rv_early a (List.length xs) c w fa hfb.1 hfb.2 hlen he) ?_
        rintro e w' ⟨rfl, hbel⟩
        exact ⟨_, rfl, hbel, fin w' false (pv_37 xs fa hF).2⟩
      have hF0 : F_37 xs fa = (Sp.rvl fa xs []).map fun b => (b, ()) := by
        unfold F_37
        rw [cond_dff (by omega), cond_dff (by omega), cond_dff (by omega)]
      have hS : (F_37 xs fa).isSome = true := hpp
      rw [hF0] at hS
      cases hr : Sp.rvl fa xs [] with
      | none => rw [hr] at hS; cases hS
      | some res =>
      have hF : F_37 xs fa = some (res, ()) := by rw [hF0, hr]; rfl
      have fin' := fun w' => fin w' res (pv_37 xs fa hF).2
      by_cases h0 : 0 < List.length xs
      · obtain ⟨b, off, rows, rfl, hI, hcell, hrows⟩ := q3 h0
        have hex : ∀ i : Nat, ∃ t : Option Addr × Nat × Nat, i < List.length xs → RepD w I RxTy (xs.getD i default) [.string (bytesOf (xs.getD i default).1), .int .i64 (xs.getD i default).2.1, .int .i64 (xs.getD i default).2.2.1, .slice t.1 t.2.1 t.2.2, .int .i64 (xs.getD i default).2.2.2.2.1] ∧ strOK (xs.getD i default).1 = true ∧ ∃ l r, rows = l ++ [.string (bytesOf (xs.getD i default).1), .int .i64 (xs.getD i default).2.1, .int .i64 (xs.getD i default).2.2.1, .slice t.1 t.2.1 t.2.2, .int .i64 (xs.getD i default).2.2.2.2.1] ++ r ∧ l.length = i * 5 := by
          intro i
          by_cases hi : i < List.length xs
          · obtain ⟨c, hc, l, r, e, hl⟩ := Rows.at_ (fun x c => RepD.len RxTy x c) default xs rows hrows i hi
            obtain ⟨ad, ln, cp, rfl, hw⟩ := rx_cells hc
            exact ⟨(ad, ln, cp), fun _ => ⟨hc, hw, l, r, e, hl⟩⟩
          · exact ⟨(none, 0, 0), fun h => absurd h hi⟩
        have hch : ∃ T : Nat → Option Addr × Nat × Nat, ∀ i, i < List.length xs → RepD w I RxTy (xs.getD i default) [.string (bytesOf (xs.getD i default).1), .int .i64 (xs.getD i default).2.1, .int .i64 (xs.getD i default).2.2.1, .slice (T i).1 (T i).2.1 (T i).2.2, .int .i64 (xs.getD i default).2.2.2.2.1] ∧ strOK (xs.getD i default).1 = true ∧ ∃ l r, rows = l ++ [.string (bytesOf (xs.getD i default).1), .int .i64 (xs.getD i default).2.1, .int .i64 (xs.getD i default).2.2.1, .slice (T i).1 (T i).2.1 (T i).2.2, .int .i64 (xs.getD i default).2.2.2.2.1] ++ r ∧ l.length = i * 5 := Classical.axiomOfChoice hex
        obtain ⟨T, hT⟩ := hch
        have hcl : ∀ (i q : Nat) (u : Value), i < List.length xs → q < 5 → [.string (bytesOf (xs.getD i default).1), .int .i64 (xs.getD i default).2.1, .int .i64 (xs.getD i default).2.2.1, .slice (T i).1 (T i).2.1 (T i).2.2, .int .i64 (xs.getD i default).2.2.2.2.1][q]? = some u → w.cell? ⟨b, off + (i * 5 + q), none⟩ = some u := by
          intro i q u hi hq hu
          obtain ⟨_, _, l, r, e, hl⟩ := hT i hi
          refine hcell (i * 5 + q) u ?_
          rw [e, List.append_assoc, List.getElem?_append_right (by omega), hl, Nat.add_sub_cancel_left, List.getElem?_append_left (by simpa using hq)]
          exact hu
        refine Calls.mono (rv_walk b off (List.length xs) c w xs fa res (fun i => (T i).1) (fun i => (T i).2.1) (fun i => (T i).2.2) (himm b hI) hlen rfl hr (by omega) (by omega) (by omega) (fun j hj => (hT j hj).2.1)
          (fun j hj => hcl j 0 _ hj (by omega) rfl) (fun j hj => hcl j 1 _ hj (by omega) rfl) (fun j hj => hcl j 2 _ hj (by omega) rfl) (fun j hj => hcl j 3 _ hj (by omega) rfl) (fun j hj => hcl j 4 _ hj (by omega) rfl) ?_) ?_
        · intro j hj hpj W hW
          have hrep : RepD W I RxTy (xs.getD j default) _ := RepD.mono (fun _ h => h) (fun g hg => hW.block g (himm g hg)) RxTy _ _ (hT j hj).1
          have hvs : Vs (pureE W I) (ofH [RxTy, .int .i64] (xs.getD j default, fa, ())) [.agg #[.string (bytesOf (xs.getD j default).1), .int .i64 (xs.getD j default).2.1, .int .i64 (xs.getD j default).2.2.1, .slice (T j).1 (T j).2.1 (T j).2.2, .int .i64 (xs.getD j default).2.2.2.2.1], .int .i64 fa] := by
            refine ⟨VRep_of (CRep_ofP hrep) (by simp [ofP]), ?_, trivial⟩
            exact (VRep_one rfl (by simp [ofP])).2 ⟨rfl, hfw⟩
          refine Calls.mono (calls_of_summN h51 (xs.getD j default, fa, ()) hpj (I := I) (fun g hg => Nat.lt_of_lt_of_le (himm g hg) hW.size) hvs) ?_
          rintro e w' ⟨u, E', rfl, rfl, hbel, hu⟩
          have := (VRep_one rfl (by simp [tupOf, ofH, ofP])).1 hu
          refine ⟨?_, hbel⟩
          injection this with this
          rw [this]
        · rintro e w' ⟨rfl, hbel⟩
          exact ⟨_, rfl, hbel, fin' w'⟩
      · have h00 : List.length xs = 0 := by omega
        have hx := List.eq_nil_of_length_eq_zero h00
        have hres : res = true := by
          rw [hx] at hr
          injection hr with hr
          exact hr.symm
        rw [h00]
        refine Calls.mono (rv_none a c w fa (by omega) (by omega)) ?_
        rintro e w' ⟨rfl, hbel⟩
        refine ⟨_, rfl, hbel, ?_⟩
        have := fin' w'
        rw [hres] at this
        exact this
end Go.Ev
namespace Go.Ev
open Go
set_option maxRecDepth 100000
set_option maxHeartbeats 4000000
set_option linter.unusedVariables false
noncomputable section
abbrev Zy10_0 : Ty := (Ty.pair (Ty.int IntKind.i64) (Ty.pair (Ty.int IntKind.i64) (Ty.pair (Ty.slice (Ty.int IntKind.i64)) (Ty.pair (Ty.int IntKind.i64) Ty.unit))))
abbrev Zt10_1 : Type := List (List Int × Int × Int × List Int × Int × Unit)
abbrev Zy10_2 : Ty := (Ty.pair (Ty.int IntKind.i64) (Ty.pair (Ty.slice (Ty.int IntKind.i64)) Ty.unit))
abbrev Zy10_3 : Ty := (.pair (.int .i64) (.pair (.int .i64) (.pair (.slice (.int .i64)) (.pair (.int .i64) .unit))))
abbrev Zt10_4 : Type := List (Int × List Int × Unit)
abbrev Zy10_5 : Ty := (.slice (.pair (.int .i64) (.pair (.slice (.int .i64)) .unit)))
abbrev Zy10_6 : Ty := (Ty.slice (Ty.pair (Ty.int IntKind.i64) (Ty.pair (Ty.slice (Ty.int IntKind.i64)) Ty.unit)))

noncomputable def sm_10 : Nat → Option Summ := fun f => bif Nat.beq f 37 then some s_37 else none
noncomputable def T_10_20_0_0 (p0 : Zt10_4) (p1 : Int) (p2 : Int) (p3 : Zt10_1) : St := St.mk ([CV.pure Zy10_6 p0, CV.clo (38 : Nat) (CV.pair (CV.ptr (0 : Nat) []) (CV.pure Ty.unit PUnit.unit)), jk, jk, jk, jk, jk, CV.int IntKind.i64 p1, CV.int IntKind.i64 p2] ++ (jl 10)) [Blk.mem (CV.pure (Ty.slice (Ty.pair Ty.str Zy10_0)) p3)] (1 : Nat)
noncomputable def X_10_20_0_0_0 (p2 : Int) (p3 : Zt10_1) : St := St.mk ([jk, jk, jk, jk, CV.int IntKind.i64 p2] ++ (jl 14)) [Blk.mem (CV.pure (Ty.slice (Ty.pair Ty.str Zy10_0)) p3)] (1 : Nat)
noncomputable def X_10_20_0_0_1 (p3 : Zt10_1) : St := St.mk (jl 19) [Blk.mem (CV.pure (Ty.slice (Ty.pair Ty.str Zy10_0)) p3)] (1 : Nat)
inductive Sp.E_10_20_0_0 where
  | e0 (p2 : Int) (p3 : Zt10_1)
  | e1 (p3 : Zt10_1)
noncomputable def Sp.B_10_20_0_0 {R : Type} (r : Option Sp.E_10_20_0_0) (k0 : (Int) → (Zt10_1) → Option R) (k1 : (Zt10_1) → Option R) : Option R := match r with
  | none => none
  | some (.e0 p2 p3) => k0 p2 p3
  | some (.e1 p3) => k1 p3
noncomputable def Sp.L_10_20_0_0 : Nat → (List (Int × List Int × Unit)) → (Int) → (Int) → (List (List Int × Int × Int × List Int × Int × Unit)) → Option Sp.E_10_20_0_0
  | 0, _, _, _, _ => none
  | m + 1, p0, p1, p2, p3 => bif decide (p2 < p1) then gd (inB p2 (List.length p0)) (bif decide ((List.getD p0 (Int.toNat p2) Zd0).1 < (0 : Int)) then some (Sp.E_10_20_0_0.e0 p2 p3) else bif decide ((List.getD p0 (Int.toNat p2) Zd0).1 ≥ (↑(List.length p3) : Int)) then some (Sp.E_10_20_0_0.e0 p2 p3) else Sp.L_10_20_0_0 m p0 p1 (IntKind.wrap IntKind.i64 (p2 + (1 : Int))) p3) else some (Sp.E_10_20_0_0.e1 p3)
noncomputable def G_10_20_0_0 {R : Type} (p0 : Zt10_4) (p1 : Int) (p2 : Int) (p3 : Zt10_1) (k : Ex → St → Option R) : Option R := Sp.B_10_20_0_0 (Sp.L_10_20_0_0 FU p0 p1 p2 p3) (fun p2 p3 => k Ex.ret (X_10_20_0_0_0 p2 p3)) (fun p3 => k (Ex.exit (0 : Nat)) (X_10_20_0_0_1 p3))
noncomputable def o_10_20_0_0 {R : Type} (G : (Zt10_4) → (Int) → (Int) → (Zt10_1) → (Ex → St → Option R) → Option R) : St → (Ex → St → Option R) → Option R := fun T k => match T.sl.getD 0 .junk, T.sl.getD 1 .junk, T.sl.getD 7 .junk, T.sl.getD 8 .junk, T.hp with
  | CV.pure (Ty.slice (Ty.pair (Ty.int IntKind.i64) (Ty.pair (Ty.slice (Ty.int IntKind.i64)) Ty.unit))) p0, CV.clo (38 : Nat) (CV.pair (CV.ptr (0 : Nat) []) (CV.pure Ty.unit PUnit.unit)), CV.int IntKind.i64 p1, CV.int IntKind.i64 p2, ((Blk.mem (CV.pure (Ty.slice (Ty.pair Ty.str (Ty.pair (Ty.int IntKind.i64) (Ty.pair (Ty.int IntKind.i64) (Ty.pair (Ty.slice (Ty.int IntKind.i64)) (Ty.pair (Ty.int IntKind.i64) Ty.unit)))))) p3)) :: []) => gd (shapeOK T 19 [0, 1, 7, 8] (1 : Nat)) (G p0 p1 p2 p3 k)
  | _, _, _, _, _ => none
theorem o_10_20_0_0_inv {R : Type} {G : (Zt10_4) → (Int) → (Int) → (Zt10_1) → (Ex → St → Option R) → Option R} {T : St} {k : Ex → St → Option R} {r : R} (h : o_10_20_0_0 G T k = some r) : ∃ p0 p1 p2 p3, T = T_10_20_0_0 p0 p1 p2 p3 ∧ G p0 p1 p2 p3 k = some r := by
  unfold o_10_20_0_0 at h
  split at h
  · obtain ⟨hs, h'⟩ := gd_some h
    refine ⟨_, _, _, _, (st_of (asg := [(0, _), (1, _), (7, _), (8, _)]) hs ⟨by assumption, by assumption, by assumption, by assumption, trivial⟩ (by assumption)).trans ?_, h'⟩
    kernel_rfl
  · cases h
noncomputable def T_10_0 (p0 : Int) (p1 : Int) (p2 : Int) (p3 : Zt10_4) (p4 : Int) (p5 : Int) (p6 : Zt10_1) : St := St.mk ([jk, jk, CV.int IntKind.i64 p0, jk, CV.ptr (0 : Nat) [], jk, jk, jk, jk, jk, CV.int IntKind.i64 p1, CV.int IntKind.i64 p2] ++ (jl 23 ++ ([CV.pure Zy10_6 p3, CV.int IntKind.i64 p4, CV.int IntKind.i64 p5] ++ (jl 32)))) [Blk.mem (CV.pure (Ty.slice (Ty.pair Ty.str Zy10_0)) p6)] (0 : Nat)
noncomputable def X_10_0_0 (p1 : Int) : St := St.mk (jl 10 ++ ([CV.int IntKind.i64 p1] ++ (jl 59))) [] (0 : Nat)
inductive Sp.E_10_0 where
  | e0 (p1 : Int)
noncomputable def Sp.B_10_0 {R : Type} (r : Option Sp.E_10_0) (k0 : (Int) → Option R) : Option R := match r with
  | none => none
  | some (.e0 p1) => k0 p1
noncomputable def Sp.L_10_0 : Nat → (Int) → (Int) → (Int) → (List (Int × List Int × Unit)) → (Int) → (Int) → (List (List Int × Int × Int × List Int × Int × Unit)) → Option Sp.E_10_0
  | 0, _, _, _, _, _, _, _ => none
  | m + 1, p0, p1, p2, p3, p4, p5, p6 => bif decide (p5 < p4) then gd (inB p5 (List.length p3)) (gd (inB ((List.getD p3 (Int.toNat p5) Zd0).1) (List.length p6)) (bif (List.getD p6 (Int.toNat ((List.getD p3 (Int.toNat p5) Zd0).1)) (Ty.dflt (Ty.pair Ty.str (Ty.pair (Ty.int IntKind.i64) (Ty.pair (Ty.int IntKind.i64) (Ty.pair (Ty.slice (Ty.int IntKind.i64)) (Ty.pair (Ty.int IntKind.i64) Ty.unit))))))).2.1 != p0 then Sp.L_10_0 m p0 p1 p2 p3 p4 (IntKind.wrap IntKind.i64 (p5 + (1 : Int))) p6 else bif decide ((List.getD p6 (Int.toNat ((List.getD p3 (Int.toNat p5) Zd0).1)) (Ty.dflt (Ty.pair Ty.str (Ty.pair (Ty.int IntKind.i64) (Ty.pair (Ty.int IntKind.i64) (Ty.pair (Ty.slice (Ty.int IntKind.i64)) (Ty.pair (Ty.int IntKind.i64) Ty.unit))))))).2.2.1 < p2) then Sp.L_10_0 m p0 p1 p2 p3 p4 (IntKind.wrap IntKind.i64 (p5 + (1 : Int))) p6 else bif decide ((List.getD p6 (Int.toNat ((List.getD p3 (Int.toNat p5) Zd0).1)) (Ty.dflt (Ty.pair Ty.str (Ty.pair (Ty.int IntKind.i64) (Ty.pair (Ty.int IntKind.i64) (Ty.pair (Ty.slice (Ty.int IntKind.i64)) (Ty.pair (Ty.int IntKind.i64) Ty.unit))))))).2.2.1 > p2) then Sp.L_10_0 m p0 (if (List.getD p6 (Int.toNat ((List.getD p3 (Int.toNat p5) Zd0).1)) (Ty.dflt (Ty.pair Ty.str (Ty.pair (Ty.int IntKind.i64) (Ty.pair (Ty.int IntKind.i64) (Ty.pair (Ty.slice (Ty.int IntKind.i64)) (Ty.pair (Ty.int IntKind.i64) Ty.unit))))))).2.2.2.2.1 < (List.getD p6 (Int.toNat ((List.getD p3 (Int.toNat p5) Zd0).1)) (Ty.dflt (Ty.pair Ty.str (Ty.pair (Ty.int IntKind.i64) (Ty.pair (Ty.int IntKind.i64) (Ty.pair (Ty.slice (Ty.int IntKind.i64)) (Ty.pair (Ty.int IntKind.i64) Ty.unit))))))).2.2.2.2.1 then (List.getD p6 (Int.toNat ((List.getD p3 (Int.toNat p5) Zd0).1)) (Ty.dflt (Ty.pair Ty.str (Ty.pair (Ty.int IntKind.i64) (Ty.pair (Ty.int IntKind.i64) (Ty.pair (Ty.slice (Ty.int IntKind.i64)) (Ty.pair (Ty.int IntKind.i64) Ty.unit))))))).2.2.2.2.1 else (List.getD p6 (Int.toNat ((List.getD p3 (Int.toNat p5) Zd0).1)) (Ty.dflt (Ty.pair Ty.str (Ty.pair (Ty.int IntKind.i64) (Ty.pair (Ty.int IntKind.i64) (Ty.pair (Ty.slice (Ty.int IntKind.i64)) (Ty.pair (Ty.int IntKind.i64) Ty.unit))))))).2.2.2.2.1) ((List.getD p6 (Int.toNat ((List.getD p3 (Int.toNat p5) Zd0).1)) (Ty.dflt (Ty.pair Ty.str (Ty.pair (Ty.int IntKind.i64) (Ty.pair (Ty.int IntKind.i64) (Ty.pair (Ty.slice (Ty.int IntKind.i64)) (Ty.pair (Ty.int IntKind.i64) Ty.unit))))))).2.2.1) p3 p4 (IntKind.wrap IntKind.i64 (p5 + (1 : Int))) p6 else Sp.L_10_0 m p0 (if (List.getD p6 (Int.toNat ((List.getD p3 (Int.toNat p5) Zd0).1)) (Ty.dflt (Ty.pair Ty.str (Ty.pair (Ty.int IntKind.i64) (Ty.pair (Ty.int IntKind.i64) (Ty.pair (Ty.slice (Ty.int IntKind.i64)) (Ty.pair (Ty.int IntKind.i64) Ty.unit))))))).2.2.2.2.1 < p1 then (List.getD p6 (Int.toNat ((List.getD p3 (Int.toNat p5) Zd0).1)) (Ty.dflt (Ty.pair Ty.str (Ty.pair (Ty.int IntKind.i64) (Ty.pair (Ty.int IntKind.i64) (Ty.pair (Ty.slice (Ty.int IntKind.i64)) (Ty.pair (Ty.int IntKind.i64) Ty.unit))))))).2.2.2.2.1 else p1) p2 p3 p4 (IntKind.wrap IntKind.i64 (p5 + (1 : Int))) p6)) else some (Sp.E_10_0.e0 p1)
noncomputable def G_10_0 {R : Type} (p0 : Int) (p1 : Int) (p2 : Int) (p3 : Zt10_4) (p4 : Int) (p5 : Int) (p6 : Zt10_1) (k : Ex → St → Option R) : Option R := Sp.B_10_0 (Sp.L_10_0 FU p0 p1 p2 p3 p4 p5 p6) (fun p1 => k (Ex.exit (0 : Nat)) (X_10_0_0 p1))
noncomputable def o_10_0 {R : Type} (G : (Int) → (Int) → (Int) → (Zt10_4) → (Int) → (Int) → (Zt10_1) → (Ex → St → Option R) → Option R) : St → (Ex → St → Option R) → Option R := fun T k => match T.sl.getD 2 .junk, T.sl.getD 4 .junk, T.sl.getD 10 .junk, T.sl.getD 11 .junk, T.sl.getD 35 .junk, T.sl.getD 36 .junk, T.sl.getD 37 .junk, T.hp with
  | CV.int IntKind.i64 p0, CV.ptr (0 : Nat) [], CV.int IntKind.i64 p1, CV.int IntKind.i64 p2, CV.pure (Ty.slice (Ty.pair (Ty.int IntKind.i64) (Ty.pair (Ty.slice (Ty.int IntKind.i64)) Ty.unit))) p3, CV.int IntKind.i64 p4, CV.int IntKind.i64 p5, ((Blk.mem (CV.pure (Ty.slice (Ty.pair Ty.str (Ty.pair (Ty.int IntKind.i64) (Ty.pair (Ty.int IntKind.i64) (Ty.pair (Ty.slice (Ty.int IntKind.i64)) (Ty.pair (Ty.int IntKind.i64) Ty.unit)))))) p6)) :: []) => gd (shapeOK T 70 [2, 4, 10, 11, 35, 36, 37] (0 : Nat)) (G p0 p1 p2 p3 p4 p5 p6 k)
  | _, _, _, _, _, _, _, _ => none
theorem o_10_0_inv {R : Type} {G : (Int) → (Int) → (Int) → (Zt10_4) → (Int) → (Int) → (Zt10_1) → (Ex → St → Option R) → Option R} {T : St} {k : Ex → St → Option R} {r : R} (h : o_10_0 G T k = some r) : ∃ p0 p1 p2 p3 p4 p5 p6, T = T_10_0 p0 p1 p2 p3 p4 p5 p6 ∧ G p0 p1 p2 p3 p4 p5 p6 k = some r := by
  unfold o_10_0 at h
  split at h
  · obtain ⟨hs, h'⟩ := gd_some h
    refine ⟨_, _, _, _, _, _, _, (st_of (asg := [(2, _), (4, _), (10, _), (11, _), (35, _), (36, _), (37, _)]) hs ⟨by assumption, by assumption, by assumption, by assumption, by assumption, by assumption, by assumption, trivial⟩ (by assumption)).trans ?_, h'⟩
    kernel_rfl
  · cases h
noncomputable def O_10_20_0 {R : Type} : St → (Ex → St → Option R) → Option R := fun T k => o_10_20_0_0 G_10_20_0_0 T k
noncomputable def O_10_10_0 {R : Type} : St → (Ex → St → Option R) → Option R := fun T k => o_10_0 G_10_0 T k
noncomputable def g_10_20 {R : Type} : List CV → List Blk → (CV → List Blk → Option R) → Option R := evFnL sm_10 FU (ovr noO (evFn sm_10 fns FU 1)) (ir20_t O_10_20_0) ir20
noncomputable def g_10_12 {R : Type} : List CV → List Blk → (CV → List Blk → Option R) → Option R := evFnL sm_10 FU (ovr (fun f' => bif Nat.beq f' 20 then some (g_10_20) else none) (evFn sm_10 fns FU 2)) .nil ir12
theorem body_10_20_0_0 {R : Type} (K0 : St → Option R) (K1 : Ex → St → Option R) (p0 : Zt10_4) (p1 : Int) (p2 : Int) (p3 : Zt10_1) : evLB (evCodeL sm_10 FU (ovr noO (evFn sm_10 fns FU 1)) .nil ir20_b0) (St.norm ir20_v0) (T_10_20_0_0 p0 p1 p2 p3) K0 K1 =
  bif decide (p2 < p1) then gd (inB p2 (List.length p0)) (bif decide ((List.getD p0 (Int.toNat p2) (Ty.dflt Zy10_2)).1 < (0 : Int)) then K1 Ex.ret (X_10_20_0_0_0 p2 p3) else bif decide ((List.getD p0 (Int.toNat p2) (Ty.dflt Zy10_2)).1 ≥ (↑(List.length p3) : Int)) then K1 Ex.ret (X_10_20_0_0_0 p2 p3) else K0 (T_10_20_0_0 p0 p1 (IntKind.wrap IntKind.i64 (p2 + (1 : Int))) p3)) else K1 (Ex.exit (0 : Nat)) (X_10_20_0_0_1 p3) := by kernel_rfl
theorem Bgd_10_20_0_0 {R : Type} {c : Bool} {x : Option R} {y : Option Sp.E_10_20_0_0} {k0 : (Int) → (Zt10_1) → Option R} {k1 : (Zt10_1) → Option R} (h : x = Sp.B_10_20_0_0 y k0 k1) : gd c x = Sp.B_10_20_0_0 (gd c y) k0 k1 := by cases c; rfl; exact h
theorem Bcond_10_20_0_0 {R : Type} {c : Bool} {x x' : Option R} {y y' : Option Sp.E_10_20_0_0} {k0 : (Int) → (Zt10_1) → Option R} {k1 : (Zt10_1) → Option R} (h : x = Sp.B_10_20_0_0 y k0 k1) (h' : x' = Sp.B_10_20_0_0 y' k0 k1) : (bif c then x else x') = Sp.B_10_20_0_0 (bif c then y else y') k0 k1 := by cases c; exact h'; exact h
theorem loop_10_20_0_0 {R : Type} (k : Ex → St → Option R) : ∀ (m : Nat) (p0 : Zt10_4) (p1 : Int) (p2 : Int) (p3 : Zt10_1), evLoopN (evCodeL sm_10 FU (ovr noO (evFn sm_10 fns FU 1)) .nil ir20_b0) (St.norm ir20_v0) m (T_10_20_0_0 p0 p1 p2 p3) k = Sp.B_10_20_0_0 (Sp.L_10_20_0_0 m p0 p1 p2 p3) (fun p2 p3 => k Ex.ret (X_10_20_0_0_0 p2 p3)) (fun p3 => k (Ex.exit (0 : Nat)) (X_10_20_0_0_1 p3))
  | 0, _, _, _, _ => rfl
  | m + 1, p0, p1, p2, p3 => by
    rw [evLoopN_succ, body_10_20_0_0, Sp.L_10_20_0_0]
    repeat' first | apply Bgd_10_20_0_0 | apply Bcond_10_20_0_0 | exact loop_10_20_0_0 k m _ _ _ _ | rfl
theorem ok_10_20_0_0 {R : Type} (T : St) (k : Ex → St → Option R) (r : R) (h0 : o_10_20_0_0 G_10_20_0_0 T k = some r) : evLoopN (evCode sm_10 FU (evFn sm_10 fns FU 1) ir20_b0) (St.norm ir20_v0) FU T k = some r := by
  obtain ⟨p0, p1, p2, p3, rfl, h⟩ := o_10_20_0_0_inv h0
  refine evLoopN_L (t := .nil) noO_ok trivial _ _ _ _ ?_
  rw [loop_10_20_0_0]
  exact h
theorem OK_10_20_0 {R : Type} (T : St) (k : Ex → St → Option R) (r : R) (h : O_10_20_0 T k = some r) : evLoopN (evCode sm_10 FU (evFn sm_10 fns FU 1) ir20_b0) (St.norm ir20_v0) FU T k = some r := ok_10_20_0_0 T k r h
theorem g_10_20_ok {R : Type} (args : List CV) (hp : List Blk) (k : CV → List Blk → Option R) (r : R) (h : g_10_20 args hp k = some r) : evFn sm_10 fns FU 2 20 args hp k = some r :=
  evFnL_sound (fn := ir20) (t := (ir20_t O_10_20_0)) (o := noO) rfl noO_ok (ir20_tok (fun T k r => OK_10_20_0 T k r)) h
theorem ov_10_12_ok {R : Type} : OvrOK (R := R) (fun f' => bif Nat.beq f' 20 then some (g_10_20) else none) (evFn sm_10 fns FU 2) := by
  intro f' g h args hp k r hg
  dsimp only at h
  by_cases h20 : f' = 20
  · subst h20
    injection h with h
    subst h
    exact evFn_le 0 (g_10_20_ok _ _ _ _ hg)
  rw [nbeq_ne h20, cond_false] at h
  cases h
theorem g_10_12_ok {R : Type} (args : List CV) (hp : List Blk) (k : CV → List Blk → Option R) (r : R) (h : g_10_12 args hp k = some r) : evFn sm_10 fns FU 3 12 args hp k = some r :=
  evFnL_sound (fn := ir12) (t := .nil) (o := (fun f' => bif Nat.beq f' 20 then some (g_10_20) else none)) rfl ov_10_12_ok trivial h
theorem ov_10_10_ok {R : Type} : OvrOK (R := R) (fun f' => bif Nat.beq f' 12 then some (g_10_12) else none) (evFn sm_10 fns FU 3) := by
  intro f' g h args hp k r hg
  dsimp only at h
  by_cases h12 : f' = 12
  · subst h12
    injection h with h
    subst h
    exact evFn_le 0 (g_10_12_ok _ _ _ _ hg)
  rw [nbeq_ne h12, cond_false] at h
  cases h
theorem body_10_0 {R : Type} (K0 : St → Option R) (K1 : Ex → St → Option R) (p0 : Int) (p1 : Int) (p2 : Int) (p3 : Zt10_4) (p4 : Int) (p5 : Int) (p6 : Zt10_1) : evLB (evCodeL sm_10 FU (ovr (fun f' => bif Nat.beq f' 12 then some (g_10_12) else none) (evFn sm_10 fns FU 3)) .nil ir10_b0) (St.norm ir10_v0) (T_10_0 p0 p1 p2 p3 p4 p5 p6) K0 K1 =
  bif decide (p5 < p4) then gd (inB p5 (List.length p3)) (gd (inB ((List.getD p3 (Int.toNat p5) (Ty.dflt Zy10_2)).1) (List.length p6)) (bif (List.getD p6 (Int.toNat ((List.getD p3 (Int.toNat p5) (Ty.dflt Zy10_2)).1)) (Ty.dflt (Ty.pair Ty.str Zy10_0))).2.1 != p0 then K0 (T_10_0 p0 p1 p2 p3 p4 (IntKind.wrap IntKind.i64 (p5 + (1 : Int))) p6) else bif decide ((List.getD p6 (Int.toNat ((List.getD p3 (Int.toNat p5) (Ty.dflt Zy10_2)).1)) (Ty.dflt (Ty.pair Ty.str Zy10_0))).2.2.1 < p2) then K0 (T_10_0 p0 p1 p2 p3 p4 (IntKind.wrap IntKind.i64 (p5 + (1 : Int))) p6) else bif decide ((List.getD p6 (Int.toNat ((List.getD p3 (Int.toNat p5) (Ty.dflt Zy10_2)).1)) (Ty.dflt (Ty.pair Ty.str Zy10_0))).2.2.1 > p2) then K0 (T_10_0 p0 (if (List.getD p6 (Int.toNat ((List.getD p3 (Int.toNat p5) (Ty.dflt Zy10_2)).1)) (Ty.dflt (Ty.pair Ty.str Zy10_0))).2.2.2.2.1 < (List.getD p6 (Int.toNat ((List.getD p3 (Int.toNat p5) (Ty.dflt Zy10_2)).1)) (Ty.dflt (Ty.pair Ty.str Zy10_0))).2.2.2.2.1 then (List.getD p6 (Int.toNat ((List.getD p3 (Int.toNat p5) (Ty.dflt Zy10_2)).1)) (Ty.dflt (Ty.pair Ty.str Zy10_0))).2.2.2.2.1 else (List.getD p6 (Int.toNat ((List.getD p3 (Int.toNat p5) (Ty.dflt Zy10_2)).1)) (Ty.dflt (Ty.pair Ty.str Zy10_0))).2.2.2.2.1) ((List.getD p6 (Int.toNat ((List.getD p3 (Int.toNat p5) (Ty.dflt Zy10_2)).1)) (Ty.dflt (Ty.pair Ty.str Zy10_0))).2.2.1) p3 p4 (IntKind.wrap IntKind.i64 (p5 + (1 : Int))) p6) else K0 (T_10_0 p0 (if (List.getD p6 (Int.toNat ((List.getD p3 (Int.toNat p5) (Ty.dflt Zy10_2)).1)) (Ty.dflt (Ty.pair Ty.str Zy10_0))).2.2.2.2.1 < p1 then (List.getD p6 (Int.toNat ((List.getD p3 (Int.toNat p5) (Ty.dflt Zy10_2)).1)) (Ty.dflt (Ty.pair Ty.str Zy10_0))).2.2.2.2.1 else p1) p2 p3 p4 (IntKind.wrap IntKind.i64 (p5 + (1 : Int))) p6))) else K1 (Ex.exit (0 : Nat)) (X_10_0_0 p1) := by kernel_rfl
theorem Bgd_10_0 {R : Type} {c : Bool} {x : Option R} {y : Option Sp.E_10_0} {k0 : (Int) → Option R} (h : x = Sp.B_10_0 y k0) : gd c x = Sp.B_10_0 (gd c y) k0 := by cases c; rfl; exact h
theorem Bcond_10_0 {R : Type} {c : Bool} {x x' : Option R} {y y' : Option Sp.E_10_0} {k0 : (Int) → Option R} (h : x = Sp.B_10_0 y k0) (h' : x' = Sp.B_10_0 y' k0) : (bif c then x else x') = Sp.B_10_0 (bif c then y else y') k0 := by cases c; exact h'; exact h
theorem loop_10_0 {R : Type} (k : Ex → St → Option R) : ∀ (m : Nat) (p0 : Int) (p1 : Int) (p2 : Int) (p3 : Zt10_4) (p4 : Int) (p5 : Int) (p6 : Zt10_1), evLoopN (evCodeL sm_10 FU (ovr (fun f' => bif Nat.beq f' 12 then some (g_10_12) else none) (evFn sm_10 fns FU 3)) .nil ir10_b0) (St.norm ir10_v0) m (T_10_0 p0 p1 p2 p3 p4 p5 p6) k = Sp.B_10_0 (Sp.L_10_0 m p0 p1 p2 p3 p4 p5 p6) (fun p1 => k (Ex.exit (0 : Nat)) (X_10_0_0 p1))
  | 0, _, _, _, _, _, _, _ => rfl
  | m + 1, p0, p1, p2, p3, p4, p5, p6 => by
    rw [evLoopN_succ, body_10_0, Sp.L_10_0]
    repeat' first | apply Bgd_10_0 | apply Bcond_10_0 | exact loop_10_0 k m _ _ _ _ _ _ _ | rfl
theorem ok_10_0 {R : Type} (T : St) (k : Ex → St → Option R) (r : R) (h0 : o_10_0 G_10_0 T k = some r) : evLoopN (evCode sm_10 FU (evFn sm_10 fns FU 3) ir10_b0) (St.norm ir10_v0) FU T k = some r := by
  obtain ⟨p0, p1, p2, p3, p4, p5, p6, rfl, h⟩ := o_10_0_inv h0
  refine evLoopN_L (t := .nil) ov_10_10_ok trivial _ _ _ _ ?_
  rw [loop_10_0]
  exact h
theorem OK_10_10_0 {R : Type} (T : St) (k : Ex → St → Option R) (r : R) (h : O_10_10_0 T k = some r) : evLoopN (evCode sm_10 FU (evFn sm_10 fns FU 3) ir10_b0) (St.norm ir10_v0) FU T k = some r := ok_10_0 T k r h
noncomputable def F_10 (a0 : (List ((List Int) × (Int × (Int × ((List Int) × (Int × Unit))))))) (a1 : (List (Int × ((List Int) × Unit)))) (a2 : Int) (a3 : Int) : Option (Int × Int × Unit) :=
  gd (Sp.p_37 a0 (64 : Int)) (bif !(Sp.v_37 a0 (64 : Int)).1 then some ((0 : Int), (1 : Int), PUnit.unit) else bif decide ((↑(List.length a1) : Int) > (64 : Int)) then some ((0 : Int), (1 : Int), PUnit.unit) else Sp.B_10_20_0_0 (Sp.L_10_20_0_0 (4611686018427387904 : Nat) a1 (↑(List.length a1) : Int) (0 : Int) a0) (fun y9 y10 => bif decide (y9 ≥ (0 : Int)) then some ((0 : Int), (1 : Int), PUnit.unit) else bif decide (a2 < (0 : Int)) then some ((0 : Int), (2 : Int), PUnit.unit) else bif decide (a2 > (15 : Int)) then some ((0 : Int), (2 : Int), PUnit.unit) else Sp.B_10_0 (Sp.L_10_0 (4611686018427387904 : Nat) a2 a3 (-1 : Int) a1 (↑(List.length a1) : Int) (0 : Int) y10) fun y11 => some (y11, (0 : Int), PUnit.unit)) fun y12 => bif decide (a2 < (0 : Int)) then some ((0 : Int), (2 : Int), PUnit.unit) else bif decide (a2 > (15 : Int)) then some ((0 : Int), (2 : Int), PUnit.unit) else Sp.B_10_0 (Sp.L_10_0 (4611686018427387904 : Nat) a2 a3 (-1 : Int) a1 (↑(List.length a1) : Int) (0 : Int) y12) fun y13 => some (y13, (0 : Int), PUnit.unit))
theorem fn_10 (a0 : (List ((List Int) × (Int × (Int × ((List Int) × (Int × Unit))))))) (a1 : (List (Int × ((List Int) × Unit)))) (a2 : Int) (a3 : Int) : evFnL sm_10 FU (ovr (fun f' => bif Nat.beq f' 12 then some (g_10_12) else none) (evFn sm_10 fns FU 3)) (ir10_t O_10_10_0) ir10 (ofH [(.slice (.pair .str Zy10_3)), Zy10_5, (.int .i64), (.int .i64)] (a0, a1, a2, a3, ())) [] (pureK [(.int .i64), (.int .i64)]) = F_10 a0 a1 a2 a3 := by kernel_rfl
noncomputable def Sp.p_10 (a0 : (List ((List Int) × (Int × (Int × ((List Int) × (Int × Unit))))))) (a1 : (List (Int × ((List Int) × Unit)))) (a2 : Int) (a3 : Int) : Bool := (F_10 a0 a1 a2 a3).isSome
noncomputable def Sp.v_10 (a0 : (List ((List Int) × (Int × (Int × ((List Int) × (Int × Unit))))))) (a1 : (List (Int × ((List Int) × Unit)))) (a2 : Int) (a3 : Int) : Int × Int × Unit := (F_10 a0 a1 a2 a3).getD (dfH [(.int .i64), (.int .i64)])
noncomputable def s_10 : Summ := shN [(.slice (.pair .str Zy10_3)), Zy10_5, (.int .i64), (.int .i64)] [(.int .i64), (.int .i64)] (fun x => Sp.p_10 x.1 x.2.1 x.2.2.1 x.2.2.2.1) (fun x => Sp.v_10 x.1 x.2.1 x.2.2.1 x.2.2.2.1)
theorem run_10 (x : HDen [(.slice (.pair .str Zy10_3)), Zy10_5, (.int .i64), (.int .i64)]) (y : HDen [(.int .i64), (.int .i64)]) (h : F_10 x.1 x.2.1 x.2.2.1 x.2.2.2.1 = some y) : evFn sm_10 fns FU 4 10 (ofH [(.slice (.pair .str Zy10_3)), Zy10_5, (.int .i64), (.int .i64)] x) [] (pureK [(.int .i64), (.int .i64)]) = some y :=
  evFnL_sound (fn := ir10) (t := (ir10_t O_10_10_0)) (o := (fun f' => bif Nat.beq f' 12 then some (g_10_12) else none)) rfl ov_10_10_ok (ir10_tok (fun T k r => OK_10_10_0 T k r)) ((fn_10 _ _ _ _).trans h)
end
end Go.Ev
namespace Go.Ev
open Go
set_option maxRecDepth 100000
set_option maxHeartbeats 4000000
set_option linter.unusedVariables false
noncomputable section

noncomputable def sm_61 : Nat → Option Summ := fun f => none


noncomputable def F_61 (a0 : Int) (a1 : Int) (a2 : Int) : Option (Bool × Unit) :=
  bif decide (a0 ≥ a1) then some (decide (a0 ≤ a2), PUnit.unit) else some (false, PUnit.unit)
theorem fn_61 (a0 : Int) (a1 : Int) (a2 : Int) : evFnL sm_61 FU (ovr noO (evFn sm_61 fns FU 0)) .nil ir61 (ofH [(.int .i64), (.int .i64), (.int .i64)] (a0, a1, a2, ())) [] (pureK [.bool]) = F_61 a0 a1 a2 := by kernel_rfl
noncomputable def Sp.p_61 (a0 : Int) (a1 : Int) (a2 : Int) : Bool := (F_61 a0 a1 a2).isSome
noncomputable def Sp.v_61 (a0 : Int) (a1 : Int) (a2 : Int) : Bool × Unit := (F_61 a0 a1 a2).getD (dfH [.bool])
noncomputable def s_61 : Summ := shN [(.int .i64), (.int .i64), (.int .i64)] [.bool] (fun x => Sp.p_61 x.1 x.2.1 x.2.2.1) (fun x => Sp.v_61 x.1 x.2.1 x.2.2.1)
theorem pv_61 (a0 : Int) (a1 : Int) (a2 : Int) {y : Bool × Unit} (h : F_61 a0 a1 a2 = some y) : Sp.p_61 a0 a1 a2 = true ∧ Sp.v_61 a0 a1 a2 = y := ⟨by rw [Sp.p_61, h]; rfl, by rw [Sp.v_61, h]; rfl⟩
theorem run_61 (x : HDen [(.int .i64), (.int .i64), (.int .i64)]) (y : HDen [.bool]) (h : F_61 x.1 x.2.1 x.2.2.1 = some y) : evFn sm_61 fns FU 1 61 (ofH [(.int .i64), (.int .i64), (.int .i64)] x) [] (pureK [.bool]) = some y :=
  evFnL_sound (fn := ir61) (t := .nil) (o := noO) rfl noO_ok trivial ((fn_61 _ _ _).trans h)
end
end Go.Ev
namespace Go.Ev
open Go
set_option maxRecDepth 100000
set_option maxHeartbeats 4000000
set_option linter.unusedVariables false
noncomputable section

noncomputable def sm_70 : Nat → Option Summ := fun f => bif Nat.beq f 61 then some s_61 else none


noncomputable def F_70 (a0 : Int) : Option (Bool × Unit) :=
  gd (Sp.p_61 a0 (-1099511627776 : Int) (1099511627776 : Int)) (some ((Sp.v_61 a0 (-1099511627776 : Int) (1099511627776 : Int)).1, PUnit.unit))
theorem fn_70 (a0 : Int) : evFnL sm_70 FU (ovr noO (evFn sm_70 fns FU 0)) .nil ir70 (ofH [(.int .i64)] (a0, ())) [] (pureK [.bool]) = F_70 a0 := by kernel_rfl
noncomputable def Sp.p_70 (a0 : Int) : Bool := (F_70 a0).isSome
noncomputable def Sp.v_70 (a0 : Int) : Bool × Unit := (F_70 a0).getD (dfH [.bool])
noncomputable def s_70 : Summ := shN [(.int .i64)] [.bool] (fun x => Sp.p_70 x.1) (fun x => Sp.v_70 x.1)
theorem pv_70 (a0 : Int) {y : Bool × Unit} (h : F_70 a0 = some y) : Sp.p_70 a0 = true ∧ Sp.v_70 a0 = y := ⟨by rw [Sp.p_70, h]; rfl, by rw [Sp.v_70, h]; rfl⟩
theorem run_70 (x : HDen [(.int .i64)]) (y : HDen [.bool]) (h : F_70 x.1 = some y) : evFn sm_70 fns FU 1 70 (ofH [(.int .i64)] x) [] (pureK [.bool]) = some y :=
  evFnL_sound (fn := ir70) (t := .nil) (o := noO) rfl noO_ok trivial ((fn_70 _).trans h)
end
end Go.Ev
namespace Go.Ev
open Go
set_option maxRecDepth 100000
set_option maxHeartbeats 4000000
set_option linter.unusedVariables false
noncomputable section
abbrev Zt65_0 : Type := Int × Int × Int × Int × Int × Int × Bool × Int × Unit
abbrev Zy65_1 : Ty := (Ty.pair (Ty.int IntKind.i64) (Ty.pair (Ty.int IntKind.i64) (Ty.pair (Ty.int IntKind.i64) (Ty.pair (Ty.int IntKind.i64) (Ty.pair (Ty.int IntKind.i64) (Ty.pair (Ty.int IntKind.i64) (Ty.pair Ty.bool (Ty.pair (Ty.int IntKind.i64) Ty.unit))))))))
abbrev Zy65_2 : Ty := (.pair (.int .i64) (.pair (.int .i64) (.pair (.int .i64) (.pair (.int .i64) (.pair (.int .i64) (.pair (.int .i64) (.pair .bool (.pair (.int .i64) .unit))))))))

noncomputable def sm_65 : Nat → Option Summ := fun f => bif Nat.beq f 70 then some s_70 else none
noncomputable def T_65_48_0_0 (p0 : List Int) (p1 : Int) (p2 : Int) (p3 : Zt65_0) : St := St.mk ([CV.pure (Ty.slice (Ty.int IntKind.i64)) p0, CV.clo (69 : Nat) (CV.pure Ty.unit PUnit.unit), jk, jk, jk, jk, jk, CV.int IntKind.i64 p1, CV.int IntKind.i64 p2] ++ (jl 10)) [Blk.mem (CV.pure Zy65_1 p3)] (1 : Nat)
noncomputable def X_65_48_0_0_0 (p2 : Int) (p3 : Zt65_0) : St := St.mk ([jk, jk, jk, jk, CV.int IntKind.i64 p2] ++ (jl 14)) [Blk.mem (CV.pure Zy65_1 p3)] (1 : Nat)
noncomputable def X_65_48_0_0_1 (p3 : Zt65_0) : St := St.mk (jl 19) [Blk.mem (CV.pure Zy65_1 p3)] (1 : Nat)
inductive Sp.E_65_48_0_0 where
  | e0 (p2 : Int) (p3 : Zt65_0)
  | e1 (p3 : Zt65_0)
noncomputable def Sp.B_65_48_0_0 {R : Type} (r : Option Sp.E_65_48_0_0) (k0 : (Int) → (Zt65_0) → Option R) (k1 : (Zt65_0) → Option R) : Option R := match r with
  | none => none
  | some (.e0 p2 p3) => k0 p2 p3
  | some (.e1 p3) => k1 p3
noncomputable def Sp.L_65_48_0_0 : Nat → (List Int) → (Int) → (Int) → (Int × Int × Int × Int × Int × Int × Bool × Int × Unit) → Option Sp.E_65_48_0_0
  | 0, _, _, _, _ => none
  | m + 1, p0, p1, p2, p3 => bif decide (p2 < p1) then gd (inB p2 (List.length p0)) (gd (Sp.p_70 (List.getD p0 (Int.toNat p2) (0 : Int))) (bif !(Sp.v_70 (List.getD p0 (Int.toNat p2) (0 : Int))).1 then some (Sp.E_65_48_0_0.e0 p2 p3) else Sp.L_65_48_0_0 m p0 p1 (IntKind.wrap IntKind.i64 (p2 + (1 : Int))) p3)) else some (Sp.E_65_48_0_0.e1 p3)
noncomputable def G_65_48_0_0 {R : Type} (p0 : List Int) (p1 : Int) (p2 : Int) (p3 : Zt65_0) (k : Ex → St → Option R) : Option R := Sp.B_65_48_0_0 (Sp.L_65_48_0_0 FU p0 p1 p2 p3) (fun p2 p3 => k Ex.ret (X_65_48_0_0_0 p2 p3)) (fun p3 => k (Ex.exit (0 : Nat)) (X_65_48_0_0_1 p3))
noncomputable def o_65_48_0_0 {R : Type} (G : (List Int) → (Int) → (Int) → (Zt65_0) → (Ex → St → Option R) → Option R) : St → (Ex → St → Option R) → Option R := fun T k => match T.sl.getD 0 .junk, T.sl.getD 1 .junk, T.sl.getD 7 .junk, T.sl.getD 8 .junk, T.hp with
  | CV.pure (Ty.slice (Ty.int IntKind.i64)) p0, CV.clo (69 : Nat) (CV.pure Ty.unit PUnit.unit), CV.int IntKind.i64 p1, CV.int IntKind.i64 p2, ((Blk.mem (CV.pure (Ty.pair (Ty.int IntKind.i64) (Ty.pair (Ty.int IntKind.i64) (Ty.pair (Ty.int IntKind.i64) (Ty.pair (Ty.int IntKind.i64) (Ty.pair (Ty.int IntKind.i64) (Ty.pair (Ty.int IntKind.i64) (Ty.pair Ty.bool (Ty.pair (Ty.int IntKind.i64) Ty.unit)))))))) p3)) :: []) => gd (shapeOK T 19 [0, 1, 7, 8] (1 : Nat)) (G p0 p1 p2 p3 k)
  | _, _, _, _, _ => none
theorem o_65_48_0_0_inv {R : Type} {G : (List Int) → (Int) → (Int) → (Zt65_0) → (Ex → St → Option R) → Option R} {T : St} {k : Ex → St → Option R} {r : R} (h : o_65_48_0_0 G T k = some r) : ∃ p0 p1 p2 p3, T = T_65_48_0_0 p0 p1 p2 p3 ∧ G p0 p1 p2 p3 k = some r := by
  unfold o_65_48_0_0 at h
  split at h
  · obtain ⟨hs, h'⟩ := gd_some h
    refine ⟨_, _, _, _, (st_of (asg := [(0, _), (1, _), (7, _), (8, _)]) hs ⟨by assumption, by assumption, by assumption, by assumption, trivial⟩ (by assumption)).trans ?_, h'⟩
    kernel_rfl
  · cases h
noncomputable def O_65_48_0 {R : Type} : St → (Ex → St → Option R) → Option R := fun T k => o_65_48_0_0 G_65_48_0_0 T k
noncomputable def g_65_48 {R : Type} : List CV → List Blk → (CV → List Blk → Option R) → Option R := evFnL sm_65 FU (ovr noO (evFn sm_65 fns FU 1)) (ir48_t O_65_48_0) ir48
noncomputable def g_65_68 {R : Type} : List CV → List Blk → (CV → List Blk → Option R) → Option R := evFnL sm_65 FU (ovr (fun f' => bif Nat.beq f' 48 then some (g_65_48) else none) (evFn sm_65 fns FU 2)) .nil ir68
theorem body_65_48_0_0 {R : Type} (K0 : St → Option R) (K1 : Ex → St → Option R) (p0 : List Int) (p1 : Int) (p2 : Int) (p3 : Zt65_0) : evLB (evCodeL sm_65 FU (ovr noO (evFn sm_65 fns FU 1)) .nil ir48_b0) (St.norm ir48_v0) (T_65_48_0_0 p0 p1 p2 p3) K0 K1 =
  bif decide (p2 < p1) then gd (inB p2 (List.length p0)) (gd (Sp.p_70 (List.getD p0 (Int.toNat p2) (0 : Int))) (bif !(Sp.v_70 (List.getD p0 (Int.toNat p2) (0 : Int))).1 then K1 Ex.ret (X_65_48_0_0_0 p2 p3) else K0 (T_65_48_0_0 p0 p1 (IntKind.wrap IntKind.i64 (p2 + (1 : Int))) p3))) else K1 (Ex.exit (0 : Nat)) (X_65_48_0_0_1 p3) := by kernel_rfl
theorem Bgd_65_48_0_0 {R : Type} {c : Bool} {x : Option R} {y : Option Sp.E_65_48_0_0} {k0 : (Int) → (Zt65_0) → Option R} {k1 : (Zt65_0) → Option R} (h : x = Sp.B_65_48_0_0 y k0 k1) : gd c x = Sp.B_65_48_0_0 (gd c y) k0 k1 := by cases c; rfl; exact h
theorem Bcond_65_48_0_0 {R : Type} {c : Bool} {x x' : Option R} {y y' : Option Sp.E_65_48_0_0} {k0 : (Int) → (Zt65_0) → Option R} {k1 : (Zt65_0) → Option R} (h : x = Sp.B_65_48_0_0 y k0 k1) (h' : x' = Sp.B_65_48_0_0 y' k0 k1) : (bif c then x else x') = Sp.B_65_48_0_0 (bif c then y else y') k0 k1 := by cases c; exact h'; exact h
theorem loop_65_48_0_0 {R : Type} (k : Ex → St → Option R) : ∀ (m : Nat) (p0 : List Int) (p1 : Int) (p2 : Int) (p3 : Zt65_0), evLoopN (evCodeL sm_65 FU (ovr noO (evFn sm_65 fns FU 1)) .nil ir48_b0) (St.norm ir48_v0) m (T_65_48_0_0 p0 p1 p2 p3) k = Sp.B_65_48_0_0 (Sp.L_65_48_0_0 m p0 p1 p2 p3) (fun p2 p3 => k Ex.ret (X_65_48_0_0_0 p2 p3)) (fun p3 => k (Ex.exit (0 : Nat)) (X_65_48_0_0_1 p3))
  | 0, _, _, _, _ => rfl
  | m + 1, p0, p1, p2, p3 => by
    rw [evLoopN_succ, body_65_48_0_0, Sp.L_65_48_0_0]
    repeat' first | apply Bgd_65_48_0_0 | apply Bcond_65_48_0_0 | exact loop_65_48_0_0 k m _ _ _ _ | rfl
theorem ok_65_48_0_0 {R : Type} (T : St) (k : Ex → St → Option R) (r : R) (h0 : o_65_48_0_0 G_65_48_0_0 T k = some r) : evLoopN (evCode sm_65 FU (evFn sm_65 fns FU 1) ir48_b0) (St.norm ir48_v0) FU T k = some r := by
  obtain ⟨p0, p1, p2, p3, rfl, h⟩ := o_65_48_0_0_inv h0
  refine evLoopN_L (t := .nil) noO_ok trivial _ _ _ _ ?_
  rw [loop_65_48_0_0]
  exact h
theorem OK_65_48_0 {R : Type} (T : St) (k : Ex → St → Option R) (r : R) (h : O_65_48_0 T k = some r) : evLoopN (evCode sm_65 FU (evFn sm_65 fns FU 1) ir48_b0) (St.norm ir48_v0) FU T k = some r := ok_65_48_0_0 T k r h
theorem g_65_48_ok {R : Type} (args : List CV) (hp : List Blk) (k : CV → List Blk → Option R) (r : R) (h : g_65_48 args hp k = some r) : evFn sm_65 fns FU 2 48 args hp k = some r :=
  evFnL_sound (fn := ir48) (t := (ir48_t O_65_48_0)) (o := noO) rfl noO_ok (ir48_tok (fun T k r => OK_65_48_0 T k r)) h
theorem ov_65_68_ok {R : Type} : OvrOK (R := R) (fun f' => bif Nat.beq f' 48 then some (g_65_48) else none) (evFn sm_65 fns FU 2) := by
  intro f' g h args hp k r hg
  dsimp only at h
  by_cases h48 : f' = 48
  · subst h48
    injection h with h
    subst h
    exact evFn_le 0 (g_65_48_ok _ _ _ _ hg)
  rw [nbeq_ne h48, cond_false] at h
  cases h
theorem g_65_68_ok {R : Type} (args : List CV) (hp : List Blk) (k : CV → List Blk → Option R) (r : R) (h : g_65_68 args hp k = some r) : evFn sm_65 fns FU 3 68 args hp k = some r :=
  evFnL_sound (fn := ir68) (t := .nil) (o := (fun f' => bif Nat.beq f' 48 then some (g_65_48) else none)) rfl ov_65_68_ok trivial h
theorem ov_65_65_ok {R : Type} : OvrOK (R := R) (fun f' => bif Nat.beq f' 68 then some (g_65_68) else none) (evFn sm_65 fns FU 3) := by
  intro f' g h args hp k r hg
  dsimp only at h
  by_cases h68 : f' = 68
  · subst h68
    injection h with h
    subst h
    exact evFn_le 0 (g_65_68_ok _ _ _ _ hg)
  rw [nbeq_ne h68, cond_false] at h
  cases h
noncomputable def F_65 (a0 : (Int × (Int × (Int × (Int × (Int × (Int × (Bool × (Int × Unit))))))))) (a1 : (List Int)) : Option (Bool × Unit) :=
  bif (↑(List.length a1) : Int) == a0.2.2.2.2.2.2.2.1 then Sp.B_65_48_0_0 (Sp.L_65_48_0_0 (4611686018427387904 : Nat) a1 (↑(List.length a1) : Int) (0 : Int) a0) (fun y3 y4 => some (!decide (y3 ≥ (0 : Int)), PUnit.unit)) fun y5 => some (true, PUnit.unit) else some (false, PUnit.unit)
theorem fn_65 (a0 : (Int × (Int × (Int × (Int × (Int × (Int × (Bool × (Int × Unit))))))))) (a1 : (List Int)) : evFnL sm_65 FU (ovr (fun f' => bif Nat.beq f' 68 then some (g_65_68) else none) (evFn sm_65 fns FU 3)) .nil ir65 (ofH [Zy65_2, (.slice (.int .i64))] (a0, a1, ())) [] (pureK [.bool]) = F_65 a0 a1 := by kernel_rfl
noncomputable def Sp.p_65 (a0 : (Int × (Int × (Int × (Int × (Int × (Int × (Bool × (Int × Unit))))))))) (a1 : (List Int)) : Bool := (F_65 a0 a1).isSome
noncomputable def Sp.v_65 (a0 : (Int × (Int × (Int × (Int × (Int × (Int × (Bool × (Int × Unit))))))))) (a1 : (List Int)) : Bool × Unit := (F_65 a0 a1).getD (dfH [.bool])
noncomputable def s_65 : Summ := shN [Zy65_2, (.slice (.int .i64))] [.bool] (fun x => Sp.p_65 x.1 x.2.1) (fun x => Sp.v_65 x.1 x.2.1)
theorem pv_65 (a0 : (Int × (Int × (Int × (Int × (Int × (Int × (Bool × (Int × Unit))))))))) (a1 : (List Int)) {y : Bool × Unit} (h : F_65 a0 a1 = some y) : Sp.p_65 a0 a1 = true ∧ Sp.v_65 a0 a1 = y := ⟨by rw [Sp.p_65, h]; rfl, by rw [Sp.v_65, h]; rfl⟩
theorem run_65 (x : HDen [Zy65_2, (.slice (.int .i64))]) (y : HDen [.bool]) (h : F_65 x.1 x.2.1 = some y) : evFn sm_65 fns FU 4 65 (ofH [Zy65_2, (.slice (.int .i64))] x) [] (pureK [.bool]) = some y :=
  evFnL_sound (fn := ir65) (t := .nil) (o := (fun f' => bif Nat.beq f' 68 then some (g_65_68) else none)) rfl ov_65_65_ok trivial ((fn_65 _ _).trans h)
end
end Go.Ev
namespace Go.Ev
open Go
set_option maxRecDepth 100000
set_option maxHeartbeats 4000000
set_option linter.unusedVariables false
noncomputable section

noncomputable def sm_66 : Nat → Option Summ := fun f => none


noncomputable def F_66 (a0 : (Int × (Int × (Int × (Int × (Int × ((List Int) × (Int × Unit)))))))) (a1 : Int) : Option (Bool × Unit) :=
  some (Sp.andI IntKind.i64 (a0.1) a1 == a1, PUnit.unit)
theorem fn_66 (a0 : (Int × (Int × (Int × (Int × (Int × ((List Int) × (Int × Unit)))))))) (a1 : Int) : evFnL sm_66 FU (ovr noO (evFn sm_66 fns FU 0)) .nil ir66 (ofH [(.pair (.int .i64) (.pair (.int .i64) (.pair (.int .i64) (.pair (.int .i64) (.pair (.int .i64) (.pair (.slice (.int .i64)) (.pair (.int .i64) .unit))))))), (.int .i64)] (a0, a1, ())) [] (pureK [.bool]) = F_66 a0 a1 := by kernel_rfl
noncomputable def Sp.p_66 (a0 : (Int × (Int × (Int × (Int × (Int × ((List Int) × (Int × Unit)))))))) (a1 : Int) : Bool := (F_66 a0 a1).isSome
noncomputable def Sp.v_66 (a0 : (Int × (Int × (Int × (Int × (Int × ((List Int) × (Int × Unit)))))))) (a1 : Int) : Bool × Unit := (F_66 a0 a1).getD (dfH [.bool])
noncomputable def s_66 : Summ := shN [(.pair (.int .i64) (.pair (.int .i64) (.pair (.int .i64) (.pair (.int .i64) (.pair (.int .i64) (.pair (.slice (.int .i64)) (.pair (.int .i64) .unit))))))), (.int .i64)] [.bool] (fun x => Sp.p_66 x.1 x.2.1) (fun x => Sp.v_66 x.1 x.2.1)
theorem pv_66 (a0 : (Int × (Int × (Int × (Int × (Int × ((List Int) × (Int × Unit)))))))) (a1 : Int) {y : Bool × Unit} (h : F_66 a0 a1 = some y) : Sp.p_66 a0 a1 = true ∧ Sp.v_66 a0 a1 = y := ⟨by rw [Sp.p_66, h]; rfl, by rw [Sp.v_66, h]; rfl⟩
theorem run_66 (x : HDen [(.pair (.int .i64) (.pair (.int .i64) (.pair (.int .i64) (.pair (.int .i64) (.pair (.int .i64) (.pair (.slice (.int .i64)) (.pair (.int .i64) .unit))))))), (.int .i64)]) (y : HDen [.bool]) (h : F_66 x.1 x.2.1 = some y) : evFn sm_66 fns FU 1 66 (ofH [(.pair (.int .i64) (.pair (.int .i64) (.pair (.int .i64) (.pair (.int .i64) (.pair (.int .i64) (.pair (.slice (.int .i64)) (.pair (.int .i64) .unit))))))), (.int .i64)] x) [] (pureK [.bool]) = some y :=
  evFnL_sound (fn := ir66) (t := .nil) (o := noO) rfl noO_ok trivial ((fn_66 _ _).trans h)
end
end Go.Ev
namespace Go.Ev
open Go
set_option maxRecDepth 100000
set_option maxHeartbeats 4000000
set_option linter.unusedVariables false
noncomputable section

noncomputable def sm_67 : Nat → Option Summ := fun f => none


noncomputable def F_67 (a0 : (Int × (Int × (Int × (Int × (Int × ((List Int) × (Int × Unit)))))))) : Option (Bool × Unit) :=
  some (Sp.andI IntKind.i64 (a0.1) (6 : Int) != (0 : Int), PUnit.unit)
theorem fn_67 (a0 : (Int × (Int × (Int × (Int × (Int × ((List Int) × (Int × Unit)))))))) : evFnL sm_67 FU (ovr noO (evFn sm_67 fns FU 0)) .nil ir67 (ofH [(.pair (.int .i64) (.pair (.int .i64) (.pair (.int .i64) (.pair (.int .i64) (.pair (.int .i64) (.pair (.slice (.int .i64)) (.pair (.int .i64) .unit)))))))] (a0, ())) [] (pureK [.bool]) = F_67 a0 := by kernel_rfl
noncomputable def Sp.p_67 (a0 : (Int × (Int × (Int × (Int × (Int × ((List Int) × (Int × Unit)))))))) : Bool := (F_67 a0).isSome
noncomputable def Sp.v_67 (a0 : (Int × (Int × (Int × (Int × (Int × ((List Int) × (Int × Unit)))))))) : Bool × Unit := (F_67 a0).getD (dfH [.bool])
noncomputable def s_67 : Summ := shN [(.pair (.int .i64) (.pair (.int .i64) (.pair (.int .i64) (.pair (.int .i64) (.pair (.int .i64) (.pair (.slice (.int .i64)) (.pair (.int .i64) .unit)))))))] [.bool] (fun x => Sp.p_67 x.1) (fun x => Sp.v_67 x.1)
theorem pv_67 (a0 : (Int × (Int × (Int × (Int × (Int × ((List Int) × (Int × Unit)))))))) {y : Bool × Unit} (h : F_67 a0 = some y) : Sp.p_67 a0 = true ∧ Sp.v_67 a0 = y := ⟨by rw [Sp.p_67, h]; rfl, by rw [Sp.v_67, h]; rfl⟩
theorem run_67 (x : HDen [(.pair (.int .i64) (.pair (.int .i64) (.pair (.int .i64) (.pair (.int .i64) (.pair (.int .i64) (.pair (.slice (.int .i64)) (.pair (.int .i64) .unit)))))))]) (y : HDen [.bool]) (h : F_67 x.1 = some y) : evFn sm_67 fns FU 1 67 (ofH [(.pair (.int .i64) (.pair (.int .i64) (.pair (.int .i64) (.pair (.int .i64) (.pair (.int .i64) (.pair (.slice (.int .i64)) (.pair (.int .i64) .unit)))))))] x) [] (pureK [.bool]) = some y :=
  evFnL_sound (fn := ir67) (t := .nil) (o := noO) rfl noO_ok trivial ((fn_67 _).trans h)
end
end Go.Ev
namespace Go.Ev
open Go
set_option maxRecDepth 100000
set_option maxHeartbeats 4000000
set_option linter.unusedVariables false
noncomputable section
abbrev Zt62_0 : Type := Int × Int × Int × Int × Int × List Int × Int × Unit
abbrev Zt62_1 : Type := Int × Int × Int × Int × Int × Int × Bool × Int × Unit
abbrev Zy62_2 : Ty := (Ty.pair (Ty.int IntKind.i64) (Ty.pair (Ty.int IntKind.i64) (Ty.pair (Ty.int IntKind.i64) (Ty.pair (Ty.int IntKind.i64) (Ty.pair (Ty.int IntKind.i64) (Ty.pair (Ty.slice (Ty.int IntKind.i64)) (Ty.pair (Ty.int IntKind.i64) Ty.unit)))))))
abbrev Zy62_3 : Ty := (Ty.pair (Ty.int IntKind.i64) (Ty.pair (Ty.int IntKind.i64) (Ty.pair (Ty.int IntKind.i64) (Ty.pair (Ty.int IntKind.i64) (Ty.pair (Ty.int IntKind.i64) (Ty.pair (Ty.int IntKind.i64) (Ty.pair Ty.bool (Ty.pair (Ty.int IntKind.i64) Ty.unit))))))))
abbrev Zy62_4 : Ty := (.pair (.int .i64) (.pair (.int .i64) (.pair (.int .i64) (.pair (.int .i64) (.pair (.int .i64) (.pair (.int .i64) (.pair .bool (.pair (.int .i64) .unit))))))))
abbrev Zy62_5 : Ty := (.pair (.int .i64) (.pair (.int .i64) (.pair (.int .i64) (.pair (.int .i64) (.pair (.int .i64) (.pair (.slice (.int .i64)) (.pair (.int .i64) .unit)))))))

noncomputable def sm_62 : Nat → Option Summ := fun f => bif Nat.beq f 61 then some s_61 else bif Nat.beq f 65 then some s_65 else bif Nat.beq f 66 then some s_66 else bif Nat.beq f 67 then some s_67 else none
noncomputable def T_62_3 (p0 : Zt62_1) (p1 : Zt62_0) : St := St.mk ([jk, jk, jk, CV.ptr (0 : Nat) [], CV.ptr (1 : Nat) []] ++ (jl 148)) [Blk.mem (CV.pure Zy62_3 p0), Blk.mem (CV.pure Zy62_2 p1)] (0 : Nat)
noncomputable def X_62_3_0 (p0 : Zt62_1) (p1 : Zt62_0) : St := St.mk (jl 6 ++ ([CV.bool ((↑(List.length (p1.2.2.2.2.2.1)) : Int) == p0.2.2.2.2.2.2.2.1)] ++ (jl 146))) [] (0 : Nat)
noncomputable def X_62_3_1 : St := St.mk (jl 6 ++ ([CV.bool false] ++ (jl 146))) [] (0 : Nat)
noncomputable def X_62_3_2 (p0 : Zt62_1) (p1 : Zt62_0) : St := St.mk ([jk, jk, jk, CV.ptr (0 : Nat) [], CV.ptr (1 : Nat) []] ++ (jl 100 ++ ([CV.bool false, CV.pure Zy62_2 p1, CV.bool ((Sp.v_67 p1).1)] ++ (jl 45)))) [Blk.mem (CV.pure Zy62_3 p0), Blk.mem (CV.pure Zy62_2 p1)] (0 : Nat)
inductive Sp.E_62_3 where
  | e0 (p0 : Zt62_1) (p1 : Zt62_0)
  | e1
  | e2 (p0 : Zt62_1) (p1 : Zt62_0)
noncomputable def Sp.B_62_3 {R : Type} (r : Option Sp.E_62_3) (k0 : (Zt62_1) → (Zt62_0) → Option R) (k1 : Option R) (k2 : (Zt62_1) → (Zt62_0) → Option R) : Option R := match r with
  | none => none
  | some (.e0 p0 p1) => k0 p0 p1
  | some (.e1) => k1
  | some (.e2 p0 p1) => k2 p0 p1
noncomputable def Sp.J_62_3 (p0 : Int × Int × Int × Int × Int × Int × Bool × Int × Unit) (p1 : Int × Int × Int × Int × Int × List Int × Int × Unit) : Option Sp.E_62_3 :=
  gd (Sp.p_67 p1) (bif (Sp.v_67 p1).1 then bif decide (p1.2.2.2.2.1 ≥ (1 : Int)) then bif decide (p1.2.2.1 ≥ (1 : Int)) then bif decide (p1.2.2.2.2.2.2.1 ≥ (1 : Int)) then some (Sp.E_62_3.e0 p0 p1) else some (Sp.E_62_3.e1) else some (Sp.E_62_3.e1) else some (Sp.E_62_3.e1) else some (Sp.E_62_3.e2 p0 p1))
noncomputable def G_62_3 {R : Type} (p0 : Zt62_1) (p1 : Zt62_0) (k : Ex → St → Option R) : Option R := Sp.B_62_3 (Sp.J_62_3 p0 p1) (fun p0 p1 => k Ex.ret (X_62_3_0 p0 p1)) (k Ex.ret (X_62_3_1)) (fun p0 p1 => k Ex.normal (X_62_3_2 p0 p1))
noncomputable def o_62_3 {R : Type} (G : (Zt62_1) → (Zt62_0) → (Ex → St → Option R) → Option R) : St → (Ex → St → Option R) → Option R := fun T k => match T.sl.getD 3 .junk, T.sl.getD 4 .junk, T.hp with
  | CV.ptr (0 : Nat) [], CV.ptr (1 : Nat) [], ((Blk.mem (CV.pure (Ty.pair (Ty.int IntKind.i64) (Ty.pair (Ty.int IntKind.i64) (Ty.pair (Ty.int IntKind.i64) (Ty.pair (Ty.int IntKind.i64) (Ty.pair (Ty.int IntKind.i64) (Ty.pair (Ty.int IntKind.i64) (Ty.pair Ty.bool (Ty.pair (Ty.int IntKind.i64) Ty.unit)))))))) p0)) :: (Blk.mem (CV.pure (Ty.pair (Ty.int IntKind.i64) (Ty.pair (Ty.int IntKind.i64) (Ty.pair (Ty.int IntKind.i64) (Ty.pair (Ty.int IntKind.i64) (Ty.pair (Ty.int IntKind.i64) (Ty.pair (Ty.slice (Ty.int IntKind.i64)) (Ty.pair (Ty.int IntKind.i64) Ty.unit))))))) p1)) :: []) => gd (shapeOK T 153 [3, 4] (0 : Nat)) (G p0 p1 k)
  | _, _, _ => none
theorem o_62_3_inv {R : Type} {G : (Zt62_1) → (Zt62_0) → (Ex → St → Option R) → Option R} {T : St} {k : Ex → St → Option R} {r : R} (h : o_62_3 G T k = some r) : ∃ p0 p1, T = T_62_3 p0 p1 ∧ G p0 p1 k = some r := by
  unfold o_62_3 at h
  split at h
  · obtain ⟨hs, h'⟩ := gd_some h
    refine ⟨_, _, (st_of (asg := [(3, _), (4, _)]) hs ⟨by assumption, by assumption, trivial⟩ (by assumption)).trans ?_, h'⟩
    kernel_rfl
  · cases h
noncomputable def T_62_2 (p0 : Zt62_1) (p1 : Zt62_0) : St := St.mk ([jk, jk, jk, CV.ptr (0 : Nat) [], CV.ptr (1 : Nat) []] ++ (jl 148)) [Blk.mem (CV.pure Zy62_3 p0), Blk.mem (CV.pure Zy62_2 p1)] (0 : Nat)
noncomputable def X_62_2_0 : St := St.mk (jl 6 ++ ([CV.bool false] ++ (jl 146))) [] (0 : Nat)
noncomputable def X_62_2_1 (y8 : Zt62_1) (y9 : Zt62_0) : St := St.mk (jl 6 ++ ([CV.bool ((↑(List.length (y9.2.2.2.2.2.1)) : Int) == y8.2.2.2.2.2.2.2.1)] ++ (jl 146))) [] (0 : Nat)
noncomputable def X_62_2_2 (y10 : Zt62_1) (y11 : Zt62_0) : St := St.mk ([jk, jk, jk, CV.ptr (0 : Nat) [], CV.ptr (1 : Nat) []] ++ (jl 100 ++ ([CV.bool false, CV.pure Zy62_2 y11, CV.bool ((Sp.v_67 y11).1)] ++ (jl 45)))) [Blk.mem (CV.pure Zy62_3 y10), Blk.mem (CV.pure Zy62_2 y11)] (0 : Nat)
inductive Sp.E_62_2 where
  | e0
  | e1 (y8 : Zt62_1) (y9 : Zt62_0)
  | e2 (y10 : Zt62_1) (y11 : Zt62_0)
noncomputable def Sp.B_62_2 {R : Type} (r : Option Sp.E_62_2) (k0 : Option R) (k1 : (Zt62_1) → (Zt62_0) → Option R) (k2 : (Zt62_1) → (Zt62_0) → Option R) : Option R := match r with
  | none => none
  | some (.e0) => k0
  | some (.e1 y8 y9) => k1 y8 y9
  | some (.e2 y10 y11) => k2 y10 y11
noncomputable def Sp.J_62_2 (p0 : Int × Int × Int × Int × Int × Int × Bool × Int × Unit) (p1 : Int × Int × Int × Int × Int × List Int × Int × Unit) : Option Sp.E_62_2 :=
  gd (Sp.p_66 p1 (2 : Int)) (bif (Sp.v_66 p1 (2 : Int)).1 then bif p1.2.2.2.1 != (0 : Int) then some (Sp.E_62_2.e0) else Sp.B_62_3 (Sp.J_62_3 p0 p1) (fun y8 y9 => some (Sp.E_62_2.e1 y8 y9)) (some (Sp.E_62_2.e0)) fun y10 y11 => some (Sp.E_62_2.e2 y10 y11) else Sp.B_62_3 (Sp.J_62_3 p0 p1) (fun y12 y13 => some (Sp.E_62_2.e1 y12 y13)) (some (Sp.E_62_2.e0)) fun y14 y15 => some (Sp.E_62_2.e2 y14 y15))
noncomputable def G_62_2 {R : Type} (p0 : Zt62_1) (p1 : Zt62_0) (k : Ex → St → Option R) : Option R := Sp.B_62_2 (Sp.J_62_2 p0 p1) (k Ex.ret (X_62_2_0)) (fun y8 y9 => k Ex.ret (X_62_2_1 y8 y9)) (fun y10 y11 => k Ex.normal (X_62_2_2 y10 y11))
noncomputable def o_62_2 {R : Type} (G : (Zt62_1) → (Zt62_0) → (Ex → St → Option R) → Option R) : St → (Ex → St → Option R) → Option R := fun T k => match T.sl.getD 3 .junk, T.sl.getD 4 .junk, T.hp with
  | CV.ptr (0 : Nat) [], CV.ptr (1 : Nat) [], ((Blk.mem (CV.pure (Ty.pair (Ty.int IntKind.i64) (Ty.pair (Ty.int IntKind.i64) (Ty.pair (Ty.int IntKind.i64) (Ty.pair (Ty.int IntKind.i64) (Ty.pair (Ty.int IntKind.i64) (Ty.pair (Ty.int IntKind.i64) (Ty.pair Ty.bool (Ty.pair (Ty.int IntKind.i64) Ty.unit)))))))) p0)) :: (Blk.mem (CV.pure (Ty.pair (Ty.int IntKind.i64) (Ty.pair (Ty.int IntKind.i64) (Ty.pair (Ty.int IntKind.i64) (Ty.pair (Ty.int IntKind.i64) (Ty.pair (Ty.int IntKind.i64) (Ty.pair (Ty.slice (Ty.int IntKind.i64)) (Ty.pair (Ty.int IntKind.i64) Ty.unit))))))) p1)) :: []) => gd (shapeOK T 153 [3, 4] (0 : Nat)) (G p0 p1 k)
  | _, _, _ => none
theorem o_62_2_inv {R : Type} {G : (Zt62_1) → (Zt62_0) → (Ex → St → Option R) → Option R} {T : St} {k : Ex → St → Option R} {r : R} (h : o_62_2 G T k = some r) : ∃ p0 p1, T = T_62_2 p0 p1 ∧ G p0 p1 k = some r := by
  unfold o_62_2 at h
  split at h
  · obtain ⟨hs, h'⟩ := gd_some h
    refine ⟨_, _, (st_of (asg := [(3, _), (4, _)]) hs ⟨by assumption, by assumption, trivial⟩ (by assumption)).trans ?_, h'⟩
    kernel_rfl
  · cases h
noncomputable def T_62_1 (p0 : Zt62_1) (p1 : Zt62_0) : St := St.mk ([jk, jk, jk, CV.ptr (0 : Nat) [], CV.ptr (1 : Nat) []] ++ (jl 148)) [Blk.mem (CV.pure Zy62_3 p0), Blk.mem (CV.pure Zy62_2 p1)] (0 : Nat)
noncomputable def X_62_1_0 : St := St.mk (jl 6 ++ ([CV.bool false] ++ (jl 146))) [] (0 : Nat)
noncomputable def X_62_1_1 (y8 : Zt62_1) (y9 : Zt62_0) : St := St.mk (jl 6 ++ ([CV.bool ((↑(List.length (y9.2.2.2.2.2.1)) : Int) == y8.2.2.2.2.2.2.2.1)] ++ (jl 146))) [] (0 : Nat)
noncomputable def X_62_1_2 (y10 : Zt62_1) (y11 : Zt62_0) : St := St.mk ([jk, jk, jk, CV.ptr (0 : Nat) [], CV.ptr (1 : Nat) []] ++ (jl 100 ++ ([CV.bool false, CV.pure Zy62_2 y11, CV.bool ((Sp.v_67 y11).1)] ++ (jl 45)))) [Blk.mem (CV.pure Zy62_3 y10), Blk.mem (CV.pure Zy62_2 y11)] (0 : Nat)
inductive Sp.E_62_1 where
  | e0
  | e1 (y8 : Zt62_1) (y9 : Zt62_0)
  | e2 (y10 : Zt62_1) (y11 : Zt62_0)
noncomputable def Sp.B_62_1 {R : Type} (r : Option Sp.E_62_1) (k0 : Option R) (k1 : (Zt62_1) → (Zt62_0) → Option R) (k2 : (Zt62_1) → (Zt62_0) → Option R) : Option R := match r with
  | none => none
  | some (.e0) => k0
  | some (.e1 y8 y9) => k1 y8 y9
  | some (.e2 y10 y11) => k2 y10 y11
noncomputable def Sp.J_62_1 (p0 : Int × Int × Int × Int × Int × Int × Bool × Int × Unit) (p1 : Int × Int × Int × Int × Int × List Int × Int × Unit) : Option Sp.E_62_1 :=
  gd (Sp.p_66 p1 (4 : Int)) (bif !(Sp.v_66 p1 (4 : Int)).1 == (p1.2.2.1 == (2 : Int)) then some (Sp.E_62_1.e0) else gd (Sp.p_66 p1 (16 : Int)) (bif (Sp.v_66 p1 (16 : Int)).1 then gd (Sp.p_66 p1 (4 : Int)) (bif !(Sp.v_66 p1 (4 : Int)).1 then some (Sp.E_62_1.e0) else bif !p0.2.2.2.2.2.2.1 then some (Sp.E_62_1.e0) else Sp.B_62_2 (Sp.J_62_2 p0 p1) (some (Sp.E_62_1.e0)) (fun y8 y9 => some (Sp.E_62_1.e1 y8 y9)) fun y10 y11 => some (Sp.E_62_1.e2 y10 y11)) else Sp.B_62_2 (Sp.J_62_2 p0 p1) (some (Sp.E_62_1.e0)) (fun y12 y13 => some (Sp.E_62_1.e1 y12 y13)) fun y14 y15 => some (Sp.E_62_1.e2 y14 y15)))
noncomputable def G_62_1 {R : Type} (p0 : Zt62_1) (p1 : Zt62_0) (k : Ex → St → Option R) : Option R := Sp.B_62_1 (Sp.J_62_1 p0 p1) (k Ex.ret (X_62_1_0)) (fun y8 y9 => k Ex.ret (X_62_1_1 y8 y9)) (fun y10 y11 => k Ex.normal (X_62_1_2 y10 y11))
noncomputable def o_62_1 {R : Type} (G : (Zt62_1) → (Zt62_0) → (Ex → St → Option R) → Option R) : St → (Ex → St → Option R) → Option R := fun T k => match T.sl.getD 3 .junk, T.sl.getD 4 .junk, T.hp with
  | CV.ptr (0 : Nat) [], CV.ptr (1 : Nat) [], ((Blk.mem (CV.pure (Ty.pair (Ty.int IntKind.i64) (Ty.pair (Ty.int IntKind.i64) (Ty.pair (Ty.int IntKind.i64) (Ty.pair (Ty.int IntKind.i64) (Ty.pair (Ty.int IntKind.i64) (Ty.pair (Ty.int IntKind.i64) (Ty.pair Ty.bool (Ty.pair (Ty.int IntKind.i64) Ty.unit)))))))) p0)) :: (Blk.mem (CV.pure (Ty.pair (Ty.int IntKind.i64) (Ty.pair (Ty.int IntKind.i64) (Ty.pair (Ty.int IntKind.i64) (Ty.pair (Ty.int IntKind.i64) (Ty.pair (Ty.int IntKind.i64) (Ty.pair (Ty.slice (Ty.int IntKind.i64)) (Ty.pair (Ty.int IntKind.i64) Ty.unit))))))) p1)) :: []) => gd (shapeOK T 153 [3, 4] (0 : Nat)) (G p0 p1 k)
  | _, _, _ => none
theorem o_62_1_inv {R : Type} {G : (Zt62_1) → (Zt62_0) → (Ex → St → Option R) → Option R} {T : St} {k : Ex → St → Option R} {r : R} (h : o_62_1 G T k = some r) : ∃ p0 p1, T = T_62_1 p0 p1 ∧ G p0 p1 k = some r := by
  unfold o_62_1 at h
  split at h
  · obtain ⟨hs, h'⟩ := gd_some h
    refine ⟨_, _, (st_of (asg := [(3, _), (4, _)]) hs ⟨by assumption, by assumption, trivial⟩ (by assumption)).trans ?_, h'⟩
    kernel_rfl
  · cases h
noncomputable def T_62_0 (p0 : Int) (p1 : Zt62_1) (p2 : Zt62_0) : St := St.mk ([jk, jk, CV.int IntKind.i64 p0, CV.ptr (0 : Nat) [], CV.ptr (1 : Nat) []] ++ (jl 148)) [Blk.mem (CV.pure Zy62_3 p1), Blk.mem (CV.pure Zy62_2 p2)] (0 : Nat)
noncomputable def X_62_0_0 : St := St.mk (jl 6 ++ ([CV.bool false] ++ (jl 146))) [] (0 : Nat)
noncomputable def X_62_0_1 (y8 : Zt62_1) (y9 : Zt62_0) : St := St.mk (jl 6 ++ ([CV.bool ((↑(List.length (y9.2.2.2.2.2.1)) : Int) == y8.2.2.2.2.2.2.2.1)] ++ (jl 146))) [] (0 : Nat)
noncomputable def X_62_0_2 (y11 : Zt62_0) : St := St.mk (jl 6 ++ ([CV.bool ((↑(List.length (y11.2.2.2.2.2.1)) : Int) == (0 : Int))] ++ (jl 146))) [] (0 : Nat)
inductive Sp.E_62_0 where
  | e0
  | e1 (y8 : Zt62_1) (y9 : Zt62_0)
  | e2 (y11 : Zt62_0)
noncomputable def Sp.B_62_0 {R : Type} (r : Option Sp.E_62_0) (k0 : Option R) (k1 : (Zt62_1) → (Zt62_0) → Option R) (k2 : (Zt62_0) → Option R) : Option R := match r with
  | none => none
  | some (.e0) => k0
  | some (.e1 y8 y9) => k1 y8 y9
  | some (.e2 y11) => k2 y11
noncomputable def Sp.J_62_0 (p0 : Int) (p1 : Int × Int × Int × Int × Int × Int × Bool × Int × Unit) (p2 : Int × Int × Int × Int × Int × List Int × Int × Unit) : Option Sp.E_62_0 :=
  gd (Sp.p_66 p2 (1 : Int)) (bif (Sp.v_66 p2 (1 : Int)).1 then gd (Sp.p_66 p2 (10 : Int)) (bif !(Sp.v_66 p2 (10 : Int)).1 then some (Sp.E_62_0.e0) else bif p2.2.2.2.2.2.2.1 != p0 then some (Sp.E_62_0.e0) else Sp.B_62_1 (Sp.J_62_1 p1 p2) (some (Sp.E_62_0.e0)) (fun y8 y9 => some (Sp.E_62_0.e1 y8 y9)) fun y10 y11 => bif y11.2.2.1 == (0 : Int) then bif y11.2.2.2.1 == (0 : Int) then bif y11.2.2.2.2.1 == (0 : Int) then bif y11.2.2.2.2.2.2.1 == (0 : Int) then some (Sp.E_62_0.e2 y11) else some (Sp.E_62_0.e0) else some (Sp.E_62_0.e0) else some (Sp.E_62_0.e0) else some (Sp.E_62_0.e0)) else Sp.B_62_1 (Sp.J_62_1 p1 p2) (some (Sp.E_62_0.e0)) (fun y12 y13 => some (Sp.E_62_0.e1 y12 y13)) fun y14 y15 => bif y15.2.2.1 == (0 : Int) then bif y15.2.2.2.1 == (0 : Int) then bif y15.2.2.2.2.1 == (0 : Int) then bif y15.2.2.2.2.2.2.1 == (0 : Int) then some (Sp.E_62_0.e2 y15) else some (Sp.E_62_0.e0) else some (Sp.E_62_0.e0) else some (Sp.E_62_0.e0) else some (Sp.E_62_0.e0))
noncomputable def G_62_0 {R : Type} (p0 : Int) (p1 : Zt62_1) (p2 : Zt62_0) (k : Ex → St → Option R) : Option R := Sp.B_62_0 (Sp.J_62_0 p0 p1 p2) (k Ex.ret (X_62_0_0)) (fun y8 y9 => k Ex.ret (X_62_0_1 y8 y9)) (fun y11 => k Ex.ret (X_62_0_2 y11))
noncomputable def o_62_0 {R : Type} (G : (Int) → (Zt62_1) → (Zt62_0) → (Ex → St → Option R) → Option R) : St → (Ex → St → Option R) → Option R := fun T k => match T.sl.getD 2 .junk, T.sl.getD 3 .junk, T.sl.getD 4 .junk, T.hp with
  | CV.int IntKind.i64 p0, CV.ptr (0 : Nat) [], CV.ptr (1 : Nat) [], ((Blk.mem (CV.pure (Ty.pair (Ty.int IntKind.i64) (Ty.pair (Ty.int IntKind.i64) (Ty.pair (Ty.int IntKind.i64) (Ty.pair (Ty.int IntKind.i64) (Ty.pair (Ty.int IntKind.i64) (Ty.pair (Ty.int IntKind.i64) (Ty.pair Ty.bool (Ty.pair (Ty.int IntKind.i64) Ty.unit)))))))) p1)) :: (Blk.mem (CV.pure (Ty.pair (Ty.int IntKind.i64) (Ty.pair (Ty.int IntKind.i64) (Ty.pair (Ty.int IntKind.i64) (Ty.pair (Ty.int IntKind.i64) (Ty.pair (Ty.int IntKind.i64) (Ty.pair (Ty.slice (Ty.int IntKind.i64)) (Ty.pair (Ty.int IntKind.i64) Ty.unit))))))) p2)) :: []) => gd (shapeOK T 153 [2, 3, 4] (0 : Nat)) (G p0 p1 p2 k)
  | _, _, _, _ => none
theorem o_62_0_inv {R : Type} {G : (Int) → (Zt62_1) → (Zt62_0) → (Ex → St → Option R) → Option R} {T : St} {k : Ex → St → Option R} {r : R} (h : o_62_0 G T k = some r) : ∃ p0 p1 p2, T = T_62_0 p0 p1 p2 ∧ G p0 p1 p2 k = some r := by
  unfold o_62_0 at h
  split at h
  · obtain ⟨hs, h'⟩ := gd_some h
    refine ⟨_, _, _, (st_of (asg := [(2, _), (3, _), (4, _)]) hs ⟨by assumption, by assumption, by assumption, trivial⟩ (by assumption)).trans ?_, h'⟩
    kernel_rfl
  · cases h
noncomputable def O_62_62_3 {R : Type} : St → (Ex → St → Option R) → Option R := fun T k => o_62_3 G_62_3 T k
noncomputable def O_62_62_2 {R : Type} : St → (Ex → St → Option R) → Option R := fun T k => o_62_2 G_62_2 T k
noncomputable def O_62_62_1 {R : Type} : St → (Ex → St → Option R) → Option R := fun T k => o_62_1 G_62_1 T k
noncomputable def O_62_62_0 {R : Type} : St → (Ex → St → Option R) → Option R := fun T k => o_62_0 G_62_0 T k
theorem body_62_3 {R : Type} (K1 : Ex → St → Option R) (p0 : Zt62_1) (p1 : Zt62_0) : evJ (evCodeL sm_62 FU (ovr noO (evFn sm_62 fns FU 0)) .nil ir62_b3) (T_62_3 p0 p1) K1 =
  gd (Sp.p_67 p1) (bif (Sp.v_67 p1).1 then bif decide (p1.2.2.2.2.1 ≥ (1 : Int)) then bif decide (p1.2.2.1 ≥ (1 : Int)) then bif decide (p1.2.2.2.2.2.2.1 ≥ (1 : Int)) then K1 Ex.ret (X_62_3_0 p0 p1) else K1 Ex.ret X_62_3_1 else K1 Ex.ret X_62_3_1 else K1 Ex.ret X_62_3_1 else K1 Ex.normal (X_62_3_2 p0 p1)) := by kernel_rfl
theorem Bgd_62_3 {R : Type} {c : Bool} {x : Option R} {y : Option Sp.E_62_3} {k0 : (Zt62_1) → (Zt62_0) → Option R} {k1 : Option R} {k2 : (Zt62_1) → (Zt62_0) → Option R} (h : x = Sp.B_62_3 y k0 k1 k2) : gd c x = Sp.B_62_3 (gd c y) k0 k1 k2 := by cases c; rfl; exact h
theorem Bcond_62_3 {R : Type} {c : Bool} {x x' : Option R} {y y' : Option Sp.E_62_3} {k0 : (Zt62_1) → (Zt62_0) → Option R} {k1 : Option R} {k2 : (Zt62_1) → (Zt62_0) → Option R} (h : x = Sp.B_62_3 y k0 k1 k2) (h' : x' = Sp.B_62_3 y' k0 k1 k2) : (bif c then x else x') = Sp.B_62_3 (bif c then y else y') k0 k1 k2 := by cases c; exact h'; exact h
theorem loop_62_3 {R : Type} (k : Ex → St → Option R) (p0 : Zt62_1) (p1 : Zt62_0) : evJ (evCodeL sm_62 FU (ovr noO (evFn sm_62 fns FU 0)) .nil ir62_b3) (T_62_3 p0 p1) k = Sp.B_62_3 (Sp.J_62_3 p0 p1) (fun p0 p1 => k Ex.ret (X_62_3_0 p0 p1)) (k Ex.ret (X_62_3_1)) (fun p0 p1 => k Ex.normal (X_62_3_2 p0 p1)) := by
  rw [body_62_3, Sp.J_62_3]
  repeat' first | apply Bgd_62_3 | apply Bcond_62_3 | rfl
theorem ok_62_3 {R : Type} (T : St) (k : Ex → St → Option R) (r : R) (h0 : o_62_3 G_62_3 T k = some r) : evCode sm_62 FU (evFn sm_62 fns FU 0) ir62_b3 T k = some r := by
  obtain ⟨p0, p1, rfl, h⟩ := o_62_3_inv h0
  refine bodyL_sound (t := .nil) noO_ok trivial (((show ∀ (b : St → (Ex → St → Option R) → Option R) (T : St) (k : Ex → St → Option R), b T k = evJ b T k from fun _ _ _ => rfl) _ _ _).trans ((loop_62_3 k p0 p1).trans h))
theorem OK_62_62_3 {R : Type} (T : St) (k : Ex → St → Option R) (r : R) (h : O_62_62_3 T k = some r) : evCode sm_62 FU (evFn sm_62 fns FU 0) ir62_b3 T k = some r := ok_62_3 T k r h
theorem body_62_2 {R : Type} (K1 : Ex → St → Option R) (p0 : Zt62_1) (p1 : Zt62_0) : evJ (evCodeL sm_62 FU (ovr noO (evFn sm_62 fns FU 0)) (ir62_bt2 O_62_62_3) ir62_b2) (T_62_2 p0 p1) K1 =
  gd (Sp.p_66 p1 (2 : Int)) (bif (Sp.v_66 p1 (2 : Int)).1 then bif p1.2.2.2.1 != (0 : Int) then K1 Ex.ret X_62_2_0 else Sp.B_62_3 (Sp.J_62_3 p0 p1) (fun y8 y9 => K1 Ex.ret (X_62_2_1 y8 y9)) (K1 Ex.ret X_62_2_0) fun y10 y11 => K1 Ex.normal (X_62_2_2 y10 y11) else Sp.B_62_3 (Sp.J_62_3 p0 p1) (fun y12 y13 => K1 Ex.ret (X_62_2_1 y12 y13)) (K1 Ex.ret X_62_2_0) fun y14 y15 => K1 Ex.normal (X_62_2_2 y14 y15)) := by kernel_rfl
theorem Bgd_62_2 {R : Type} {c : Bool} {x : Option R} {y : Option Sp.E_62_2} {k0 : Option R} {k1 : (Zt62_1) → (Zt62_0) → Option R} {k2 : (Zt62_1) → (Zt62_0) → Option R} (h : x = Sp.B_62_2 y k0 k1 k2) : gd c x = Sp.B_62_2 (gd c y) k0 k1 k2 := by cases c; rfl; exact h
theorem Bcond_62_2 {R : Type} {c : Bool} {x x' : Option R} {y y' : Option Sp.E_62_2} {k0 : Option R} {k1 : (Zt62_1) → (Zt62_0) → Option R} {k2 : (Zt62_1) → (Zt62_0) → Option R} (h : x = Sp.B_62_2 y k0 k1 k2) (h' : x' = Sp.B_62_2 y' k0 k1 k2) : (bif c then x else x') = Sp.B_62_2 (bif c then y else y') k0 k1 k2 := by cases c; exact h'; exact h
theorem Bin_62_2_62_3 {R : Type} {r : Option Sp.E_62_3} {k0 : Option R} {k1 : (Zt62_1) → (Zt62_0) → Option R} {k2 : (Zt62_1) → (Zt62_0) → Option R} {f0 : (Zt62_1) → (Zt62_0) → Option R} {f1 : Option R} {f2 : (Zt62_1) → (Zt62_0) → Option R} {g0 : (Zt62_1) → (Zt62_0) → Option Sp.E_62_2} {g1 : Option Sp.E_62_2} {g2 : (Zt62_1) → (Zt62_0) → Option Sp.E_62_2} (h0 : ∀ z0 z1, f0 z0 z1 = Sp.B_62_2 (g0 z0 z1) k0 k1 k2) (h1 : f1 = Sp.B_62_2 g1 k0 k1 k2) (h2 : ∀ z0 z1, f2 z0 z1 = Sp.B_62_2 (g2 z0 z1) k0 k1 k2) : Sp.B_62_3 r f0 f1 f2 = Sp.B_62_2 (Sp.B_62_3 r g0 g1 g2) k0 k1 k2 := by
  cases r with
  | none => rfl
  | some e => cases e with
    | e0 z0 z1 => exact h0 _ _
    | e1 => exact h1
    | e2 z0 z1 => exact h2 _ _
theorem loop_62_2 {R : Type} (k : Ex → St → Option R) (p0 : Zt62_1) (p1 : Zt62_0) : evJ (evCodeL sm_62 FU (ovr noO (evFn sm_62 fns FU 0)) (ir62_bt2 O_62_62_3) ir62_b2) (T_62_2 p0 p1) k = Sp.B_62_2 (Sp.J_62_2 p0 p1) (k Ex.ret (X_62_2_0)) (fun y8 y9 => k Ex.ret (X_62_2_1 y8 y9)) (fun y10 y11 => k Ex.normal (X_62_2_2 y10 y11)) := by
  rw [body_62_2, Sp.J_62_2]
  repeat' first | apply Bgd_62_2 | apply Bcond_62_2 | (apply Bin_62_2_62_3 <;> intros) | rfl
theorem ok_62_2 {R : Type} (T : St) (k : Ex → St → Option R) (r : R) (h0 : o_62_2 G_62_2 T k = some r) : evCode sm_62 FU (evFn sm_62 fns FU 0) ir62_b2 T k = some r := by
  obtain ⟨p0, p1, rfl, h⟩ := o_62_2_inv h0
  refine bodyL_sound (t := (ir62_bt2 O_62_62_3)) noO_ok (ir62_bt2ok (fun T k r => OK_62_62_3 T k r)) (((show ∀ (b : St → (Ex → St → Option R) → Option R) (T : St) (k : Ex → St → Option R), b T k = evJ b T k from fun _ _ _ => rfl) _ _ _).trans ((loop_62_2 k p0 p1).trans h))
theorem OK_62_62_2 {R : Type} (T : St) (k : Ex → St → Option R) (r : R) (h : O_62_62_2 T k = some r) : evCode sm_62 FU (evFn sm_62 fns FU 0) ir62_b2 T k = some r := ok_62_2 T k r h
theorem body_62_1 {R : Type} (K1 : Ex → St → Option R) (p0 : Zt62_1) (p1 : Zt62_0) : evJ (evCodeL sm_62 FU (ovr noO (evFn sm_62 fns FU 0)) (ir62_bt1 O_62_62_2) ir62_b1) (T_62_1 p0 p1) K1 =
  gd (Sp.p_66 p1 (4 : Int)) (bif !(Sp.v_66 p1 (4 : Int)).1 == (p1.2.2.1 == (2 : Int)) then K1 Ex.ret X_62_1_0 else gd (Sp.p_66 p1 (16 : Int)) (bif (Sp.v_66 p1 (16 : Int)).1 then gd (Sp.p_66 p1 (4 : Int)) (bif !(Sp.v_66 p1 (4 : Int)).1 then K1 Ex.ret X_62_1_0 else bif !p0.2.2.2.2.2.2.1 then K1 Ex.ret X_62_1_0 else Sp.B_62_2 (Sp.J_62_2 p0 p1) (K1 Ex.ret X_62_1_0) (fun y8 y9 => K1 Ex.ret (X_62_1_1 y8 y9)) fun y10 y11 => K1 Ex.normal (X_62_1_2 y10 y11)) else Sp.B_62_2 (Sp.J_62_2 p0 p1) (K1 Ex.ret X_62_1_0) (fun y12 y13 => K1 Ex.ret (X_62_1_1 y12 y13)) fun y14 y15 => K1 Ex.normal (X_62_1_2 y14 y15))) := by kernel_rfl
theorem Bgd_62_1 {R : Type} {c : Bool} {x : Option R} {y : Option Sp.E_62_1} {k0 : Option R} {k1 : (Zt62_1) → (Zt62_0) → Option R} {k2 : (Zt62_1) → (Zt62_0) → Option R} (h : x = Sp.B_62_1 y k0 k1 k2) : gd c x = Sp.B_62_1 (gd c y) k0 k1 k2 := by cases c; rfl; exact h
theorem Bcond_62_1 {R : Type} {c : Bool} {x x' : Option R} {y y' : Option Sp.E_62_1} {k0 : Option R} {k1 : (Zt62_1) → (Zt62_0) → Option R} {k2 : (Zt62_1) → (Zt62_0) → Option R} (h : x = Sp.B_62_1 y k0 k1 k2) (h' : x' = Sp.B_62_1 y' k0 k1 k2) : (bif c then x else x') = Sp.B_62_1 (bif c then y else y') k0 k1 k2 := by cases c; exact h'; exact h
theorem Bin_62_1_62_2 {R : Type} {r : Option Sp.E_62_2} {k0 : Option R} {k1 : (Zt62_1) → (Zt62_0) → Option R} {k2 : (Zt62_1) → (Zt62_0) → Option R} {f0 : Option R} {f1 : (Zt62_1) → (Zt62_0) → Option R} {f2 : (Zt62_1) → (Zt62_0) → Option R} {g0 : Option Sp.E_62_1} {g1 : (Zt62_1) → (Zt62_0) → Option Sp.E_62_1} {g2 : (Zt62_1) → (Zt62_0) → Option Sp.E_62_1} (h0 : f0 = Sp.B_62_1 g0 k0 k1 k2) (h1 : ∀ z0 z1, f1 z0 z1 = Sp.B_62_1 (g1 z0 z1) k0 k1 k2) (h2 : ∀ z0 z1, f2 z0 z1 = Sp.B_62_1 (g2 z0 z1) k0 k1 k2) : Sp.B_62_2 r f0 f1 f2 = Sp.B_62_1 (Sp.B_62_2 r g0 g1 g2) k0 k1 k2 := by
  cases r with
  | none => rfl
  | some e => cases e with
    | e0 => exact h0
    | e1 z0 z1 => exact h1 _ _
    | e2 z0 z1 => exact h2 _ _
theorem loop_62_1 {R : Type} (k : Ex → St → Option R) (p0 : Zt62_1) (p1 : Zt62_0) : evJ (evCodeL sm_62 FU (ovr noO (evFn sm_62 fns FU 0)) (ir62_bt1 O_62_62_2) ir62_b1) (T_62_1 p0 p1) k = Sp.B_62_1 (Sp.J_62_1 p0 p1) (k Ex.ret (X_62_1_0)) (fun y8 y9 => k Ex.ret (X_62_1_1 y8 y9)) (fun y10 y11 => k Ex.normal (X_62_1_2 y10 y11)) := by
  rw [body_62_1, Sp.J_62_1]
  repeat' first | apply Bgd_62_1 | apply Bcond_62_1 | (apply Bin_62_1_62_2 <;> intros) | rfl
theorem ok_62_1 {R : Type} (T : St) (k : Ex → St → Option R) (r : R) (h0 : o_62_1 G_62_1 T k = some r) : evCode sm_62 FU (evFn sm_62 fns FU 0) ir62_b1 T k = some r := by
  obtain ⟨p0, p1, rfl, h⟩ := o_62_1_inv h0
  refine bodyL_sound (t := (ir62_bt1 O_62_62_2)) noO_ok (ir62_bt1ok (fun T k r => OK_62_62_2 T k r)) (((show ∀ (b : St → (Ex → St → Option R) → Option R) (T : St) (k : Ex → St → Option R), b T k = evJ b T k from fun _ _ _ => rfl) _ _ _).trans ((loop_62_1 k p0 p1).trans h))
theorem OK_62_62_1 {R : Type} (T : St) (k : Ex → St → Option R) (r : R) (h : O_62_62_1 T k = some r) : evCode sm_62 FU (evFn sm_62 fns FU 0) ir62_b1 T k = some r := ok_62_1 T k r h
theorem body_62_0 {R : Type} (K1 : Ex → St → Option R) (p0 : Int) (p1 : Zt62_1) (p2 : Zt62_0) : evJ (evCodeL sm_62 FU (ovr noO (evFn sm_62 fns FU 0)) (ir62_bt0 O_62_62_1) ir62_b0) (T_62_0 p0 p1 p2) K1 =
  gd (Sp.p_66 p2 (1 : Int)) (bif (Sp.v_66 p2 (1 : Int)).1 then gd (Sp.p_66 p2 (10 : Int)) (bif !(Sp.v_66 p2 (10 : Int)).1 then K1 Ex.ret X_62_0_0 else bif p2.2.2.2.2.2.2.1 != p0 then K1 Ex.ret X_62_0_0 else Sp.B_62_1 (Sp.J_62_1 p1 p2) (K1 Ex.ret X_62_0_0) (fun y8 y9 => K1 Ex.ret (X_62_0_1 y8 y9)) fun y10 y11 => bif y11.2.2.1 == (0 : Int) then bif y11.2.2.2.1 == (0 : Int) then bif y11.2.2.2.2.1 == (0 : Int) then bif y11.2.2.2.2.2.2.1 == (0 : Int) then K1 Ex.ret (X_62_0_2 y11) else K1 Ex.ret X_62_0_0 else K1 Ex.ret X_62_0_0 else K1 Ex.ret X_62_0_0 else K1 Ex.ret X_62_0_0) else Sp.B_62_1 (Sp.J_62_1 p1 p2) (K1 Ex.ret X_62_0_0) (fun y12 y13 => K1 Ex.ret (X_62_0_1 y12 y13)) fun y14 y15 => bif y15.2.2.1 == (0 : Int) then bif y15.2.2.2.1 == (0 : Int) then bif y15.2.2.2.2.1 == (0 : Int) then bif y15.2.2.2.2.2.2.1 == (0 : Int) then K1 Ex.ret (X_62_0_2 y15) else K1 Ex.ret X_62_0_0 else K1 Ex.ret X_62_0_0 else K1 Ex.ret X_62_0_0 else K1 Ex.ret X_62_0_0) := by kernel_rfl
theorem Bgd_62_0 {R : Type} {c : Bool} {x : Option R} {y : Option Sp.E_62_0} {k0 : Option R} {k1 : (Zt62_1) → (Zt62_0) → Option R} {k2 : (Zt62_0) → Option R} (h : x = Sp.B_62_0 y k0 k1 k2) : gd c x = Sp.B_62_0 (gd c y) k0 k1 k2 := by cases c; rfl; exact h
theorem Bcond_62_0 {R : Type} {c : Bool} {x x' : Option R} {y y' : Option Sp.E_62_0} {k0 : Option R} {k1 : (Zt62_1) → (Zt62_0) → Option R} {k2 : (Zt62_0) → Option R} (h : x = Sp.B_62_0 y k0 k1 k2) (h' : x' = Sp.B_62_0 y' k0 k1 k2) : (bif c then x else x') = Sp.B_62_0 (bif c then y else y') k0 k1 k2 := by cases c; exact h'; exact h
theorem Bin_62_0_62_1 {R : Type} {r : Option Sp.E_62_1} {k0 : Option R} {k1 : (Zt62_1) → (Zt62_0) → Option R} {k2 : (Zt62_0) → Option R} {f0 : Option R} {f1 : (Zt62_1) → (Zt62_0) → Option R} {f2 : (Zt62_1) → (Zt62_0) → Option R} {g0 : Option Sp.E_62_0} {g1 : (Zt62_1) → (Zt62_0) → Option Sp.E_62_0} {g2 : (Zt62_1) → (Zt62_0) → Option Sp.E_62_0} (h0 : f0 = Sp.B_62_0 g0 k0 k1 k2) (h1 : ∀ z0 z1, f1 z0 z1 = Sp.B_62_0 (g1 z0 z1) k0 k1 k2) (h2 : ∀ z0 z1, f2 z0 z1 = Sp.B_62_0 (g2 z0 z1) k0 k1 k2) : Sp.B_62_1 r f0 f1 f2 = Sp.B_62_0 (Sp.B_62_1 r g0 g1 g2) k0 k1 k2 := by
  cases r with
  | none => rfl
  | some e => cases e with
    | e0 => exact h0
    | e1 z0 z1 => exact h1 _ _
    | e2 z0 z1 => exact h2 _ _
theorem loop_62_0 {R : Type} (k : Ex → St → Option R) (p0 : Int) (p1 : Zt62_1) (p2 : Zt62_0) : evJ (evCodeL sm_62 FU (ovr noO (evFn sm_62 fns FU 0)) (ir62_bt0 O_62_62_1) ir62_b0) (T_62_0 p0 p1 p2) k = Sp.B_62_0 (Sp.J_62_0 p0 p1 p2) (k Ex.ret (X_62_0_0)) (fun y8 y9 => k Ex.ret (X_62_0_1 y8 y9)) (fun y11 => k Ex.ret (X_62_0_2 y11)) := by
  rw [body_62_0, Sp.J_62_0]
  repeat' first | apply Bgd_62_0 | apply Bcond_62_0 | (apply Bin_62_0_62_1 <;> intros) | rfl
theorem ok_62_0 {R : Type} (T : St) (k : Ex → St → Option R) (r : R) (h0 : o_62_0 G_62_0 T k = some r) : evCode sm_62 FU (evFn sm_62 fns FU 0) ir62_b0 T k = some r := by
  obtain ⟨p0, p1, p2, rfl, h⟩ := o_62_0_inv h0
  refine bodyL_sound (t := (ir62_bt0 O_62_62_1)) noO_ok (ir62_bt0ok (fun T k r => OK_62_62_1 T k r)) (((show ∀ (b : St → (Ex → St → Option R) → Option R) (T : St) (k : Ex → St → Option R), b T k = evJ b T k from fun _ _ _ => rfl) _ _ _).trans ((loop_62_0 k p0 p1 p2).trans h))
theorem OK_62_62_0 {R : Type} (T : St) (k : Ex → St → Option R) (r : R) (h : O_62_62_0 T k = some r) : evCode sm_62 FU (evFn sm_62 fns FU 0) ir62_b0 T k = some r := ok_62_0 T k r h
noncomputable def F_62 (a0 : (Int × (Int × (Int × (Int × (Int × (Int × (Bool × (Int × Unit))))))))) (a1 : (Int × (Int × (Int × (Int × (Int × ((List Int) × (Int × Unit)))))))) (a2 : Int) : Option (Bool × Unit) :=
  gd (Sp.p_61 (a1.1) (0 : Int) (31 : Int)) (bif !(Sp.v_61 (a1.1) (0 : Int) (31 : Int)).1 then some (false, PUnit.unit) else gd (Sp.p_61 (a1.2.1) (IntKind.wrap IntKind.i64 ((0 : Int) - a0.2.2.1)) (a0.2.1)) (bif !(Sp.v_61 (a1.2.1) (IntKind.wrap IntKind.i64 ((0 : Int) - a0.2.2.1)) (a0.2.1)).1 then some (false, PUnit.unit) else gd (Sp.p_61 (a1.2.2.1) (0 : Int) (2 : Int)) (bif !(Sp.v_61 (a1.2.2.1) (0 : Int) (2 : Int)).1 then some (false, PUnit.unit) else gd (Sp.p_61 (a1.2.2.2.1) (0 : Int) (IntKind.wrap IntKind.i64 (a0.2.2.2.2.1 - (1 : Int)))) (bif !(Sp.v_61 (a1.2.2.2.1) (0 : Int) (IntKind.wrap IntKind.i64 (a0.2.2.2.2.1 - (1 : Int)))).1 then some (false, PUnit.unit) else gd (Sp.p_61 (a1.2.2.2.2.1) (0 : Int) (255 : Int)) (bif !(Sp.v_61 (a1.2.2.2.2.1) (0 : Int) (255 : Int)).1 then some (false, PUnit.unit) else gd (Sp.p_61 (a1.2.2.2.2.2.2.1) (0 : Int) a2) (bif !(Sp.v_61 (a1.2.2.2.2.2.2.1) (0 : Int) a2).1 then some (false, PUnit.unit) else bif decide ((↑(List.length (a1.2.2.2.2.2.1)) : Int) > (0 : Int)) then gd (Sp.p_65 a0 (a1.2.2.2.2.2.1)) (bif !(Sp.v_65 a0 (a1.2.2.2.2.2.1)).1 then some (false, PUnit.unit) else Sp.B_62_0 (Sp.J_62_0 a2 a0 a1) (some (false, PUnit.unit)) (fun y14 y15 => some ((↑(List.length (y15.2.2.2.2.2.1)) : Int) == y14.2.2.2.2.2.2.2.1, PUnit.unit)) fun y16 => some ((↑(List.length (y16.2.2.2.2.2.1)) : Int) == (0 : Int), PUnit.unit)) else Sp.B_62_0 (Sp.J_62_0 a2 a0 a1) (some (false, PUnit.unit)) (fun y17 y18 => some ((↑(List.length (y18.2.2.2.2.2.1)) : Int) == y17.2.2.2.2.2.2.2.1, PUnit.unit)) fun y19 => some ((↑(List.length (y19.2.2.2.2.2.1)) : Int) == (0 : Int), PUnit.unit)))))))
theorem fn_62 (a0 : (Int × (Int × (Int × (Int × (Int × (Int × (Bool × (Int × Unit))))))))) (a1 : (Int × (Int × (Int × (Int × (Int × ((List Int) × (Int × Unit)))))))) (a2 : Int) : evFnL sm_62 FU (ovr noO (evFn sm_62 fns FU 0)) (ir62_t O_62_62_0) ir62 (ofH [Zy62_4, Zy62_5, (.int .i64)] (a0, a1, a2, ())) [] (pureK [.bool]) = F_62 a0 a1 a2 := by kernel_rfl
noncomputable def Sp.p_62 (a0 : (Int × (Int × (Int × (Int × (Int × (Int × (Bool × (Int × Unit))))))))) (a1 : (Int × (Int × (Int × (Int × (Int × ((List Int) × (Int × Unit)))))))) (a2 : Int) : Bool := (F_62 a0 a1 a2).isSome
noncomputable def Sp.v_62 (a0 : (Int × (Int × (Int × (Int × (Int × (Int × (Bool × (Int × Unit))))))))) (a1 : (Int × (Int × (Int × (Int × (Int × ((List Int) × (Int × Unit)))))))) (a2 : Int) : Bool × Unit := (F_62 a0 a1 a2).getD (dfH [.bool])
noncomputable def s_62 : Summ := shN [Zy62_4, Zy62_5, (.int .i64)] [.bool] (fun x => Sp.p_62 x.1 x.2.1 x.2.2.1) (fun x => Sp.v_62 x.1 x.2.1 x.2.2.1)
theorem pv_62 (a0 : (Int × (Int × (Int × (Int × (Int × (Int × (Bool × (Int × Unit))))))))) (a1 : (Int × (Int × (Int × (Int × (Int × ((List Int) × (Int × Unit)))))))) (a2 : Int) {y : Bool × Unit} (h : F_62 a0 a1 a2 = some y) : Sp.p_62 a0 a1 a2 = true ∧ Sp.v_62 a0 a1 a2 = y := ⟨by rw [Sp.p_62, h]; rfl, by rw [Sp.v_62, h]; rfl⟩
theorem run_62 (x : HDen [Zy62_4, Zy62_5, (.int .i64)]) (y : HDen [.bool]) (h : F_62 x.1 x.2.1 x.2.2.1 = some y) : evFn sm_62 fns FU 1 62 (ofH [Zy62_4, Zy62_5, (.int .i64)] x) [] (pureK [.bool]) = some y :=
  evFnL_sound (fn := ir62) (t := (ir62_t O_62_62_0)) (o := noO) rfl noO_ok (ir62_tok (fun T k r => OK_62_62_0 T k r)) ((fn_62 _ _ _).trans h)
end
end Go.Ev
namespace Go.Ev
open Go
set_option maxRecDepth 100000
set_option maxHeartbeats 4000000
set_option linter.unusedVariables false
noncomputable section

noncomputable def sm_64 : Nat → Option Summ := fun f => bif Nat.beq f 61 then some s_61 else none


noncomputable def F_64 (a0 : (Int × (Int × (Int × (Int × (Int × (Int × (Bool × (Int × Unit))))))))) : Option (Bool × Unit) :=
  gd (Sp.p_61 (a0.1) (1 : Int) (16777215 : Int)) (bif (Sp.v_61 (a0.1) (1 : Int) (16777215 : Int)).1 then gd (Sp.p_61 (a0.2.1) (1 : Int) (100 : Int)) (bif (Sp.v_61 (a0.2.1) (1 : Int) (100 : Int)).1 then gd (Sp.p_61 (a0.2.2.1) (1 : Int) (100 : Int)) (bif (Sp.v_61 (a0.2.2.1) (1 : Int) (100 : Int)).1 then gd (Sp.p_61 (a0.2.2.2.1) (1 : Int) (100 : Int)) (bif (Sp.v_61 (a0.2.2.2.1) (1 : Int) (100 : Int)).1 then gd (Sp.p_61 (a0.2.2.2.2.1) (a0.2.2.2.1) (255 : Int)) (bif (Sp.v_61 (a0.2.2.2.2.1) (a0.2.2.2.1) (255 : Int)).1 then gd (Sp.p_61 (a0.2.2.2.2.2.1) (0 : Int) (255 : Int)) (bif (Sp.v_61 (a0.2.2.2.2.2.1) (0 : Int) (255 : Int)).1 then gd (Sp.p_61 (a0.2.2.2.2.2.2.2.1) (0 : Int) (8 : Int)) (some ((Sp.v_61 (a0.2.2.2.2.2.2.2.1) (0 : Int) (8 : Int)).1, PUnit.unit)) else some (false, PUnit.unit)) else some (false, PUnit.unit)) else some (false, PUnit.unit)) else some (false, PUnit.unit)) else some (false, PUnit.unit)) else some (false, PUnit.unit))
theorem fn_64 (a0 : (Int × (Int × (Int × (Int × (Int × (Int × (Bool × (Int × Unit))))))))) : evFnL sm_64 FU (ovr noO (evFn sm_64 fns FU 0)) .nil ir64 (ofH [(.pair (.int .i64) (.pair (.int .i64) (.pair (.int .i64) (.pair (.int .i64) (.pair (.int .i64) (.pair (.int .i64) (.pair .bool (.pair (.int .i64) .unit))))))))] (a0, ())) [] (pureK [.bool]) = F_64 a0 := by kernel_rfl
noncomputable def Sp.p_64 (a0 : (Int × (Int × (Int × (Int × (Int × (Int × (Bool × (Int × Unit))))))))) : Bool := (F_64 a0).isSome
noncomputable def Sp.v_64 (a0 : (Int × (Int × (Int × (Int × (Int × (Int × (Bool × (Int × Unit))))))))) : Bool × Unit := (F_64 a0).getD (dfH [.bool])
noncomputable def s_64 : Summ := shN [(.pair (.int .i64) (.pair (.int .i64) (.pair (.int .i64) (.pair (.int .i64) (.pair (.int .i64) (.pair (.int .i64) (.pair .bool (.pair (.int .i64) .unit))))))))] [.bool] (fun x => Sp.p_64 x.1) (fun x => Sp.v_64 x.1)
theorem pv_64 (a0 : (Int × (Int × (Int × (Int × (Int × (Int × (Bool × (Int × Unit))))))))) {y : Bool × Unit} (h : F_64 a0 = some y) : Sp.p_64 a0 = true ∧ Sp.v_64 a0 = y := ⟨by rw [Sp.p_64, h]; rfl, by rw [Sp.v_64, h]; rfl⟩
theorem run_64 (x : HDen [(.pair (.int .i64) (.pair (.int .i64) (.pair (.int .i64) (.pair (.int .i64) (.pair (.int .i64) (.pair (.int .i64) (.pair .bool (.pair (.int .i64) .unit))))))))]) (y : HDen [.bool]) (h : F_64 x.1 = some y) : evFn sm_64 fns FU 1 64 (ofH [(.pair (.int .i64) (.pair (.int .i64) (.pair (.int .i64) (.pair (.int .i64) (.pair (.int .i64) (.pair (.int .i64) (.pair .bool (.pair (.int .i64) .unit))))))))] x) [] (pureK [.bool]) = some y :=
  evFnL_sound (fn := ir64) (t := .nil) (o := noO) rfl noO_ok trivial ((fn_64 _).trans h)
end
end Go.Ev
namespace Go.Ev
open Go
set_option maxRecDepth 100000
set_option maxHeartbeats 4000000
set_option linter.unusedVariables false
noncomputable section
abbrev Zt52_0 : Type := List (Int × Int × Int × Int × Int × Int × Bool × Int × Unit) × List (Int × Int × Int × Int × Int × List Int × Int × Unit) × Int × Bool × Unit
abbrev Zy52_1 : Ty := (Ty.pair (Ty.slice (Ty.pair (Ty.int IntKind.i64) (Ty.pair (Ty.int IntKind.i64) (Ty.pair (Ty.int IntKind.i64) (Ty.pair (Ty.int IntKind.i64) (Ty.pair (Ty.int IntKind.i64) (Ty.pair (Ty.int IntKind.i64) (Ty.pair Ty.bool (Ty.pair (Ty.int IntKind.i64) Ty.unit))))))))) (Ty.pair (Ty.slice (Ty.pair (Ty.int IntKind.i64) (Ty.pair (Ty.int IntKind.i64) (Ty.pair (Ty.int IntKind.i64) (Ty.pair (Ty.int IntKind.i64) (Ty.pair (Ty.int IntKind.i64) (Ty.pair (Ty.slice (Ty.int IntKind.i64)) (Ty.pair (Ty.int IntKind.i64) Ty.unit)))))))) (Ty.pair (Ty.int IntKind.i64) (Ty.pair Ty.bool Ty.unit))))
abbrev Zy52_2 : Ty := (.pair (.slice (.pair (.int .i64) (.pair (.int .i64) (.pair (.int .i64) (.pair (.int .i64) (.pair (.int .i64) (.pair (.int .i64) (.pair .bool (.pair (.int .i64) .unit))))))))) (.pair (.slice (.pair (.int .i64) (.pair (.int .i64) (.pair (.int .i64) (.pair (.int .i64) (.pair (.int .i64) (.pair (.slice (.int .i64)) (.pair (.int .i64) .unit)))))))) (.pair (.int .i64) (.pair .bool .unit))))
abbrev Zy52_3 : Ty := (Ty.pair (Ty.int IntKind.i64) (Ty.pair (Ty.int IntKind.i64) (Ty.pair (Ty.int IntKind.i64) (Ty.pair (Ty.int IntKind.i64) (Ty.pair (Ty.int IntKind.i64) (Ty.pair (Ty.int IntKind.i64) (Ty.pair Ty.bool (Ty.pair (Ty.int IntKind.i64) Ty.unit))))))))
abbrev Zy52_4 : Ty := (Ty.pair (Ty.int IntKind.i64) (Ty.pair (Ty.int IntKind.i64) (Ty.pair (Ty.int IntKind.i64) (Ty.pair (Ty.int IntKind.i64) (Ty.pair (Ty.int IntKind.i64) (Ty.pair (Ty.slice (Ty.int IntKind.i64)) (Ty.pair (Ty.int IntKind.i64) Ty.unit)))))))
abbrev Zt52_5 : Type := List (Int × Int × Int × Int × Int × Int × Bool × Int × Unit)
abbrev Zt52_6 : Type := List (Int × Int × Int × Int × Int × List Int × Int × Unit)

abbrev s52_60 : Summ := codesS
noncomputable def sm_52 : Nat → Option Summ := fun f => bif Nat.beq f 60 then some s52_60 else bif Nat.beq f 61 then some s_61 else bif Nat.beq f 62 then some s_62 else bif Nat.beq f 64 then some s_64 else none
noncomputable def T_52_63_0_0 (p0 : Zt52_5) (p1 : Int) (p2 : Int) (p3 : Zt52_0) : St := St.mk ([CV.pure (Ty.slice (Ty.pair (Ty.int IntKind.i64) (Ty.pair (Ty.int IntKind.i64) (Ty.pair (Ty.int IntKind.i64) (Ty.pair (Ty.int IntKind.i64) (Ty.pair (Ty.int IntKind.i64) (Ty.pair (Ty.int IntKind.i64) (Ty.pair Ty.bool (Ty.pair (Ty.int IntKind.i64) Ty.unit))))))))) p0, CV.clo (59 : Nat) (CV.pure Ty.unit PUnit.unit), jk, jk, jk, jk, jk, CV.int IntKind.i64 p1, CV.int IntKind.i64 p2] ++ (jl 10)) [Blk.mem (CV.pure Zy52_1 p3)] (1 : Nat)
noncomputable def X_52_63_0_0_0 (p2 : Int) (p3 : Zt52_0) : St := St.mk ([jk, jk, jk, jk, CV.int IntKind.i64 p2] ++ (jl 14)) [Blk.mem (CV.pure Zy52_1 p3)] (1 : Nat)
noncomputable def X_52_63_0_0_1 (p3 : Zt52_0) : St := St.mk (jl 19) [Blk.mem (CV.pure Zy52_1 p3)] (1 : Nat)
inductive Sp.E_52_63_0_0 where
  | e0 (p2 : Int) (p3 : Zt52_0)
  | e1 (p3 : Zt52_0)
noncomputable def Sp.B_52_63_0_0 {R : Type} (r : Option Sp.E_52_63_0_0) (k0 : (Int) → (Zt52_0) → Option R) (k1 : (Zt52_0) → Option R) : Option R := match r with
  | none => none
  | some (.e0 p2 p3) => k0 p2 p3
  | some (.e1 p3) => k1 p3
noncomputable def Sp.L_52_63_0_0 : Nat → (List (Int × Int × Int × Int × Int × Int × Bool × Int × Unit)) → (Int) → (Int) → (List (Int × Int × Int × Int × Int × Int × Bool × Int × Unit) × List (Int × Int × Int × Int × Int × List Int × Int × Unit) × Int × Bool × Unit) → Option Sp.E_52_63_0_0
  | 0, _, _, _, _ => none
  | m + 1, p0, p1, p2, p3 => bif decide (p2 < p1) then gd (inB p2 (List.length p0)) (gd (Sp.p_64 (List.getD p0 (Int.toNat p2) Zd1)) (bif !(Sp.v_64 (List.getD p0 (Int.toNat p2) Zd1)).1 then some (Sp.E_52_63_0_0.e0 p2 p3) else Sp.L_52_63_0_0 m p0 p1 (IntKind.wrap IntKind.i64 (p2 + (1 : Int))) p3)) else some (Sp.E_52_63_0_0.e1 p3)
noncomputable def G_52_63_0_0 {R : Type} (p0 : Zt52_5) (p1 : Int) (p2 : Int) (p3 : Zt52_0) (k : Ex → St → Option R) : Option R := Sp.B_52_63_0_0 (Sp.L_52_63_0_0 FU p0 p1 p2 p3) (fun p2 p3 => k Ex.ret (X_52_63_0_0_0 p2 p3)) (fun p3 => k (Ex.exit (0 : Nat)) (X_52_63_0_0_1 p3))
noncomputable def o_52_63_0_0 {R : Type} (G : (Zt52_5) → (Int) → (Int) → (Zt52_0) → (Ex → St → Option R) → Option R) : St → (Ex → St → Option R) → Option R := fun T k => match T.sl.getD 0 .junk, T.sl.getD 1 .junk, T.sl.getD 7 .junk, T.sl.getD 8 .junk, T.hp with
  | CV.pure (Ty.slice (Ty.pair (Ty.int IntKind.i64) (Ty.pair (Ty.int IntKind.i64) (Ty.pair (Ty.int IntKind.i64) (Ty.pair (Ty.int IntKind.i64) (Ty.pair (Ty.int IntKind.i64) (Ty.pair (Ty.int IntKind.i64) (Ty.pair Ty.bool (Ty.pair (Ty.int IntKind.i64) Ty.unit))))))))) p0, CV.clo (59 : Nat) (CV.pure Ty.unit PUnit.unit), CV.int IntKind.i64 p1, CV.int IntKind.i64 p2, ((Blk.mem (CV.pure (Ty.pair (Ty.slice (Ty.pair (Ty.int IntKind.i64) (Ty.pair (Ty.int IntKind.i64) (Ty.pair (Ty.int IntKind.i64) (Ty.pair (Ty.int IntKind.i64) (Ty.pair (Ty.int IntKind.i64) (Ty.pair (Ty.int IntKind.i64) (Ty.pair Ty.bool (Ty.pair (Ty.int IntKind.i64) Ty.unit))))))))) (Ty.pair (Ty.slice (Ty.pair (Ty.int IntKind.i64) (Ty.pair (Ty.int IntKind.i64) (Ty.pair (Ty.int IntKind.i64) (Ty.pair (Ty.int IntKind.i64) (Ty.pair (Ty.int IntKind.i64) (Ty.pair (Ty.slice (Ty.int IntKind.i64)) (Ty.pair (Ty.int IntKind.i64) Ty.unit)))))))) (Ty.pair (Ty.int IntKind.i64) (Ty.pair Ty.bool Ty.unit)))) p3)) :: []) => gd (shapeOK T 19 [0, 1, 7, 8] (1 : Nat)) (G p0 p1 p2 p3 k)
  | _, _, _, _, _ => none
theorem o_52_63_0_0_inv {R : Type} {G : (Zt52_5) → (Int) → (Int) → (Zt52_0) → (Ex → St → Option R) → Option R} {T : St} {k : Ex → St → Option R} {r : R} (h : o_52_63_0_0 G T k = some r) : ∃ p0 p1 p2 p3, T = T_52_63_0_0 p0 p1 p2 p3 ∧ G p0 p1 p2 p3 k = some r := by
  unfold o_52_63_0_0 at h
  split at h
  · obtain ⟨hs, h'⟩ := gd_some h
    refine ⟨_, _, _, _, (st_of (asg := [(0, _), (1, _), (7, _), (8, _)]) hs ⟨by assumption, by assumption, by assumption, by assumption, trivial⟩ (by assumption)).trans ?_, h'⟩
    kernel_rfl
  · cases h
noncomputable def T_52_1 (p0 : Zt52_6) (p1 : Int) (p2 : Int) (p3 : Zt52_0) : St := St.mk ([jk, CV.ptr (0 : Nat) []] ++ (jl 43 ++ ([CV.pure (Ty.slice (Ty.pair (Ty.int IntKind.i64) (Ty.pair (Ty.int IntKind.i64) (Ty.pair (Ty.int IntKind.i64) (Ty.pair (Ty.int IntKind.i64) (Ty.pair (Ty.int IntKind.i64) (Ty.pair (Ty.slice (Ty.int IntKind.i64)) (Ty.pair (Ty.int IntKind.i64) Ty.unit)))))))) p0, CV.int IntKind.i64 p1, CV.int IntKind.i64 p2] ++ (jl 15)))) [Blk.mem (CV.pure Zy52_1 p3)] (0 : Nat)
noncomputable def X_52_1_0 : St := St.mk ([jk, jk, CV.bool false] ++ (jl 60)) [] (0 : Nat)
noncomputable def X_52_1_1 : St := St.mk (jl 63) [] (0 : Nat)
inductive Sp.E_52_1 where
  | e0
  | e1
noncomputable def Sp.B_52_1 {R : Type} (r : Option Sp.E_52_1) (k0 : Option R) (k1 : Option R) : Option R := match r with
  | none => none
  | some (.e0) => k0
  | some (.e1) => k1
noncomputable def Sp.L_52_1 : Nat → (List (Int × Int × Int × Int × Int × List Int × Int × Unit)) → (Int) → (Int) → (List (Int × Int × Int × Int × Int × Int × Bool × Int × Unit) × List (Int × Int × Int × Int × Int × List Int × Int × Unit) × Int × Bool × Unit) → Option Sp.E_52_1
  | 0, _, _, _, _ => none
  | m + 1, p0, p1, p2, p3 => bif decide (p2 < p1) then gd (inB p2 (List.length p0)) (gd (inB p2 (List.length (p3.1))) (gd (Sp.p_62 (List.getD (p3.1) (Int.toNat p2) Zd1) (List.getD p0 (Int.toNat p2) Zd2) (p3.2.2.1)) (bif !(Sp.v_62 (List.getD (p3.1) (Int.toNat p2) Zd1) (List.getD p0 (Int.toNat p2) Zd2) (p3.2.2.1)).1 then some (Sp.E_52_1.e0) else Sp.L_52_1 m p0 p1 (IntKind.wrap IntKind.i64 (p2 + (1 : Int))) p3))) else some (Sp.E_52_1.e1)
noncomputable def G_52_1 {R : Type} (p0 : Zt52_6) (p1 : Int) (p2 : Int) (p3 : Zt52_0) (k : Ex → St → Option R) : Option R := Sp.B_52_1 (Sp.L_52_1 FU p0 p1 p2 p3) (k Ex.ret (X_52_1_0)) (k (Ex.exit (0 : Nat)) (X_52_1_1))
noncomputable def o_52_1 {R : Type} (G : (Zt52_6) → (Int) → (Int) → (Zt52_0) → (Ex → St → Option R) → Option R) : St → (Ex → St → Option R) → Option R := fun T k => match T.sl.getD 1 .junk, T.sl.getD 45 .junk, T.sl.getD 46 .junk, T.sl.getD 47 .junk, T.hp with
  | CV.ptr (0 : Nat) [], CV.pure (Ty.slice (Ty.pair (Ty.int IntKind.i64) (Ty.pair (Ty.int IntKind.i64) (Ty.pair (Ty.int IntKind.i64) (Ty.pair (Ty.int IntKind.i64) (Ty.pair (Ty.int IntKind.i64) (Ty.pair (Ty.slice (Ty.int IntKind.i64)) (Ty.pair (Ty.int IntKind.i64) Ty.unit)))))))) p0, CV.int IntKind.i64 p1, CV.int IntKind.i64 p2, ((Blk.mem (CV.pure (Ty.pair (Ty.slice (Ty.pair (Ty.int IntKind.i64) (Ty.pair (Ty.int IntKind.i64) (Ty.pair (Ty.int IntKind.i64) (Ty.pair (Ty.int IntKind.i64) (Ty.pair (Ty.int IntKind.i64) (Ty.pair (Ty.int IntKind.i64) (Ty.pair Ty.bool (Ty.pair (Ty.int IntKind.i64) Ty.unit))))))))) (Ty.pair (Ty.slice (Ty.pair (Ty.int IntKind.i64) (Ty.pair (Ty.int IntKind.i64) (Ty.pair (Ty.int IntKind.i64) (Ty.pair (Ty.int IntKind.i64) (Ty.pair (Ty.int IntKind.i64) (Ty.pair (Ty.slice (Ty.int IntKind.i64)) (Ty.pair (Ty.int IntKind.i64) Ty.unit)))))))) (Ty.pair (Ty.int IntKind.i64) (Ty.pair Ty.bool Ty.unit)))) p3)) :: []) => gd (shapeOK T 63 [1, 45, 46, 47] (0 : Nat)) (G p0 p1 p2 p3 k)
  | _, _, _, _, _ => none
theorem o_52_1_inv {R : Type} {G : (Zt52_6) → (Int) → (Int) → (Zt52_0) → (Ex → St → Option R) → Option R} {T : St} {k : Ex → St → Option R} {r : R} (h : o_52_1 G T k = some r) : ∃ p0 p1 p2 p3, T = T_52_1 p0 p1 p2 p3 ∧ G p0 p1 p2 p3 k = some r := by
  unfold o_52_1 at h
  split at h
  · obtain ⟨hs, h'⟩ := gd_some h
    refine ⟨_, _, _, _, (st_of (asg := [(1, _), (45, _), (46, _), (47, _)]) hs ⟨by assumption, by assumption, by assumption, by assumption, trivial⟩ (by assumption)).trans ?_, h'⟩
    kernel_rfl
  · cases h
noncomputable def T_52_0 (p0 : Zt52_0) : St := St.mk ([jk, CV.ptr (0 : Nat) []] ++ (jl 61)) [Blk.mem (CV.pure Zy52_1 p0)] (0 : Nat)
noncomputable def X_52_0_0 : St := St.mk ([jk, jk, CV.bool false] ++ (jl 60)) [] (0 : Nat)
noncomputable def X_52_0_1 : St := St.mk ([jk, jk, CV.bool true] ++ (jl 60)) [] (0 : Nat)
inductive Sp.E_52_0 where
  | e0
  | e1
noncomputable def Sp.B_52_0 {R : Type} (r : Option Sp.E_52_0) (k0 : Option R) (k1 : Option R) : Option R := match r with
  | none => none
  | some (.e0) => k0
  | some (.e1) => k1
noncomputable def Sp.J_52_0 (p0 : List (Int × Int × Int × Int × Int × Int × Bool × Int × Unit) × List (Int × Int × Int × Int × Int × List Int × Int × Unit) × Int × Bool × Unit) : Option Sp.E_52_0 :=
  Sp.B_52_1 (Sp.L_52_1 (4611686018427387904 : Nat) (p0.2.1) (↑(List.length (p0.2.1)) : Int) (0 : Int) p0) (some (Sp.E_52_0.e0)) (some (Sp.E_52_0.e1))
noncomputable def G_52_0 {R : Type} (p0 : Zt52_0) (k : Ex → St → Option R) : Option R := Sp.B_52_0 (Sp.J_52_0 p0) (k Ex.ret (X_52_0_0)) (k Ex.ret (X_52_0_1))
noncomputable def o_52_0 {R : Type} (G : (Zt52_0) → (Ex → St → Option R) → Option R) : St → (Ex → St → Option R) → Option R := fun T k => match T.sl.getD 1 .junk, T.hp with
  | CV.ptr (0 : Nat) [], ((Blk.mem (CV.pure (Ty.pair (Ty.slice (Ty.pair (Ty.int IntKind.i64) (Ty.pair (Ty.int IntKind.i64) (Ty.pair (Ty.int IntKind.i64) (Ty.pair (Ty.int IntKind.i64) (Ty.pair (Ty.int IntKind.i64) (Ty.pair (Ty.int IntKind.i64) (Ty.pair Ty.bool (Ty.pair (Ty.int IntKind.i64) Ty.unit))))))))) (Ty.pair (Ty.slice (Ty.pair (Ty.int IntKind.i64) (Ty.pair (Ty.int IntKind.i64) (Ty.pair (Ty.int IntKind.i64) (Ty.pair (Ty.int IntKind.i64) (Ty.pair (Ty.int IntKind.i64) (Ty.pair (Ty.slice (Ty.int IntKind.i64)) (Ty.pair (Ty.int IntKind.i64) Ty.unit)))))))) (Ty.pair (Ty.int IntKind.i64) (Ty.pair Ty.bool Ty.unit)))) p0)) :: []) => gd (shapeOK T 63 [1] (0 : Nat)) (G p0 k)
  | _, _ => none
theorem o_52_0_inv {R : Type} {G : (Zt52_0) → (Ex → St → Option R) → Option R} {T : St} {k : Ex → St → Option R} {r : R} (h : o_52_0 G T k = some r) : ∃ p0, T = T_52_0 p0 ∧ G p0 k = some r := by
  unfold o_52_0 at h
  split at h
  · obtain ⟨hs, h'⟩ := gd_some h
    refine ⟨_, (st_of (asg := [(1, _)]) hs ⟨by assumption, trivial⟩ (by assumption)).trans ?_, h'⟩
    kernel_rfl
  · cases h
noncomputable def O_52_63_0 {R : Type} : St → (Ex → St → Option R) → Option R := fun T k => o_52_63_0_0 G_52_63_0_0 T k
noncomputable def O_52_52_1 {R : Type} : St → (Ex → St → Option R) → Option R := fun T k => o_52_1 G_52_1 T k
noncomputable def O_52_52_0 {R : Type} : St → (Ex → St → Option R) → Option R := fun T k => o_52_0 G_52_0 T k
noncomputable def g_52_63 {R : Type} : List CV → List Blk → (CV → List Blk → Option R) → Option R := evFnL sm_52 FU (ovr noO (evFn sm_52 fns FU 1)) (ir63_t O_52_63_0) ir63
noncomputable def g_52_58 {R : Type} : List CV → List Blk → (CV → List Blk → Option R) → Option R := evFnL sm_52 FU (ovr (fun f' => bif Nat.beq f' 63 then some (g_52_63) else none) (evFn sm_52 fns FU 2)) .nil ir58
theorem body_52_63_0_0 {R : Type} (K0 : St → Option R) (K1 : Ex → St → Option R) (p0 : Zt52_5) (p1 : Int) (p2 : Int) (p3 : Zt52_0) : evLB (evCodeL sm_52 FU (ovr noO (evFn sm_52 fns FU 1)) .nil ir63_b0) (St.norm ir63_v0) (T_52_63_0_0 p0 p1 p2 p3) K0 K1 =
  bif decide (p2 < p1) then gd (inB p2 (List.length p0)) (gd (Sp.p_64 (List.getD p0 (Int.toNat p2) (Ty.dflt Zy52_3))) (bif !(Sp.v_64 (List.getD p0 (Int.toNat p2) (Ty.dflt Zy52_3))).1 then K1 Ex.ret (X_52_63_0_0_0 p2 p3) else K0 (T_52_63_0_0 p0 p1 (IntKind.wrap IntKind.i64 (p2 + (1 : Int))) p3))) else K1 (Ex.exit (0 : Nat)) (X_52_63_0_0_1 p3) := by kernel_rfl
theorem Bgd_52_63_0_0 {R : Type} {c : Bool} {x : Option R} {y : Option Sp.E_52_63_0_0} {k0 : (Int) → (Zt52_0) → Option R} {k1 : (Zt52_0) → Option R} (h : x = Sp.B_52_63_0_0 y k0 k1) : gd c x = Sp.B_52_63_0_0 (gd c y) k0 k1 := by cases c; rfl; exact h
theorem Bcond_52_63_0_0 {R : Type} {c : Bool} {x x' : Option R} {y y' : Option Sp.E_52_63_0_0} {k0 : (Int) → (Zt52_0) → Option R} {k1 : (Zt52_0) → Option R} (h : x = Sp.B_52_63_0_0 y k0 k1) (h' : x' = Sp.B_52_63_0_0 y' k0 k1) : (bif c then x else x') = Sp.B_52_63_0_0 (bif c then y else y') k0 k1 := by cases c; exact h'; exact h
theorem loop_52_63_0_0 {R : Type} (k : Ex → St → Option R) : ∀ (m : Nat) (p0 : Zt52_5) (p1 : Int) (p2 : Int) (p3 : Zt52_0), evLoopN (evCodeL sm_52 FU (ovr noO (evFn sm_52 fns FU 1)) .nil ir63_b0) (St.norm ir63_v0) m (T_52_63_0_0 p0 p1 p2 p3) k = Sp.B_52_63_0_0 (Sp.L_52_63_0_0 m p0 p1 p2 p3) (fun p2 p3 => k Ex.ret (X_52_63_0_0_0 p2 p3)) (fun p3 => k (Ex.exit (0 : Nat)) (X_52_63_0_0_1 p3))
  | 0, _, _, _, _ => rfl
  | m + 1, p0, p1, p2, p3 => by
    rw [evLoopN_succ, body_52_63_0_0, Sp.L_52_63_0_0]
    repeat' first | apply Bgd_52_63_0_0 | apply Bcond_52_63_0_0 | exact loop_52_63_0_0 k m _ _ _ _ | rfl
theorem ok_52_63_0_0 {R : Type} (T : St) (k : Ex → St → Option R) (r : R) (h0 : o_52_63_0_0 G_52_63_0_0 T k = some r) : evLoopN (evCode sm_52 FU (evFn sm_52 fns FU 1) ir63_b0) (St.norm ir63_v0) FU T k = some r := by
  obtain ⟨p0, p1, p2, p3, rfl, h⟩ := o_52_63_0_0_inv h0
  refine evLoopN_L (t := .nil) noO_ok trivial _ _ _ _ ?_
  rw [loop_52_63_0_0]
  exact h
theorem OK_52_63_0 {R : Type} (T : St) (k : Ex → St → Option R) (r : R) (h : O_52_63_0 T k = some r) : evLoopN (evCode sm_52 FU (evFn sm_52 fns FU 1) ir63_b0) (St.norm ir63_v0) FU T k = some r := ok_52_63_0_0 T k r h
theorem g_52_63_ok {R : Type} (args : List CV) (hp : List Blk) (k : CV → List Blk → Option R) (r : R) (h : g_52_63 args hp k = some r) : evFn sm_52 fns FU 2 63 args hp k = some r :=
  evFnL_sound (fn := ir63) (t := (ir63_t O_52_63_0)) (o := noO) rfl noO_ok (ir63_tok (fun T k r => OK_52_63_0 T k r)) h
theorem ov_52_58_ok {R : Type} : OvrOK (R := R) (fun f' => bif Nat.beq f' 63 then some (g_52_63) else none) (evFn sm_52 fns FU 2) := by
  intro f' g h args hp k r hg
  dsimp only at h
  by_cases h63 : f' = 63
  · subst h63
    injection h with h
    subst h
    exact evFn_le 0 (g_52_63_ok _ _ _ _ hg)
  rw [nbeq_ne h63, cond_false] at h
  cases h
theorem g_52_58_ok {R : Type} (args : List CV) (hp : List Blk) (k : CV → List Blk → Option R) (r : R) (h : g_52_58 args hp k = some r) : evFn sm_52 fns FU 3 58 args hp k = some r :=
  evFnL_sound (fn := ir58) (t := .nil) (o := (fun f' => bif Nat.beq f' 63 then some (g_52_63) else none)) rfl ov_52_58_ok trivial h
theorem ov_52_52_ok {R : Type} : OvrOK (R := R) (fun f' => bif Nat.beq f' 58 then some (g_52_58) else none) (evFn sm_52 fns FU 3) := by
  intro f' g h args hp k r hg
  dsimp only at h
  by_cases h58 : f' = 58
  · subst h58
    injection h with h
    subst h
    exact evFn_le 0 (g_52_58_ok _ _ _ _ hg)
  rw [nbeq_ne h58, cond_false] at h
  cases h
theorem body_52_1 {R : Type} (K0 : St → Option R) (K1 : Ex → St → Option R) (p0 : Zt52_6) (p1 : Int) (p2 : Int) (p3 : Zt52_0) : evLB (evCodeL sm_52 FU (ovr (fun f' => bif Nat.beq f' 58 then some (g_52_58) else none) (evFn sm_52 fns FU 3)) .nil ir52_b1) (St.norm ir52_v1) (T_52_1 p0 p1 p2 p3) K0 K1 =
  bif decide (p2 < p1) then gd (inB p2 (List.length p0)) (gd (inB p2 (List.length (p3.1))) (gd (Sp.p_62 (List.getD (p3.1) (Int.toNat p2) (Ty.dflt Zy52_3)) (List.getD p0 (Int.toNat p2) (Ty.dflt Zy52_4)) (p3.2.2.1)) (bif !(Sp.v_62 (List.getD (p3.1) (Int.toNat p2) (Ty.dflt Zy52_3)) (List.getD p0 (Int.toNat p2) (Ty.dflt Zy52_4)) (p3.2.2.1)).1 then K1 Ex.ret X_52_1_0 else K0 (T_52_1 p0 p1 (IntKind.wrap IntKind.i64 (p2 + (1 : Int))) p3)))) else K1 (Ex.exit (0 : Nat)) X_52_1_1 := by kernel_rfl
theorem Bgd_52_1 {R : Type} {c : Bool} {x : Option R} {y : Option Sp.E_52_1} {k0 : Option R} {k1 : Option R} (h : x = Sp.B_52_1 y k0 k1) : gd c x = Sp.B_52_1 (gd c y) k0 k1 := by cases c; rfl; exact h
theorem Bcond_52_1 {R : Type} {c : Bool} {x x' : Option R} {y y' : Option Sp.E_52_1} {k0 : Option R} {k1 : Option R} (h : x = Sp.B_52_1 y k0 k1) (h' : x' = Sp.B_52_1 y' k0 k1) : (bif c then x else x') = Sp.B_52_1 (bif c then y else y') k0 k1 := by cases c; exact h'; exact h
theorem loop_52_1 {R : Type} (k : Ex → St → Option R) : ∀ (m : Nat) (p0 : Zt52_6) (p1 : Int) (p2 : Int) (p3 : Zt52_0), evLoopN (evCodeL sm_52 FU (ovr (fun f' => bif Nat.beq f' 58 then some (g_52_58) else none) (evFn sm_52 fns FU 3)) .nil ir52_b1) (St.norm ir52_v1) m (T_52_1 p0 p1 p2 p3) k = Sp.B_52_1 (Sp.L_52_1 m p0 p1 p2 p3) (k Ex.ret (X_52_1_0)) (k (Ex.exit (0 : Nat)) (X_52_1_1))
  | 0, _, _, _, _ => rfl
  | m + 1, p0, p1, p2, p3 => by
    rw [evLoopN_succ, body_52_1, Sp.L_52_1]
    repeat' first | apply Bgd_52_1 | apply Bcond_52_1 | exact loop_52_1 k m _ _ _ _ | rfl
theorem ok_52_1 {R : Type} (T : St) (k : Ex → St → Option R) (r : R) (h0 : o_52_1 G_52_1 T k = some r) : evLoopN (evCode sm_52 FU (evFn sm_52 fns FU 3) ir52_b1) (St.norm ir52_v1) FU T k = some r := by
  obtain ⟨p0, p1, p2, p3, rfl, h⟩ := o_52_1_inv h0
  refine evLoopN_L (t := .nil) ov_52_52_ok trivial _ _ _ _ ?_
  rw [loop_52_1]
  exact h
theorem OK_52_52_1 {R : Type} (T : St) (k : Ex → St → Option R) (r : R) (h : O_52_52_1 T k = some r) : evLoopN (evCode sm_52 FU (evFn sm_52 fns FU 3) ir52_b1) (St.norm ir52_v1) FU T k = some r := ok_52_1 T k r h
theorem body_52_0 {R : Type} (K1 : Ex → St → Option R) (p0 : Zt52_0) : evJ (evCodeL sm_52 FU (ovr (fun f' => bif Nat.beq f' 58 then some (g_52_58) else none) (evFn sm_52 fns FU 3)) (ir52_bt0 O_52_52_1) ir52_b0) (T_52_0 p0) K1 =
  Sp.B_52_1 (Sp.L_52_1 (4611686018427387904 : Nat) (p0.2.1) (↑(List.length (p0.2.1)) : Int) (0 : Int) p0) (K1 Ex.ret X_52_0_0) (K1 Ex.ret X_52_0_1) := by kernel_rfl
theorem Bgd_52_0 {R : Type} {c : Bool} {x : Option R} {y : Option Sp.E_52_0} {k0 : Option R} {k1 : Option R} (h : x = Sp.B_52_0 y k0 k1) : gd c x = Sp.B_52_0 (gd c y) k0 k1 := by cases c; rfl; exact h
theorem Bcond_52_0 {R : Type} {c : Bool} {x x' : Option R} {y y' : Option Sp.E_52_0} {k0 : Option R} {k1 : Option R} (h : x = Sp.B_52_0 y k0 k1) (h' : x' = Sp.B_52_0 y' k0 k1) : (bif c then x else x') = Sp.B_52_0 (bif c then y else y') k0 k1 := by cases c; exact h'; exact h
theorem Bin_52_0_52_1 {R : Type} {r : Option Sp.E_52_1} {k0 : Option R} {k1 : Option R} {f0 : Option R} {f1 : Option R} {g0 : Option Sp.E_52_0} {g1 : Option Sp.E_52_0} (h0 : f0 = Sp.B_52_0 g0 k0 k1) (h1 : f1 = Sp.B_52_0 g1 k0 k1) : Sp.B_52_1 r f0 f1 = Sp.B_52_0 (Sp.B_52_1 r g0 g1) k0 k1 := by
  cases r with
  | none => rfl
  | some e => cases e with
    | e0 => exact h0
    | e1 => exact h1
theorem loop_52_0 {R : Type} (k : Ex → St → Option R) (p0 : Zt52_0) : evJ (evCodeL sm_52 FU (ovr (fun f' => bif Nat.beq f' 58 then some (g_52_58) else none) (evFn sm_52 fns FU 3)) (ir52_bt0 O_52_52_1) ir52_b0) (T_52_0 p0) k = Sp.B_52_0 (Sp.J_52_0 p0) (k Ex.ret (X_52_0_0)) (k Ex.ret (X_52_0_1)) := by
  rw [body_52_0, Sp.J_52_0]
  repeat' first | apply Bgd_52_0 | apply Bcond_52_0 | (apply Bin_52_0_52_1 <;> intros) | rfl
theorem ok_52_0 {R : Type} (T : St) (k : Ex → St → Option R) (r : R) (h0 : o_52_0 G_52_0 T k = some r) : evCode sm_52 FU (evFn sm_52 fns FU 3) ir52_b0 T k = some r := by
  obtain ⟨p0, rfl, h⟩ := o_52_0_inv h0
  refine bodyL_sound (t := (ir52_bt0 O_52_52_1)) ov_52_52_ok (ir52_bt0ok (fun T k r => OK_52_52_1 T k r)) (((show ∀ (b : St → (Ex → St → Option R) → Option R) (T : St) (k : Ex → St → Option R), b T k = evJ b T k from fun _ _ _ => rfl) _ _ _).trans ((loop_52_0 k p0).trans h))
theorem OK_52_52_0 {R : Type} (T : St) (k : Ex → St → Option R) (r : R) (h : O_52_52_0 T k = some r) : evCode sm_52 FU (evFn sm_52 fns FU 3) ir52_b0 T k = some r := ok_52_0 T k r h
noncomputable def F_52 (a0 : ((List (Int × (Int × (Int × (Int × (Int × (Int × (Bool × (Int × Unit))))))))) × ((List (Int × (Int × (Int × (Int × (Int × ((List Int) × (Int × Unit)))))))) × (Int × (Bool × Unit))))) : Option (Bool × Unit) :=
  bif decide ((↑(List.length (a0.1)) : Int) > (64 : Int)) then some (false, PUnit.unit) else Sp.B_52_63_0_0 (Sp.L_52_63_0_0 (4611686018427387904 : Nat) (a0.1) (↑(List.length (a0.1)) : Int) (0 : Int) a0) (fun y11 y12 => bif decide (y11 ≥ (0 : Int)) then some (false, PUnit.unit) else bif !Sp.dst (List.map (fun y13 => y13.1) (y12.1)) then some (false, PUnit.unit) else bif (↑(List.length (y12.2.1)) : Int) != (↑(List.length (y12.1)) : Int) then some (false, PUnit.unit) else gd (Sp.p_61 (y12.2.2.1) (0 : Int) (1073741824 : Int)) (bif !(Sp.v_61 (y12.2.2.1) (0 : Int) (1073741824 : Int)).1 then some (false, PUnit.unit) else bif y12.2.2.2.1 then bif decide (y12.2.2.1 < (1 : Int)) then some (false, PUnit.unit) else Sp.B_52_0 (Sp.J_52_0 y12) (some (false, PUnit.unit)) (some (true, PUnit.unit)) else Sp.B_52_0 (Sp.J_52_0 y12) (some (false, PUnit.unit)) (some (true, PUnit.unit)))) fun y16 => bif !Sp.dst (List.map (fun y17 => y17.1) (y16.1)) then some (false, PUnit.unit) else bif (↑(List.length (y16.2.1)) : Int) != (↑(List.length (y16.1)) : Int) then some (false, PUnit.unit) else gd (Sp.p_61 (y16.2.2.1) (0 : Int) (1073741824 : Int)) (bif !(Sp.v_61 (y16.2.2.1) (0 : Int) (1073741824 : Int)).1 then some (false, PUnit.unit) else bif y16.2.2.2.1 then bif decide (y16.2.2.1 < (1 : Int)) then some (false, PUnit.unit) else Sp.B_52_0 (Sp.J_52_0 y16) (some (false, PUnit.unit)) (some (true, PUnit.unit)) else Sp.B_52_0 (Sp.J_52_0 y16) (some (false, PUnit.unit)) (some (true, PUnit.unit)))
theorem fn_52 (a0 : ((List (Int × (Int × (Int × (Int × (Int × (Int × (Bool × (Int × Unit))))))))) × ((List (Int × (Int × (Int × (Int × (Int × ((List Int) × (Int × Unit)))))))) × (Int × (Bool × Unit))))) : evFnL sm_52 FU (ovr (fun f' => bif Nat.beq f' 58 then some (g_52_58) else none) (evFn sm_52 fns FU 3)) (ir52_t O_52_52_0) ir52 (ofH [Zy52_2] (a0, ())) [] (pureK [.bool]) = F_52 a0 := by kernel_rfl
noncomputable def Sp.p_52 (a0 : ((List (Int × (Int × (Int × (Int × (Int × (Int × (Bool × (Int × Unit))))))))) × ((List (Int × (Int × (Int × (Int × (Int × ((List Int) × (Int × Unit)))))))) × (Int × (Bool × Unit))))) : Bool := (F_52 a0).isSome
noncomputable def Sp.v_52 (a0 : ((List (Int × (Int × (Int × (Int × (Int × (Int × (Bool × (Int × Unit))))))))) × ((List (Int × (Int × (Int × (Int × (Int × ((List Int) × (Int × Unit)))))))) × (Int × (Bool × Unit))))) : Bool × Unit := (F_52 a0).getD (dfH [.bool])
noncomputable def s_52 : Summ := shN [Zy52_2] [.bool] (fun x => Sp.p_52 x.1) (fun x => Sp.v_52 x.1)
theorem pv_52 (a0 : ((List (Int × (Int × (Int × (Int × (Int × (Int × (Bool × (Int × Unit))))))))) × ((List (Int × (Int × (Int × (Int × (Int × ((List Int) × (Int × Unit)))))))) × (Int × (Bool × Unit))))) {y : Bool × Unit} (h : F_52 a0 = some y) : Sp.p_52 a0 = true ∧ Sp.v_52 a0 = y := ⟨by rw [Sp.p_52, h]; rfl, by rw [Sp.v_52, h]; rfl⟩
theorem run_52 (x : HDen [Zy52_2]) (y : HDen [.bool]) (h : F_52 x.1 = some y) : evFn sm_52 fns FU 4 52 (ofH [Zy52_2] x) [] (pureK [.bool]) = some y :=
  evFnL_sound (fn := ir52) (t := (ir52_t O_52_52_0)) (o := (fun f' => bif Nat.beq f' 58 then some (g_52_58) else none)) rfl ov_52_52_ok (ir52_tok (fun T k r => OK_52_52_0 T k r)) ((fn_52 _).trans h)
end
end Go.Ev
namespace Go.Ev
open Go
set_option maxRecDepth 100000
set_option maxHeartbeats 4000000
set_option linter.unusedVariables false
noncomputable section

noncomputable def sm_40 : Nat → Option Summ := fun f => bif Nat.beq f 37 then some s_37 else bif Nat.beq f 52 then some s_52 else none


noncomputable def F_40 (a0 : (List ((List Int) × (Int × (Int × ((List Int) × (Int × Unit))))))) (a1 : ((List (Int × (Int × (Int × (Int × (Int × (Int × (Bool × (Int × Unit))))))))) × ((List (Int × (Int × (Int × (Int × (Int × ((List Int) × (Int × Unit)))))))) × (Int × (Bool × Unit))))) : Option (Bool × Unit) :=
  gd (Sp.p_52 a1) (bif (Sp.v_52 a1).1 then gd (Sp.p_37 a0 (↑(List.length (a1.2.1)) : Int)) (some ((Sp.v_37 a0 (↑(List.length (a1.2.1)) : Int)).1, PUnit.unit)) else some (false, PUnit.unit))
theorem fn_40 (a0 : (List ((List Int) × (Int × (Int × ((List Int) × (Int × Unit))))))) (a1 : ((List (Int × (Int × (Int × (Int × (Int × (Int × (Bool × (Int × Unit))))))))) × ((List (Int × (Int × (Int × (Int × (Int × ((List Int) × (Int × Unit)))))))) × (Int × (Bool × Unit))))) : evFnL sm_40 FU (ovr noO (evFn sm_40 fns FU 0)) .nil ir40 (ofH [(.slice (.pair .str (.pair (.int .i64) (.pair (.int .i64) (.pair (.slice (.int .i64)) (.pair (.int .i64) .unit)))))), (.pair (.slice (.pair (.int .i64) (.pair (.int .i64) (.pair (.int .i64) (.pair (.int .i64) (.pair (.int .i64) (.pair (.int .i64) (.pair .bool (.pair (.int .i64) .unit))))))))) (.pair (.slice (.pair (.int .i64) (.pair (.int .i64) (.pair (.int .i64) (.pair (.int .i64) (.pair (.int .i64) (.pair (.slice (.int .i64)) (.pair (.int .i64) .unit)))))))) (.pair (.int .i64) (.pair .bool .unit))))] (a0, a1, ())) [] (pureK [.bool]) = F_40 a0 a1 := by kernel_rfl
noncomputable def Sp.p_40 (a0 : (List ((List Int) × (Int × (Int × ((List Int) × (Int × Unit))))))) (a1 : ((List (Int × (Int × (Int × (Int × (Int × (Int × (Bool × (Int × Unit))))))))) × ((List (Int × (Int × (Int × (Int × (Int × ((List Int) × (Int × Unit)))))))) × (Int × (Bool × Unit))))) : Bool := (F_40 a0 a1).isSome
noncomputable def Sp.v_40 (a0 : (List ((List Int) × (Int × (Int × ((List Int) × (Int × Unit))))))) (a1 : ((List (Int × (Int × (Int × (Int × (Int × (Int × (Bool × (Int × Unit))))))))) × ((List (Int × (Int × (Int × (Int × (Int × ((List Int) × (Int × Unit)))))))) × (Int × (Bool × Unit))))) : Bool × Unit := (F_40 a0 a1).getD (dfH [.bool])
noncomputable def s_40 : Summ := shN [(.slice (.pair .str (.pair (.int .i64) (.pair (.int .i64) (.pair (.slice (.int .i64)) (.pair (.int .i64) .unit)))))), (.pair (.slice (.pair (.int .i64) (.pair (.int .i64) (.pair (.int .i64) (.pair (.int .i64) (.pair (.int .i64) (.pair (.int .i64) (.pair .bool (.pair (.int .i64) .unit))))))))) (.pair (.slice (.pair (.int .i64) (.pair (.int .i64) (.pair (.int .i64) (.pair (.int .i64) (.pair (.int .i64) (.pair (.slice (.int .i64)) (.pair (.int .i64) .unit)))))))) (.pair (.int .i64) (.pair .bool .unit))))] [.bool] (fun x => Sp.p_40 x.1 x.2.1) (fun x => Sp.v_40 x.1 x.2.1)
theorem pv_40 (a0 : (List ((List Int) × (Int × (Int × ((List Int) × (Int × Unit))))))) (a1 : ((List (Int × (Int × (Int × (Int × (Int × (Int × (Bool × (Int × Unit))))))))) × ((List (Int × (Int × (Int × (Int × (Int × ((List Int) × (Int × Unit)))))))) × (Int × (Bool × Unit))))) {y : Bool × Unit} (h : F_40 a0 a1 = some y) : Sp.p_40 a0 a1 = true ∧ Sp.v_40 a0 a1 = y := ⟨by rw [Sp.p_40, h]; rfl, by rw [Sp.v_40, h]; rfl⟩
theorem run_40 (x : HDen [(.slice (.pair .str (.pair (.int .i64) (.pair (.int .i64) (.pair (.slice (.int .i64)) (.pair (.int .i64) .unit)))))), (.pair (.slice (.pair (.int .i64) (.pair (.int .i64) (.pair (.int .i64) (.pair (.int .i64) (.pair (.int .i64) (.pair (.int .i64) (.pair .bool (.pair (.int .i64) .unit))))))))) (.pair (.slice (.pair (.int .i64) (.pair (.int .i64) (.pair (.int .i64) (.pair (.int .i64) (.pair (.int .i64) (.pair (.slice (.int .i64)) (.pair (.int .i64) .unit)))))))) (.pair (.int .i64) (.pair .bool .unit))))]) (y : HDen [.bool]) (h : F_40 x.1 x.2.1 = some y) : evFn sm_40 fns FU 1 40 (ofH [(.slice (.pair .str (.pair (.int .i64) (.pair (.int .i64) (.pair (.slice (.int .i64)) (.pair (.int .i64) .unit)))))), (.pair (.slice (.pair (.int .i64) (.pair (.int .i64) (.pair (.int .i64) (.pair (.int .i64) (.pair (.int .i64) (.pair (.int .i64) (.pair .bool (.pair (.int .i64) .unit))))))))) (.pair (.slice (.pair (.int .i64) (.pair (.int .i64) (.pair (.int .i64) (.pair (.int .i64) (.pair (.int .i64) (.pair (.slice (.int .i64)) (.pair (.int .i64) .unit)))))))) (.pair (.int .i64) (.pair .bool .unit))))] x) [] (pureK [.bool]) = some y :=
  evFnL_sound (fn := ir40) (t := .nil) (o := noO) rfl noO_ok trivial ((fn_40 _ _).trans h)
end
end Go.Ev
namespace Go.Ev
open Go
set_option maxRecDepth 100000
set_option maxHeartbeats 4000000
set_option linter.unusedVariables false
noncomputable section
abbrev Zt19_0 : Type := List (Int × Int × Int × Int × Int × Int × Bool × Int × Unit) × List (Int × Int × Int × Int × Int × List Int × Int × Unit) × Int × Bool × Unit
abbrev Zy19_1 : Ty := (Ty.pair (Ty.slice (Ty.pair (Ty.int IntKind.i64) (Ty.pair (Ty.int IntKind.i64) (Ty.pair (Ty.int IntKind.i64) (Ty.pair (Ty.int IntKind.i64) (Ty.pair (Ty.int IntKind.i64) (Ty.pair (Ty.int IntKind.i64) (Ty.pair Ty.bool (Ty.pair (Ty.int IntKind.i64) Ty.unit))))))))) (Ty.pair (Ty.slice (Ty.pair (Ty.int IntKind.i64) (Ty.pair (Ty.int IntKind.i64) (Ty.pair (Ty.int IntKind.i64) (Ty.pair (Ty.int IntKind.i64) (Ty.pair (Ty.int IntKind.i64) (Ty.pair (Ty.slice (Ty.int IntKind.i64)) (Ty.pair (Ty.int IntKind.i64) Ty.unit)))))))) (Ty.pair (Ty.int IntKind.i64) (Ty.pair Ty.bool Ty.unit))))
abbrev Zy19_2 : Ty := (.pair (.slice (.pair (.int .i64) (.pair (.int .i64) (.pair (.int .i64) (.pair (.int .i64) (.pair (.int .i64) (.pair (.int .i64) (.pair .bool (.pair (.int .i64) .unit))))))))) (.pair (.slice (.pair (.int .i64) (.pair (.int .i64) (.pair (.int .i64) (.pair (.int .i64) (.pair (.int .i64) (.pair (.slice (.int .i64)) (.pair (.int .i64) .unit)))))))) (.pair (.int .i64) (.pair .bool .unit))))
abbrev Zy19_3 : Ty := (Ty.pair (Ty.int IntKind.i64) (Ty.pair (Ty.int IntKind.i64) (Ty.pair (Ty.slice (Ty.int IntKind.i64)) (Ty.pair (Ty.int IntKind.i64) Ty.unit))))
abbrev Zt19_4 : Type := List (Int × List Int × Unit)
abbrev Zt19_5 : Type := List Int × Int × Int × List Int × Int × Unit
abbrev Zy19_6 : Ty := (.pair (.int .i64) (.pair (.int .i64) (.pair (.slice (.int .i64)) (.pair (.int .i64) .unit))))
abbrev Zy19_7 : Ty := (Ty.pair (Ty.int IntKind.i64) (Ty.pair (Ty.slice (Ty.int IntKind.i64)) Ty.unit))
abbrev Zy19_8 : Ty := (.slice (.pair (.int .i64) (.pair (.slice (.int .i64)) .unit)))
abbrev Zt19_9 : Type := List (List Int × Int × Int × List Int × Int × Unit)

abbrev s19_42 : Summ := actS
noncomputable def sm_19 : Nat → Option Summ := fun f => bif Nat.beq f 40 then some s_40 else bif Nat.beq f 42 then some s19_42 else none
noncomputable def T_19_41_0_0 (p0 : Int) (p1 : Zt19_0) (p2 : List Int) (p3 : Int) (p4 : Int) (p5 : Zt19_0) (p6 : Zt19_4) (p7 : Zt19_5) (p8 : List Int) : St := St.mk ([jk, CV.clo (53 : Nat) (CV.pair (CV.ref (Ty.int IntKind.i64) p0) (CV.pair (CV.ref Zy19_1 p1) (CV.pure Ty.unit PUnit.unit))), jk, jk, jk, CV.whole (3 : Nat), jk, jk, jk, CV.pure (Ty.slice (Ty.int IntKind.i64)) p2, CV.int IntKind.i64 p3, CV.int IntKind.i64 p4] ++ (jl 12)) [Blk.mem (CV.pure Zy19_1 p5), Blk.vec (37 : Nat) Zy19_7 p6, Blk.mem (CV.pure (Ty.pair Ty.str Zy19_3) p7), Blk.vec (3 : Nat) (Ty.int IntKind.i64) p8] (3 : Nat)
noncomputable def X_19_41_0_0_0 (p5 : Zt19_0) (p6 : Zt19_4) (p7 : Zt19_5) (p8 : List Int) : St := St.mk ([jk, jk, jk, jk, jk, CV.whole (3 : Nat)] ++ (jl 18)) [Blk.mem (CV.pure Zy19_1 p5), Blk.vec (37 : Nat) Zy19_7 p6, Blk.mem (CV.pure (Ty.pair Ty.str Zy19_3) p7), Blk.vec (3 : Nat) (Ty.int IntKind.i64) p8] (3 : Nat)
inductive Sp.E_19_41_0_0 where
  | e0 (p5 : Zt19_0) (p6 : Zt19_4) (p7 : Zt19_5) (p8 : List Int)
noncomputable def Sp.B_19_41_0_0 {R : Type} (r : Option Sp.E_19_41_0_0) (k0 : (Zt19_0) → (Zt19_4) → (Zt19_5) → (List Int) → Option R) : Option R := match r with
  | none => none
  | some (.e0 p5 p6 p7 p8) => k0 p5 p6 p7 p8
noncomputable def Sp.L_19_41_0_0 : Nat → (Int) → (List (Int × Int × Int × Int × Int × Int × Bool × Int × Unit) × List (Int × Int × Int × Int × Int × List Int × Int × Unit) × Int × Bool × Unit) → (List Int) → (Int) → (Int) → (List (Int × Int × Int × Int × Int × Int × Bool × Int × Unit) × List (Int × Int × Int × Int × Int × List Int × Int × Unit) × Int × Bool × Unit) → (List (Int × List Int × Unit)) → (List Int × Int × Int × List Int × Int × Unit) → (List Int) → Option Sp.E_19_41_0_0
  | 0, _, _, _, _, _, _, _, _, _ => none
  | m + 1, p0, p1, p2, p3, p4, p5, p6, p7, p8 => bif decide (p4 < p3) then gd (inB p4 (List.length p2)) (bif List.getD p2 (Int.toNat p4) (0 : Int) != p0 then gd (inB (List.getD p2 (Int.toNat p4) (0 : Int)) (List.length (p1.2.1))) (bif Sp.andI IntKind.i64 ((List.getD (p1.2.1) (Int.toNat (List.getD p2 (Int.toNat p4) (0 : Int))) Zd2).1) (5 : Int) != (0 : Int) then gd (room (List.length p8 + (1 : Nat)) (8 : Nat)) (Sp.L_19_41_0_0 m p0 p1 p2 p3 (IntKind.wrap IntKind.i64 (p4 + (1 : Int))) p5 p6 p7 (p8 ++ [List.getD p2 (Int.toNat p4) (0 : Int)])) else Sp.L_19_41_0_0 m p0 p1 p2 p3 (IntKind.wrap IntKind.i64 (p4 + (1 : Int))) p5 p6 p7 p8) else Sp.L_19_41_0_0 m p0 p1 p2 p3 (IntKind.wrap IntKind.i64 (p4 + (1 : Int))) p5 p6 p7 p8) else some (Sp.E_19_41_0_0.e0 p5 p6 p7 p8)
noncomputable def G_19_41_0_0 {R : Type} (p0 : Int) (p1 : Zt19_0) (p2 : List Int) (p3 : Int) (p4 : Int) (p5 : Zt19_0) (p6 : Zt19_4) (p7 : Zt19_5) (p8 : List Int) (k : Ex → St → Option R) : Option R := Sp.B_19_41_0_0 (Sp.L_19_41_0_0 FU p0 p1 p2 p3 p4 p5 p6 p7 p8) (fun p5 p6 p7 p8 => k (Ex.exit (0 : Nat)) (X_19_41_0_0_0 p5 p6 p7 p8))
noncomputable def o_19_41_0_0 {R : Type} (G : (Int) → (Zt19_0) → (List Int) → (Int) → (Int) → (Zt19_0) → (Zt19_4) → (Zt19_5) → (List Int) → (Ex → St → Option R) → Option R) : St → (Ex → St → Option R) → Option R := fun T k => match T.sl.getD 1 .junk, T.sl.getD 5 .junk, T.sl.getD 9 .junk, T.sl.getD 10 .junk, T.sl.getD 11 .junk, T.hp with
  | CV.clo (53 : Nat) (CV.pair (CV.ref (Ty.int IntKind.i64) p0) (CV.pair (CV.ref (Ty.pair (Ty.slice (Ty.pair (Ty.int IntKind.i64) (Ty.pair (Ty.int IntKind.i64) (Ty.pair (Ty.int IntKind.i64) (Ty.pair (Ty.int IntKind.i64) (Ty.pair (Ty.int IntKind.i64) (Ty.pair (Ty.int IntKind.i64) (Ty.pair Ty.bool (Ty.pair (Ty.int IntKind.i64) Ty.unit))))))))) (Ty.pair (Ty.slice (Ty.pair (Ty.int IntKind.i64) (Ty.pair (Ty.int IntKind.i64) (Ty.pair (Ty.int IntKind.i64) (Ty.pair (Ty.int IntKind.i64) (Ty.pair (Ty.int IntKind.i64) (Ty.pair (Ty.slice (Ty.int IntKind.i64)) (Ty.pair (Ty.int IntKind.i64) Ty.unit)))))))) (Ty.pair (Ty.int IntKind.i64) (Ty.pair Ty.bool Ty.unit)))) p1) (CV.pure Ty.unit PUnit.unit))), CV.whole (3 : Nat), CV.pure (Ty.slice (Ty.int IntKind.i64)) p2, CV.int IntKind.i64 p3, CV.int IntKind.i64 p4, ((Blk.mem (CV.pure (Ty.pair (Ty.slice (Ty.pair (Ty.int IntKind.i64) (Ty.pair (Ty.int IntKind.i64) (Ty.pair (Ty.int IntKind.i64) (Ty.pair (Ty.int IntKind.i64) (Ty.pair (Ty.int IntKind.i64) (Ty.pair (Ty.int IntKind.i64) (Ty.pair Ty.bool (Ty.pair (Ty.int IntKind.i64) Ty.unit))))))))) (Ty.pair (Ty.slice (Ty.pair (Ty.int IntKind.i64) (Ty.pair (Ty.int IntKind.i64) (Ty.pair (Ty.int IntKind.i64) (Ty.pair (Ty.int IntKind.i64) (Ty.pair (Ty.int IntKind.i64) (Ty.pair (Ty.slice (Ty.int IntKind.i64)) (Ty.pair (Ty.int IntKind.i64) Ty.unit)))))))) (Ty.pair (Ty.int IntKind.i64) (Ty.pair Ty.bool Ty.unit)))) p5)) :: (Blk.vec (37 : Nat) (Ty.pair (Ty.int IntKind.i64) (Ty.pair (Ty.slice (Ty.int IntKind.i64)) Ty.unit)) p6) :: (Blk.mem (CV.pure (Ty.pair Ty.str (Ty.pair (Ty.int IntKind.i64) (Ty.pair (Ty.int IntKind.i64) (Ty.pair (Ty.slice (Ty.int IntKind.i64)) (Ty.pair (Ty.int IntKind.i64) Ty.unit))))) p7)) :: (Blk.vec (3 : Nat) (Ty.int IntKind.i64) p8) :: []) => gd (shapeOK T 24 [1, 5, 9, 10, 11] (3 : Nat)) (G p0 p1 p2 p3 p4 p5 p6 p7 p8 k)
  | _, _, _, _, _, _ => none
theorem o_19_41_0_0_inv {R : Type} {G : (Int) → (Zt19_0) → (List Int) → (Int) → (Int) → (Zt19_0) → (Zt19_4) → (Zt19_5) → (List Int) → (Ex → St → Option R) → Option R} {T : St} {k : Ex → St → Option R} {r : R} (h : o_19_41_0_0 G T k = some r) : ∃ p0 p1 p2 p3 p4 p5 p6 p7 p8, T = T_19_41_0_0 p0 p1 p2 p3 p4 p5 p6 p7 p8 ∧ G p0 p1 p2 p3 p4 p5 p6 p7 p8 k = some r := by
  unfold o_19_41_0_0 at h
  split at h
  · obtain ⟨hs, h'⟩ := gd_some h
    refine ⟨_, _, _, _, _, _, _, _, _, (st_of (asg := [(1, _), (5, _), (9, _), (10, _), (11, _)]) hs ⟨by assumption, by assumption, by assumption, by assumption, by assumption, trivial⟩ (by assumption)).trans ?_, h'⟩
    kernel_rfl
  · cases h
noncomputable def T_19_43_0_0 (p0 : Int) (p1 : Zt19_0) (p2 : Zt19_9) (p3 : Int) (p4 : Int) (p5 : Zt19_0) (p6 : Zt19_4) : St := St.mk ([jk, CV.clo (53 : Nat) (CV.pair (CV.ref (Ty.int IntKind.i64) p0) (CV.pair (CV.ref Zy19_1 p1) (CV.pure Ty.unit PUnit.unit))), jk, jk, jk, CV.whole (1 : Nat), jk, jk, jk, CV.pure (Ty.slice (Ty.pair Ty.str Zy19_3)) p2, CV.int IntKind.i64 p3, CV.int IntKind.i64 p4] ++ (jl 18)) [Blk.mem (CV.pure Zy19_1 p5), Blk.vec (37 : Nat) Zy19_7 p6] (1 : Nat)
noncomputable def X_19_43_0_0_0 (p5 : Zt19_0) (p6 : Zt19_4) : St := St.mk ([jk, jk, jk, jk, jk, CV.whole (1 : Nat)] ++ (jl 24)) [Blk.mem (CV.pure Zy19_1 p5), Blk.vec (37 : Nat) Zy19_7 p6] (1 : Nat)
inductive Sp.E_19_43_0_0 where
  | e0 (p5 : Zt19_0) (p6 : Zt19_4)
noncomputable def Sp.B_19_43_0_0 {R : Type} (r : Option Sp.E_19_43_0_0) (k0 : (Zt19_0) → (Zt19_4) → Option R) : Option R := match r with
  | none => none
  | some (.e0 p5 p6) => k0 p5 p6
noncomputable def Sp.L_19_43_0_0 : Nat → (Int) → (List (Int × Int × Int × Int × Int × Int × Bool × Int × Unit) × List (Int × Int × Int × Int × Int × List Int × Int × Unit) × Int × Bool × Unit) → (List (List Int × Int × Int × List Int × Int × Unit)) → (Int) → (Int) → (List (Int × Int × Int × Int × Int × Int × Bool × Int × Unit) × List (Int × Int × Int × Int × Int × List Int × Int × Unit) × Int × Bool × Unit) → (List (Int × List Int × Unit)) → Option Sp.E_19_43_0_0
  | 0, _, _, _, _, _, _, _ => none
  | m + 1, p0, p1, p2, p3, p4, p5, p6 => bif decide (p4 < p3) then gd (inB p4 (List.length p2)) (Sp.B_19_41_0_0 (Sp.L_19_41_0_0 (4611686018427387904 : Nat) p0 p1 ((List.getD p2 (Int.toNat p4) (Ty.dflt (Ty.pair Ty.str (Ty.pair (Ty.int IntKind.i64) (Ty.pair (Ty.int IntKind.i64) (Ty.pair (Ty.slice (Ty.int IntKind.i64)) (Ty.pair (Ty.int IntKind.i64) Ty.unit))))))).2.2.2.1) (↑(List.length ((List.getD p2 (Int.toNat p4) (Ty.dflt (Ty.pair Ty.str (Ty.pair (Ty.int IntKind.i64) (Ty.pair (Ty.int IntKind.i64) (Ty.pair (Ty.slice (Ty.int IntKind.i64)) (Ty.pair (Ty.int IntKind.i64) Ty.unit))))))).2.2.2.1)) : Int) (0 : Int) p5 p6 (List.getD p2 (Int.toNat p4) (Ty.dflt (Ty.pair Ty.str (Ty.pair (Ty.int IntKind.i64) (Ty.pair (Ty.int IntKind.i64) (Ty.pair (Ty.slice (Ty.int IntKind.i64)) (Ty.pair (Ty.int IntKind.i64) Ty.unit))))))) []) fun y4 y5 y6 y7 => bif decide ((↑(List.length y7) : Int) > (0 : Int)) then gd (room (List.length y5 + (1 : Nat)) (32 : Nat)) (Sp.L_19_43_0_0 m p0 p1 p2 p3 (IntKind.wrap IntKind.i64 (p4 + (1 : Int))) y4 (y5 ++ [(p4, y7, PUnit.unit)])) else Sp.L_19_43_0_0 m p0 p1 p2 p3 (IntKind.wrap IntKind.i64 (p4 + (1 : Int))) y4 y5) else some (Sp.E_19_43_0_0.e0 p5 p6)
noncomputable def G_19_43_0_0 {R : Type} (p0 : Int) (p1 : Zt19_0) (p2 : Zt19_9) (p3 : Int) (p4 : Int) (p5 : Zt19_0) (p6 : Zt19_4) (k : Ex → St → Option R) : Option R := Sp.B_19_43_0_0 (Sp.L_19_43_0_0 FU p0 p1 p2 p3 p4 p5 p6) (fun p5 p6 => k (Ex.exit (0 : Nat)) (X_19_43_0_0_0 p5 p6))
noncomputable def o_19_43_0_0 {R : Type} (G : (Int) → (Zt19_0) → (Zt19_9) → (Int) → (Int) → (Zt19_0) → (Zt19_4) → (Ex → St → Option R) → Option R) : St → (Ex → St → Option R) → Option R := fun T k => match T.sl.getD 1 .junk, T.sl.getD 5 .junk, T.sl.getD 9 .junk, T.sl.getD 10 .junk, T.sl.getD 11 .junk, T.hp with
  | CV.clo (53 : Nat) (CV.pair (CV.ref (Ty.int IntKind.i64) p0) (CV.pair (CV.ref (Ty.pair (Ty.slice (Ty.pair (Ty.int IntKind.i64) (Ty.pair (Ty.int IntKind.i64) (Ty.pair (Ty.int IntKind.i64) (Ty.pair (Ty.int IntKind.i64) (Ty.pair (Ty.int IntKind.i64) (Ty.pair (Ty.int IntKind.i64) (Ty.pair Ty.bool (Ty.pair (Ty.int IntKind.i64) Ty.unit))))))))) (Ty.pair (Ty.slice (Ty.pair (Ty.int IntKind.i64) (Ty.pair (Ty.int IntKind.i64) (Ty.pair (Ty.int IntKind.i64) (Ty.pair (Ty.int IntKind.i64) (Ty.pair (Ty.int IntKind.i64) (Ty.pair (Ty.slice (Ty.int IntKind.i64)) (Ty.pair (Ty.int IntKind.i64) Ty.unit)))))))) (Ty.pair (Ty.int IntKind.i64) (Ty.pair Ty.bool Ty.unit)))) p1) (CV.pure Ty.unit PUnit.unit))), CV.whole (1 : Nat), CV.pure (Ty.slice (Ty.pair Ty.str (Ty.pair (Ty.int IntKind.i64) (Ty.pair (Ty.int IntKind.i64) (Ty.pair (Ty.slice (Ty.int IntKind.i64)) (Ty.pair (Ty.int IntKind.i64) Ty.unit)))))) p2, CV.int IntKind.i64 p3, CV.int IntKind.i64 p4, ((Blk.mem (CV.pure (Ty.pair (Ty.slice (Ty.pair (Ty.int IntKind.i64) (Ty.pair (Ty.int IntKind.i64) (Ty.pair (Ty.int IntKind.i64) (Ty.pair (Ty.int IntKind.i64) (Ty.pair (Ty.int IntKind.i64) (Ty.pair (Ty.int IntKind.i64) (Ty.pair Ty.bool (Ty.pair (Ty.int IntKind.i64) Ty.unit))))))))) (Ty.pair (Ty.slice (Ty.pair (Ty.int IntKind.i64) (Ty.pair (Ty.int IntKind.i64) (Ty.pair (Ty.int IntKind.i64) (Ty.pair (Ty.int IntKind.i64) (Ty.pair (Ty.int IntKind.i64) (Ty.pair (Ty.slice (Ty.int IntKind.i64)) (Ty.pair (Ty.int IntKind.i64) Ty.unit)))))))) (Ty.pair (Ty.int IntKind.i64) (Ty.pair Ty.bool Ty.unit)))) p5)) :: (Blk.vec (37 : Nat) (Ty.pair (Ty.int IntKind.i64) (Ty.pair (Ty.slice (Ty.int IntKind.i64)) Ty.unit)) p6) :: []) => gd (shapeOK T 30 [1, 5, 9, 10, 11] (1 : Nat)) (G p0 p1 p2 p3 p4 p5 p6 k)
  | _, _, _, _, _, _ => none
theorem o_19_43_0_0_inv {R : Type} {G : (Int) → (Zt19_0) → (Zt19_9) → (Int) → (Int) → (Zt19_0) → (Zt19_4) → (Ex → St → Option R) → Option R} {T : St} {k : Ex → St → Option R} {r : R} (h : o_19_43_0_0 G T k = some r) : ∃ p0 p1 p2 p3 p4 p5 p6, T = T_19_43_0_0 p0 p1 p2 p3 p4 p5 p6 ∧ G p0 p1 p2 p3 p4 p5 p6 k = some r := by
  unfold o_19_43_0_0 at h
  split at h
  · obtain ⟨hs, h'⟩ := gd_some h
    refine ⟨_, _, _, _, _, _, _, (st_of (asg := [(1, _), (5, _), (9, _), (10, _), (11, _)]) hs ⟨by assumption, by assumption, by assumption, by assumption, by assumption, trivial⟩ (by assumption)).trans ?_, h'⟩
    kernel_rfl
  · cases h
noncomputable def O_19_41_0 {R : Type} : St → (Ex → St → Option R) → Option R := fun T k => o_19_41_0_0 G_19_41_0_0 T k
noncomputable def O_19_43_0 {R : Type} : St → (Ex → St → Option R) → Option R := fun T k => o_19_43_0_0 G_19_43_0_0 T k
noncomputable def g_19_41 {R : Type} : List CV → List Blk → (CV → List Blk → Option R) → Option R := evFnL sm_19 FU (ovr noO (evFn sm_19 fns FU 1)) (ir41_t O_19_41_0) ir41
noncomputable def g_19_43 {R : Type} : List CV → List Blk → (CV → List Blk → Option R) → Option R := evFnL sm_19 FU (ovr (fun f' => bif Nat.beq f' 41 then some (g_19_41) else none) (evFn sm_19 fns FU 2)) (ir43_t O_19_43_0) ir43
theorem body_19_41_0_0 {R : Type} (K0 : St → Option R) (K1 : Ex → St → Option R) (p0 : Int) (p1 : Zt19_0) (p2 : List Int) (p3 : Int) (p4 : Int) (p5 : Zt19_0) (p6 : Zt19_4) (p7 : Zt19_5) (p8 : List Int) : evLB (evCodeL sm_19 FU (ovr noO (evFn sm_19 fns FU 1)) .nil ir41_b0) (St.norm ir41_v0) (T_19_41_0_0 p0 p1 p2 p3 p4 p5 p6 p7 p8) K0 K1 =
  bif decide (p4 < p3) then gd (inB p4 (List.length p2)) (bif List.getD p2 (Int.toNat p4) (0 : Int) != p0 then gd (inB (List.getD p2 (Int.toNat p4) (0 : Int)) (List.length (p1.2.1))) (bif Sp.andI IntKind.i64 ((List.getD (p1.2.1) (Int.toNat (List.getD p2 (Int.toNat p4) (0 : Int))) Zd2).1) (5 : Int) != (0 : Int) then gd (room (List.length p8 + (1 : Nat)) (8 : Nat)) (K0 (T_19_41_0_0 p0 p1 p2 p3 (IntKind.wrap IntKind.i64 (p4 + (1 : Int))) p5 p6 p7 (p8 ++ [List.getD p2 (Int.toNat p4) (0 : Int)]))) else K0 (T_19_41_0_0 p0 p1 p2 p3 (IntKind.wrap IntKind.i64 (p4 + (1 : Int))) p5 p6 p7 p8)) else K0 (T_19_41_0_0 p0 p1 p2 p3 (IntKind.wrap IntKind.i64 (p4 + (1 : Int))) p5 p6 p7 p8)) else K1 (Ex.exit (0 : Nat)) (X_19_41_0_0_0 p5 p6 p7 p8) := by kernel_rfl
theorem Bgd_19_41_0_0 {R : Type} {c : Bool} {x : Option R} {y : Option Sp.E_19_41_0_0} {k0 : (Zt19_0) → (Zt19_4) → (Zt19_5) → (List Int) → Option R} (h : x = Sp.B_19_41_0_0 y k0) : gd c x = Sp.B_19_41_0_0 (gd c y) k0 := by cases c; rfl; exact h
theorem Bcond_19_41_0_0 {R : Type} {c : Bool} {x x' : Option R} {y y' : Option Sp.E_19_41_0_0} {k0 : (Zt19_0) → (Zt19_4) → (Zt19_5) → (List Int) → Option R} (h : x = Sp.B_19_41_0_0 y k0) (h' : x' = Sp.B_19_41_0_0 y' k0) : (bif c then x else x') = Sp.B_19_41_0_0 (bif c then y else y') k0 := by cases c; exact h'; exact h
theorem loop_19_41_0_0 {R : Type} (k : Ex → St → Option R) : ∀ (m : Nat) (p0 : Int) (p1 : Zt19_0) (p2 : List Int) (p3 : Int) (p4 : Int) (p5 : Zt19_0) (p6 : Zt19_4) (p7 : Zt19_5) (p8 : List Int), evLoopN (evCodeL sm_19 FU (ovr noO (evFn sm_19 fns FU 1)) .nil ir41_b0) (St.norm ir41_v0) m (T_19_41_0_0 p0 p1 p2 p3 p4 p5 p6 p7 p8) k = Sp.B_19_41_0_0 (Sp.L_19_41_0_0 m p0 p1 p2 p3 p4 p5 p6 p7 p8) (fun p5 p6 p7 p8 => k (Ex.exit (0 : Nat)) (X_19_41_0_0_0 p5 p6 p7 p8))
  | 0, _, _, _, _, _, _, _, _, _ => rfl
  | m + 1, p0, p1, p2, p3, p4, p5, p6, p7, p8 => by
    rw [evLoopN_succ, body_19_41_0_0, Sp.L_19_41_0_0]
    repeat' first | apply Bgd_19_41_0_0 | apply Bcond_19_41_0_0 | exact loop_19_41_0_0 k m _ _ _ _ _ _ _ _ _ | rfl
theorem ok_19_41_0_0 {R : Type} (T : St) (k : Ex → St → Option R) (r : R) (h0 : o_19_41_0_0 G_19_41_0_0 T k = some r) : evLoopN (evCode sm_19 FU (evFn sm_19 fns FU 1) ir41_b0) (St.norm ir41_v0) FU T k = some r := by
  obtain ⟨p0, p1, p2, p3, p4, p5, p6, p7, p8, rfl, h⟩ := o_19_41_0_0_inv h0
  refine evLoopN_L (t := .nil) noO_ok trivial _ _ _ _ ?_
  rw [loop_19_41_0_0]
  exact h
theorem OK_19_41_0 {R : Type} (T : St) (k : Ex → St → Option R) (r : R) (h : O_19_41_0 T k = some r) : evLoopN (evCode sm_19 FU (evFn sm_19 fns FU 1) ir41_b0) (St.norm ir41_v0) FU T k = some r := ok_19_41_0_0 T k r h
theorem g_19_41_ok {R : Type} (args : List CV) (hp : List Blk) (k : CV → List Blk → Option R) (r : R) (h : g_19_41 args hp k = some r) : evFn sm_19 fns FU 2 41 args hp k = some r :=
  evFnL_sound (fn := ir41) (t := (ir41_t O_19_41_0)) (o := noO) rfl noO_ok (ir41_tok (fun T k r => OK_19_41_0 T k r)) h
theorem ov_19_43_ok {R : Type} : OvrOK (R := R) (fun f' => bif Nat.beq f' 41 then some (g_19_41) else none) (evFn sm_19 fns FU 2) := by
  intro f' g h args hp k r hg
  dsimp only at h
  by_cases h41 : f' = 41
  · subst h41
    injection h with h
    subst h
    exact evFn_le 0 (g_19_41_ok _ _ _ _ hg)
  rw [nbeq_ne h41, cond_false] at h
  cases h
theorem body_19_43_0_0 {R : Type} (K0 : St → Option R) (K1 : Ex → St → Option R) (p0 : Int) (p1 : Zt19_0) (p2 : Zt19_9) (p3 : Int) (p4 : Int) (p5 : Zt19_0) (p6 : Zt19_4) : evLB (evCodeL sm_19 FU (ovr (fun f' => bif Nat.beq f' 41 then some (g_19_41) else none) (evFn sm_19 fns FU 2)) .nil ir43_b0) (St.norm ir43_v0) (T_19_43_0_0 p0 p1 p2 p3 p4 p5 p6) K0 K1 =
  bif decide (p4 < p3) then gd (inB p4 (List.length p2)) (Sp.B_19_41_0_0 (Sp.L_19_41_0_0 (4611686018427387904 : Nat) p0 p1 ((List.getD p2 (Int.toNat p4) (Ty.dflt (Ty.pair Ty.str Zy19_3))).2.2.2.1) (↑(List.length ((List.getD p2 (Int.toNat p4) (Ty.dflt (Ty.pair Ty.str Zy19_3))).2.2.2.1)) : Int) (0 : Int) p5 p6 (List.getD p2 (Int.toNat p4) (Ty.dflt (Ty.pair Ty.str Zy19_3))) []) fun y4 y5 y6 y7 => bif decide ((↑(List.length y7) : Int) > (0 : Int)) then gd (room (List.length y5 + (1 : Nat)) (32 : Nat)) (K0 (T_19_43_0_0 p0 p1 p2 p3 (IntKind.wrap IntKind.i64 (p4 + (1 : Int))) y4 (y5 ++ [(p4, y7, PUnit.unit)]))) else K0 (T_19_43_0_0 p0 p1 p2 p3 (IntKind.wrap IntKind.i64 (p4 + (1 : Int))) y4 y5)) else K1 (Ex.exit (0 : Nat)) (X_19_43_0_0_0 p5 p6) := by kernel_rfl
theorem Bgd_19_43_0_0 {R : Type} {c : Bool} {x : Option R} {y : Option Sp.E_19_43_0_0} {k0 : (Zt19_0) → (Zt19_4) → Option R} (h : x = Sp.B_19_43_0_0 y k0) : gd c x = Sp.B_19_43_0_0 (gd c y) k0 := by cases c; rfl; exact h
theorem Bcond_19_43_0_0 {R : Type} {c : Bool} {x x' : Option R} {y y' : Option Sp.E_19_43_0_0} {k0 : (Zt19_0) → (Zt19_4) → Option R} (h : x = Sp.B_19_43_0_0 y k0) (h' : x' = Sp.B_19_43_0_0 y' k0) : (bif c then x else x') = Sp.B_19_43_0_0 (bif c then y else y') k0 := by cases c; exact h'; exact h
theorem Bin_19_43_0_0_19_41_0_0 {R : Type} {r : Option Sp.E_19_41_0_0} {k0 : (Zt19_0) → (Zt19_4) → Option R} {f0 : (Zt19_0) → (Zt19_4) → (Zt19_5) → (List Int) → Option R} {g0 : (Zt19_0) → (Zt19_4) → (Zt19_5) → (List Int) → Option Sp.E_19_43_0_0} (h0 : ∀ z0 z1 z2 z3, f0 z0 z1 z2 z3 = Sp.B_19_43_0_0 (g0 z0 z1 z2 z3) k0) : Sp.B_19_41_0_0 r f0 = Sp.B_19_43_0_0 (Sp.B_19_41_0_0 r g0) k0 := by
  cases r with
  | none => rfl
  | some e => cases e with
    | e0 z0 z1 z2 z3 => exact h0 _ _ _ _
theorem loop_19_43_0_0 {R : Type} (k : Ex → St → Option R) : ∀ (m : Nat) (p0 : Int) (p1 : Zt19_0) (p2 : Zt19_9) (p3 : Int) (p4 : Int) (p5 : Zt19_0) (p6 : Zt19_4), evLoopN (evCodeL sm_19 FU (ovr (fun f' => bif Nat.beq f' 41 then some (g_19_41) else none) (evFn sm_19 fns FU 2)) .nil ir43_b0) (St.norm ir43_v0) m (T_19_43_0_0 p0 p1 p2 p3 p4 p5 p6) k = Sp.B_19_43_0_0 (Sp.L_19_43_0_0 m p0 p1 p2 p3 p4 p5 p6) (fun p5 p6 => k (Ex.exit (0 : Nat)) (X_19_43_0_0_0 p5 p6))
  | 0, _, _, _, _, _, _, _ => rfl
  | m + 1, p0, p1, p2, p3, p4, p5, p6 => by
    rw [evLoopN_succ, body_19_43_0_0, Sp.L_19_43_0_0]
    repeat' first | apply Bgd_19_43_0_0 | apply Bcond_19_43_0_0 | (apply Bin_19_43_0_0_19_41_0_0 <;> intros) | exact loop_19_43_0_0 k m _ _ _ _ _ _ _ | rfl
theorem ok_19_43_0_0 {R : Type} (T : St) (k : Ex → St → Option R) (r : R) (h0 : o_19_43_0_0 G_19_43_0_0 T k = some r) : evLoopN (evCode sm_19 FU (evFn sm_19 fns FU 2) ir43_b0) (St.norm ir43_v0) FU T k = some r := by
  obtain ⟨p0, p1, p2, p3, p4, p5, p6, rfl, h⟩ := o_19_43_0_0_inv h0
  refine evLoopN_L (t := .nil) ov_19_43_ok trivial _ _ _ _ ?_
  rw [loop_19_43_0_0]
  exact h
theorem OK_19_43_0 {R : Type} (T : St) (k : Ex → St → Option R) (r : R) (h : O_19_43_0 T k = some r) : evLoopN (evCode sm_19 FU (evFn sm_19 fns FU 2) ir43_b0) (St.norm ir43_v0) FU T k = some r := ok_19_43_0_0 T k r h
theorem g_19_43_ok {R : Type} (args : List CV) (hp : List Blk) (k : CV → List Blk → Option R) (r : R) (h : g_19_43 args hp k = some r) : evFn sm_19 fns FU 3 43 args hp k = some r :=
  evFnL_sound (fn := ir43) (t := (ir43_t O_19_43_0)) (o := (fun f' => bif Nat.beq f' 41 then some (g_19_41) else none)) rfl ov_19_43_ok (ir43_tok (fun T k r => OK_19_43_0 T k r)) h
theorem ov_19_19_ok {R : Type} : OvrOK (R := R) (fun f' => bif Nat.beq f' 43 then some (g_19_43) else none) (evFn sm_19 fns FU 3) := by
  intro f' g h args hp k r hg
  dsimp only at h
  by_cases h43 : f' = 43
  · subst h43
    injection h with h
    subst h
    exact evFn_le 0 (g_19_43_ok _ _ _ _ hg)
  rw [nbeq_ne h43, cond_false] at h
  cases h
noncomputable def F_19 (a0 : (List ((List Int) × (Int × (Int × ((List Int) × (Int × Unit))))))) (a1 : ((List (Int × (Int × (Int × (Int × (Int × (Int × (Bool × (Int × Unit))))))))) × ((List (Int × (Int × (Int × (Int × (Int × ((List Int) × (Int × Unit)))))))) × (Int × (Bool × Unit))))) : Option ((List (Int × ((List Int) × Unit))) × Int × Unit) :=
  gd (Sp.p_40 a0 a1) (bif !(Sp.v_40 a0 a1).1 then some ([], (1 : Int), PUnit.unit) else Sp.B_19_43_0_0 (Sp.L_19_43_0_0 (4611686018427387904 : Nat) (-1 : Int) a1 a0 (↑(List.length a0) : Int) (0 : Int) a1 []) fun y2 y3 => some (y3, (0 : Int), PUnit.unit))
theorem fn_19 (a0 : (List ((List Int) × (Int × (Int × ((List Int) × (Int × Unit))))))) (a1 : ((List (Int × (Int × (Int × (Int × (Int × (Int × (Bool × (Int × Unit))))))))) × ((List (Int × (Int × (Int × (Int × (Int × ((List Int) × (Int × Unit)))))))) × (Int × (Bool × Unit))))) : evFnL sm_19 FU (ovr (fun f' => bif Nat.beq f' 43 then some (g_19_43) else none) (evFn sm_19 fns FU 3)) .nil ir19 (ofH [(.slice (.pair .str Zy19_6)), Zy19_2] (a0, a1, ())) [] (pureK [Zy19_8, (.int .i64)]) = F_19 a0 a1 := by kernel_rfl
noncomputable def Sp.p_19 (a0 : (List ((List Int) × (Int × (Int × ((List Int) × (Int × Unit))))))) (a1 : ((List (Int × (Int × (Int × (Int × (Int × (Int × (Bool × (Int × Unit))))))))) × ((List (Int × (Int × (Int × (Int × (Int × ((List Int) × (Int × Unit)))))))) × (Int × (Bool × Unit))))) : Bool := (F_19 a0 a1).isSome
noncomputable def Sp.v_19 (a0 : (List ((List Int) × (Int × (Int × ((List Int) × (Int × Unit))))))) (a1 : ((List (Int × (Int × (Int × (Int × (Int × (Int × (Bool × (Int × Unit))))))))) × ((List (Int × (Int × (Int × (Int × (Int × ((List Int) × (Int × Unit)))))))) × (Int × (Bool × Unit))))) : (List (Int × ((List Int) × Unit))) × Int × Unit := (F_19 a0 a1).getD (dfH [Zy19_8, (.int .i64)])
noncomputable def s_19 : Summ := shS [(.slice (.pair .str Zy19_6)), Zy19_2] [Zy19_8, (.int .i64)] (fun x => Sp.p_19 x.1 x.2.1) (fun x => Sp.v_19 x.1 x.2.1)
theorem pv_19 (a0 : (List ((List Int) × (Int × (Int × ((List Int) × (Int × Unit))))))) (a1 : ((List (Int × (Int × (Int × (Int × (Int × (Int × (Bool × (Int × Unit))))))))) × ((List (Int × (Int × (Int × (Int × (Int × ((List Int) × (Int × Unit)))))))) × (Int × (Bool × Unit))))) {y : (List (Int × ((List Int) × Unit))) × Int × Unit} (h : F_19 a0 a1 = some y) : Sp.p_19 a0 a1 = true ∧ Sp.v_19 a0 a1 = y := ⟨by rw [Sp.p_19, h]; rfl, by rw [Sp.v_19, h]; rfl⟩
theorem run_19 (x : HDen [(.slice (.pair .str Zy19_6)), Zy19_2]) (y : HDen [Zy19_8, (.int .i64)]) (h : F_19 x.1 x.2.1 = some y) : evFn sm_19 fns FU 4 19 (ofH [(.slice (.pair .str Zy19_6)), Zy19_2] x) [] (pureK [Zy19_8, (.int .i64)]) = some y :=
  evFnL_sound (fn := ir19) (t := .nil) (o := (fun f' => bif Nat.beq f' 43 then some (g_19_43) else none)) rfl ov_19_19_ok trivial ((fn_19 _ _).trans h)
end
end Go.Ev
namespace Go.Ev
open Go
set_option maxRecDepth 100000
set_option maxHeartbeats 4000000
set_option linter.unusedVariables false
noncomputable section
abbrev Zt25_0 : Type := List (Int × Int × Int × Int × Int × Int × Bool × Int × Unit) × List (Int × Int × Int × Int × Int × List Int × Int × Unit) × Int × Bool × Unit
abbrev Zy25_1 : Ty := (Ty.pair (Ty.slice (Ty.pair (Ty.int IntKind.i64) (Ty.pair (Ty.int IntKind.i64) (Ty.pair (Ty.int IntKind.i64) (Ty.pair (Ty.int IntKind.i64) (Ty.pair (Ty.int IntKind.i64) (Ty.pair (Ty.int IntKind.i64) (Ty.pair Ty.bool (Ty.pair (Ty.int IntKind.i64) Ty.unit))))))))) (Ty.pair (Ty.slice (Ty.pair (Ty.int IntKind.i64) (Ty.pair (Ty.int IntKind.i64) (Ty.pair (Ty.int IntKind.i64) (Ty.pair (Ty.int IntKind.i64) (Ty.pair (Ty.int IntKind.i64) (Ty.pair (Ty.slice (Ty.int IntKind.i64)) (Ty.pair (Ty.int IntKind.i64) Ty.unit)))))))) (Ty.pair (Ty.int IntKind.i64) (Ty.pair Ty.bool Ty.unit))))
abbrev Zy25_2 : Ty := (.pair (.slice (.pair (.int .i64) (.pair (.int .i64) (.pair (.int .i64) (.pair (.int .i64) (.pair (.int .i64) (.pair (.int .i64) (.pair .bool (.pair (.int .i64) .unit))))))))) (.pair (.slice (.pair (.int .i64) (.pair (.int .i64) (.pair (.int .i64) (.pair (.int .i64) (.pair (.int .i64) (.pair (.slice (.int .i64)) (.pair (.int .i64) .unit)))))))) (.pair (.int .i64) (.pair .bool .unit))))
abbrev Zy25_3 : Ty := (Ty.pair (Ty.int IntKind.i64) (Ty.pair (Ty.int IntKind.i64) (Ty.pair (Ty.slice (Ty.int IntKind.i64)) (Ty.pair (Ty.int IntKind.i64) Ty.unit))))
abbrev Zt25_4 : Type := List (Int × List Int × Unit)
abbrev Zt25_5 : Type := List Int × Int × Int × List Int × Int × Unit
abbrev Zy25_6 : Ty := (.pair (.int .i64) (.pair (.int .i64) (.pair (.slice (.int .i64)) (.pair (.int .i64) .unit))))
abbrev Zy25_7 : Ty := (Ty.pair (Ty.int IntKind.i64) (Ty.pair (Ty.slice (Ty.int IntKind.i64)) Ty.unit))
abbrev Zy25_8 : Ty := (.slice (.pair (.int .i64) (.pair (.slice (.int .i64)) .unit)))
abbrev Zt25_9 : Type := List (List Int × Int × Int × List Int × Int × Unit)

abbrev s25_42 : Summ := actS
noncomputable def sm_25 : Nat → Option Summ := fun f => bif Nat.beq f 40 then some s_40 else bif Nat.beq f 42 then some s25_42 else none
noncomputable def T_25_41_0_0 (p0 : Int) (p1 : Zt25_0) (p2 : List Int) (p3 : Int) (p4 : Int) (p5 : Zt25_0) (p6 : Zt25_4) (p7 : Zt25_5) (p8 : List Int) : St := St.mk ([jk, CV.clo (53 : Nat) (CV.pair (CV.ref (Ty.int IntKind.i64) p0) (CV.pair (CV.ref Zy25_1 p1) (CV.pure Ty.unit PUnit.unit))), jk, jk, jk, CV.whole (3 : Nat), jk, jk, jk, CV.pure (Ty.slice (Ty.int IntKind.i64)) p2, CV.int IntKind.i64 p3, CV.int IntKind.i64 p4] ++ (jl 12)) [Blk.mem (CV.pure Zy25_1 p5), Blk.vec (37 : Nat) Zy25_7 p6, Blk.mem (CV.pure (Ty.pair Ty.str Zy25_3) p7), Blk.vec (3 : Nat) (Ty.int IntKind.i64) p8] (3 : Nat)
noncomputable def X_25_41_0_0_0 (p5 : Zt25_0) (p6 : Zt25_4) (p7 : Zt25_5) (p8 : List Int) : St := St.mk ([jk, jk, jk, jk, jk, CV.whole (3 : Nat)] ++ (jl 18)) [Blk.mem (CV.pure Zy25_1 p5), Blk.vec (37 : Nat) Zy25_7 p6, Blk.mem (CV.pure (Ty.pair Ty.str Zy25_3) p7), Blk.vec (3 : Nat) (Ty.int IntKind.i64) p8] (3 : Nat)
inductive Sp.E_25_41_0_0 where
  | e0 (p5 : Zt25_0) (p6 : Zt25_4) (p7 : Zt25_5) (p8 : List Int)
noncomputable def Sp.B_25_41_0_0 {R : Type} (r : Option Sp.E_25_41_0_0) (k0 : (Zt25_0) → (Zt25_4) → (Zt25_5) → (List Int) → Option R) : Option R := match r with
  | none => none
  | some (.e0 p5 p6 p7 p8) => k0 p5 p6 p7 p8
noncomputable def Sp.L_25_41_0_0 : Nat → (Int) → (List (Int × Int × Int × Int × Int × Int × Bool × Int × Unit) × List (Int × Int × Int × Int × Int × List Int × Int × Unit) × Int × Bool × Unit) → (List Int) → (Int) → (Int) → (List (Int × Int × Int × Int × Int × Int × Bool × Int × Unit) × List (Int × Int × Int × Int × Int × List Int × Int × Unit) × Int × Bool × Unit) → (List (Int × List Int × Unit)) → (List Int × Int × Int × List Int × Int × Unit) → (List Int) → Option Sp.E_25_41_0_0
  | 0, _, _, _, _, _, _, _, _, _ => none
  | m + 1, p0, p1, p2, p3, p4, p5, p6, p7, p8 => bif decide (p4 < p3) then gd (inB p4 (List.length p2)) (bif List.getD p2 (Int.toNat p4) (0 : Int) != p0 then gd (inB (List.getD p2 (Int.toNat p4) (0 : Int)) (List.length (p1.2.1))) (bif Sp.andI IntKind.i64 ((List.getD (p1.2.1) (Int.toNat (List.getD p2 (Int.toNat p4) (0 : Int))) Zd2).1) (5 : Int) != (0 : Int) then gd (room (List.length p8 + (1 : Nat)) (8 : Nat)) (Sp.L_25_41_0_0 m p0 p1 p2 p3 (IntKind.wrap IntKind.i64 (p4 + (1 : Int))) p5 p6 p7 (p8 ++ [List.getD p2 (Int.toNat p4) (0 : Int)])) else Sp.L_25_41_0_0 m p0 p1 p2 p3 (IntKind.wrap IntKind.i64 (p4 + (1 : Int))) p5 p6 p7 p8) else Sp.L_25_41_0_0 m p0 p1 p2 p3 (IntKind.wrap IntKind.i64 (p4 + (1 : Int))) p5 p6 p7 p8) else some (Sp.E_25_41_0_0.e0 p5 p6 p7 p8)
noncomputable def G_25_41_0_0 {R : Type} (p0 : Int) (p1 : Zt25_0) (p2 : List Int) (p3 : Int) (p4 : Int) (p5 : Zt25_0) (p6 : Zt25_4) (p7 : Zt25_5) (p8 : List Int) (k : Ex → St → Option R) : Option R := Sp.B_25_41_0_0 (Sp.L_25_41_0_0 FU p0 p1 p2 p3 p4 p5 p6 p7 p8) (fun p5 p6 p7 p8 => k (Ex.exit (0 : Nat)) (X_25_41_0_0_0 p5 p6 p7 p8))
noncomputable def o_25_41_0_0 {R : Type} (G : (Int) → (Zt25_0) → (List Int) → (Int) → (Int) → (Zt25_0) → (Zt25_4) → (Zt25_5) → (List Int) → (Ex → St → Option R) → Option R) : St → (Ex → St → Option R) → Option R := fun T k => match T.sl.getD 1 .junk, T.sl.getD 5 .junk, T.sl.getD 9 .junk, T.sl.getD 10 .junk, T.sl.getD 11 .junk, T.hp with
  | CV.clo (53 : Nat) (CV.pair (CV.ref (Ty.int IntKind.i64) p0) (CV.pair (CV.ref (Ty.pair (Ty.slice (Ty.pair (Ty.int IntKind.i64) (Ty.pair (Ty.int IntKind.i64) (Ty.pair (Ty.int IntKind.i64) (Ty.pair (Ty.int IntKind.i64) (Ty.pair (Ty.int IntKind.i64) (Ty.pair (Ty.int IntKind.i64) (Ty.pair Ty.bool (Ty.pair (Ty.int IntKind.i64) Ty.unit))))))))) (Ty.pair (Ty.slice (Ty.pair (Ty.int IntKind.i64) (Ty.pair (Ty.int IntKind.i64) (Ty.pair (Ty.int IntKind.i64) (Ty.pair (Ty.int IntKind.i64) (Ty.pair (Ty.int IntKind.i64) (Ty.pair (Ty.slice (Ty.int IntKind.i64)) (Ty.pair (Ty.int IntKind.i64) Ty.unit)))))))) (Ty.pair (Ty.int IntKind.i64) (Ty.pair Ty.bool Ty.unit)))) p1) (CV.pure Ty.unit PUnit.unit))), CV.whole (3 : Nat), CV.pure (Ty.slice (Ty.int IntKind.i64)) p2, CV.int IntKind.i64 p3, CV.int IntKind.i64 p4, ((Blk.mem (CV.pure (Ty.pair (Ty.slice (Ty.pair (Ty.int IntKind.i64) (Ty.pair (Ty.int IntKind.i64) (Ty.pair (Ty.int IntKind.i64) (Ty.pair (Ty.int IntKind.i64) (Ty.pair (Ty.int IntKind.i64) (Ty.pair (Ty.int IntKind.i64) (Ty.pair Ty.bool (Ty.pair (Ty.int IntKind.i64) Ty.unit))))))))) (Ty.pair (Ty.slice (Ty.pair (Ty.int IntKind.i64) (Ty.pair (Ty.int IntKind.i64) (Ty.pair (Ty.int IntKind.i64) (Ty.pair (Ty.int IntKind.i64) (Ty.pair (Ty.int IntKind.i64) (Ty.pair (Ty.slice (Ty.int IntKind.i64)) (Ty.pair (Ty.int IntKind.i64) Ty.unit)))))))) (Ty.pair (Ty.int IntKind.i64) (Ty.pair Ty.bool Ty.unit)))) p5)) :: (Blk.vec (37 : Nat) (Ty.pair (Ty.int IntKind.i64) (Ty.pair (Ty.slice (Ty.int IntKind.i64)) Ty.unit)) p6) :: (Blk.mem (CV.pure (Ty.pair Ty.str (Ty.pair (Ty.int IntKind.i64) (Ty.pair (Ty.int IntKind.i64) (Ty.pair (Ty.slice (Ty.int IntKind.i64)) (Ty.pair (Ty.int IntKind.i64) Ty.unit))))) p7)) :: (Blk.vec (3 : Nat) (Ty.int IntKind.i64) p8) :: []) => gd (shapeOK T 24 [1, 5, 9, 10, 11] (3 : Nat)) (G p0 p1 p2 p3 p4 p5 p6 p7 p8 k)
  | _, _, _, _, _, _ => none
theorem o_25_41_0_0_inv {R : Type} {G : (Int) → (Zt25_0) → (List Int) → (Int) → (Int) → (Zt25_0) → (Zt25_4) → (Zt25_5) → (List Int) → (Ex → St → Option R) → Option R} {T : St} {k : Ex → St → Option R} {r : R} (h : o_25_41_0_0 G T k = some r) : ∃ p0 p1 p2 p3 p4 p5 p6 p7 p8, T = T_25_41_0_0 p0 p1 p2 p3 p4 p5 p6 p7 p8 ∧ G p0 p1 p2 p3 p4 p5 p6 p7 p8 k = some r := by
  unfold o_25_41_0_0 at h
  split at h
  · obtain ⟨hs, h'⟩ := gd_some h
    refine ⟨_, _, _, _, _, _, _, _, _, (st_of (asg := [(1, _), (5, _), (9, _), (10, _), (11, _)]) hs ⟨by assumption, by assumption, by assumption, by assumption, by assumption, trivial⟩ (by assumption)).trans ?_, h'⟩
    kernel_rfl
  · cases h
noncomputable def T_25_43_0_0 (p0 : Int) (p1 : Zt25_0) (p2 : Zt25_9) (p3 : Int) (p4 : Int) (p5 : Zt25_0) (p6 : Zt25_4) : St := St.mk ([jk, CV.clo (53 : Nat) (CV.pair (CV.ref (Ty.int IntKind.i64) p0) (CV.pair (CV.ref Zy25_1 p1) (CV.pure Ty.unit PUnit.unit))), jk, jk, jk, CV.whole (1 : Nat), jk, jk, jk, CV.pure (Ty.slice (Ty.pair Ty.str Zy25_3)) p2, CV.int IntKind.i64 p3, CV.int IntKind.i64 p4] ++ (jl 18)) [Blk.mem (CV.pure Zy25_1 p5), Blk.vec (37 : Nat) Zy25_7 p6] (1 : Nat)
noncomputable def X_25_43_0_0_0 (p5 : Zt25_0) (p6 : Zt25_4) : St := St.mk ([jk, jk, jk, jk, jk, CV.whole (1 : Nat)] ++ (jl 24)) [Blk.mem (CV.pure Zy25_1 p5), Blk.vec (37 : Nat) Zy25_7 p6] (1 : Nat)
inductive Sp.E_25_43_0_0 where
  | e0 (p5 : Zt25_0) (p6 : Zt25_4)
noncomputable def Sp.B_25_43_0_0 {R : Type} (r : Option Sp.E_25_43_0_0) (k0 : (Zt25_0) → (Zt25_4) → Option R) : Option R := match r with
  | none => none
  | some (.e0 p5 p6) => k0 p5 p6
noncomputable def Sp.L_25_43_0_0 : Nat → (Int) → (List (Int × Int × Int × Int × Int × Int × Bool × Int × Unit) × List (Int × Int × Int × Int × Int × List Int × Int × Unit) × Int × Bool × Unit) → (List (List Int × Int × Int × List Int × Int × Unit)) → (Int) → (Int) → (List (Int × Int × Int × Int × Int × Int × Bool × Int × Unit) × List (Int × Int × Int × Int × Int × List Int × Int × Unit) × Int × Bool × Unit) → (List (Int × List Int × Unit)) → Option Sp.E_25_43_0_0
  | 0, _, _, _, _, _, _, _ => none
  | m + 1, p0, p1, p2, p3, p4, p5, p6 => bif decide (p4 < p3) then gd (inB p4 (List.length p2)) (Sp.B_25_41_0_0 (Sp.L_25_41_0_0 (4611686018427387904 : Nat) p0 p1 ((List.getD p2 (Int.toNat p4) (Ty.dflt (Ty.pair Ty.str (Ty.pair (Ty.int IntKind.i64) (Ty.pair (Ty.int IntKind.i64) (Ty.pair (Ty.slice (Ty.int IntKind.i64)) (Ty.pair (Ty.int IntKind.i64) Ty.unit))))))).2.2.2.1) (↑(List.length ((List.getD p2 (Int.toNat p4) (Ty.dflt (Ty.pair Ty.str (Ty.pair (Ty.int IntKind.i64) (Ty.pair (Ty.int IntKind.i64) (Ty.pair (Ty.slice (Ty.int IntKind.i64)) (Ty.pair (Ty.int IntKind.i64) Ty.unit))))))).2.2.2.1)) : Int) (0 : Int) p5 p6 (List.getD p2 (Int.toNat p4) (Ty.dflt (Ty.pair Ty.str (Ty.pair (Ty.int IntKind.i64) (Ty.pair (Ty.int IntKind.i64) (Ty.pair (Ty.slice (Ty.int IntKind.i64)) (Ty.pair (Ty.int IntKind.i64) Ty.unit))))))) []) fun y4 y5 y6 y7 => bif decide ((↑(List.length y7) : Int) > (0 : Int)) then gd (room (List.length y5 + (1 : Nat)) (32 : Nat)) (Sp.L_25_43_0_0 m p0 p1 p2 p3 (IntKind.wrap IntKind.i64 (p4 + (1 : Int))) y4 (y5 ++ [(p4, y7, PUnit.unit)])) else Sp.L_25_43_0_0 m p0 p1 p2 p3 (IntKind.wrap IntKind.i64 (p4 + (1 : Int))) y4 y5) else some (Sp.E_25_43_0_0.e0 p5 p6)
noncomputable def G_25_43_0_0 {R : Type} (p0 : Int) (p1 : Zt25_0) (p2 : Zt25_9) (p3 : Int) (p4 : Int) (p5 : Zt25_0) (p6 : Zt25_4) (k : Ex → St → Option R) : Option R := Sp.B_25_43_0_0 (Sp.L_25_43_0_0 FU p0 p1 p2 p3 p4 p5 p6) (fun p5 p6 => k (Ex.exit (0 : Nat)) (X_25_43_0_0_0 p5 p6))
noncomputable def o_25_43_0_0 {R : Type} (G : (Int) → (Zt25_0) → (Zt25_9) → (Int) → (Int) → (Zt25_0) → (Zt25_4) → (Ex → St → Option R) → Option R) : St → (Ex → St → Option R) → Option R := fun T k => match T.sl.getD 1 .junk, T.sl.getD 5 .junk, T.sl.getD 9 .junk, T.sl.getD 10 .junk, T.sl.getD 11 .junk, T.hp with
  | CV.clo (53 : Nat) (CV.pair (CV.ref (Ty.int IntKind.i64) p0) (CV.pair (CV.ref (Ty.pair (Ty.slice (Ty.pair (Ty.int IntKind.i64) (Ty.pair (Ty.int IntKind.i64) (Ty.pair (Ty.int IntKind.i64) (Ty.pair (Ty.int IntKind.i64) (Ty.pair (Ty.int IntKind.i64) (Ty.pair (Ty.int IntKind.i64) (Ty.pair Ty.bool (Ty.pair (Ty.int IntKind.i64) Ty.unit))))))))) (Ty.pair (Ty.slice (Ty.pair (Ty.int IntKind.i64) (Ty.pair (Ty.int IntKind.i64) (Ty.pair (Ty.int IntKind.i64) (Ty.pair (Ty.int IntKind.i64) (Ty.pair (Ty.int IntKind.i64) (Ty.pair (Ty.slice (Ty.int IntKind.i64)) (Ty.pair (Ty.int IntKind.i64) Ty.unit)))))))) (Ty.pair (Ty.int IntKind.i64) (Ty.pair Ty.bool Ty.unit)))) p1) (CV.pure Ty.unit PUnit.unit))), CV.whole (1 : Nat), CV.pure (Ty.slice (Ty.pair Ty.str (Ty.pair (Ty.int IntKind.i64) (Ty.pair (Ty.int IntKind.i64) (Ty.pair (Ty.slice (Ty.int IntKind.i64)) (Ty.pair (Ty.int IntKind.i64) Ty.unit)))))) p2, CV.int IntKind.i64 p3, CV.int IntKind.i64 p4, ((Blk.mem (CV.pure (Ty.pair (Ty.slice (Ty.pair (Ty.int IntKind.i64) (Ty.pair (Ty.int IntKind.i64) (Ty.pair (Ty.int IntKind.i64) (Ty.pair (Ty.int IntKind.i64) (Ty.pair (Ty.int IntKind.i64) (Ty.pair (Ty.int IntKind.i64) (Ty.pair Ty.bool (Ty.pair (Ty.int IntKind.i64) Ty.unit))))))))) (Ty.pair (Ty.slice (Ty.pair (Ty.int IntKind.i64) (Ty.pair (Ty.int IntKind.i64) (Ty.pair (Ty.int IntKind.i64) (Ty.pair (Ty.int IntKind.i64) (Ty.pair (Ty.int IntKind.i64) (Ty.pair (Ty.slice (Ty.int IntKind.i64)) (Ty.pair (Ty.int IntKind.i64) Ty.unit)))))))) (Ty.pair (Ty.int IntKind.i64) (Ty.pair Ty.bool Ty.unit)))) p5)) :: (Blk.vec (37 : Nat) (Ty.pair (Ty.int IntKind.i64) (Ty.pair (Ty.slice (Ty.int IntKind.i64)) Ty.unit)) p6) :: []) => gd (shapeOK T 30 [1, 5, 9, 10, 11] (1 : Nat)) (G p0 p1 p2 p3 p4 p5 p6 k)
  | _, _, _, _, _, _ => none
theorem o_25_43_0_0_inv {R : Type} {G : (Int) → (Zt25_0) → (Zt25_9) → (Int) → (Int) → (Zt25_0) → (Zt25_4) → (Ex → St → Option R) → Option R} {T : St} {k : Ex → St → Option R} {r : R} (h : o_25_43_0_0 G T k = some r) : ∃ p0 p1 p2 p3 p4 p5 p6, T = T_25_43_0_0 p0 p1 p2 p3 p4 p5 p6 ∧ G p0 p1 p2 p3 p4 p5 p6 k = some r := by
  unfold o_25_43_0_0 at h
  split at h
  · obtain ⟨hs, h'⟩ := gd_some h
    refine ⟨_, _, _, _, _, _, _, (st_of (asg := [(1, _), (5, _), (9, _), (10, _), (11, _)]) hs ⟨by assumption, by assumption, by assumption, by assumption, by assumption, trivial⟩ (by assumption)).trans ?_, h'⟩
    kernel_rfl
  · cases h
noncomputable def O_25_41_0 {R : Type} : St → (Ex → St → Option R) → Option R := fun T k => o_25_41_0_0 G_25_41_0_0 T k
noncomputable def O_25_43_0 {R : Type} : St → (Ex → St → Option R) → Option R := fun T k => o_25_43_0_0 G_25_43_0_0 T k
noncomputable def g_25_41 {R : Type} : List CV → List Blk → (CV → List Blk → Option R) → Option R := evFnL sm_25 FU (ovr noO (evFn sm_25 fns FU 1)) (ir41_t O_25_41_0) ir41
noncomputable def g_25_43 {R : Type} : List CV → List Blk → (CV → List Blk → Option R) → Option R := evFnL sm_25 FU (ovr (fun f' => bif Nat.beq f' 41 then some (g_25_41) else none) (evFn sm_25 fns FU 2)) (ir43_t O_25_43_0) ir43
theorem body_25_41_0_0 {R : Type} (K0 : St → Option R) (K1 : Ex → St → Option R) (p0 : Int) (p1 : Zt25_0) (p2 : List Int) (p3 : Int) (p4 : Int) (p5 : Zt25_0) (p6 : Zt25_4) (p7 : Zt25_5) (p8 : List Int) : evLB (evCodeL sm_25 FU (ovr noO (evFn sm_25 fns FU 1)) .nil ir41_b0) (St.norm ir41_v0) (T_25_41_0_0 p0 p1 p2 p3 p4 p5 p6 p7 p8) K0 K1 =
  bif decide (p4 < p3) then gd (inB p4 (List.length p2)) (bif List.getD p2 (Int.toNat p4) (0 : Int) != p0 then gd (inB (List.getD p2 (Int.toNat p4) (0 : Int)) (List.length (p1.2.1))) (bif Sp.andI IntKind.i64 ((List.getD (p1.2.1) (Int.toNat (List.getD p2 (Int.toNat p4) (0 : Int))) Zd2).1) (5 : Int) != (0 : Int) then gd (room (List.length p8 + (1 : Nat)) (8 : Nat)) (K0 (T_25_41_0_0 p0 p1 p2 p3 (IntKind.wrap IntKind.i64 (p4 + (1 : Int))) p5 p6 p7 (p8 ++ [List.getD p2 (Int.toNat p4) (0 : Int)]))) else K0 (T_25_41_0_0 p0 p1 p2 p3 (IntKind.wrap IntKind.i64 (p4 + (1 : Int))) p5 p6 p7 p8)) else K0 (T_25_41_0_0 p0 p1 p2 p3 (IntKind.wrap IntKind.i64 (p4 + (1 : Int))) p5 p6 p7 p8)) else K1 (Ex.exit (0 : Nat)) (X_25_41_0_0_0 p5 p6 p7 p8) := by kernel_rfl
theorem Bgd_25_41_0_0 {R : Type} {c : Bool} {x : Option R} {y : Option Sp.E_25_41_0_0} {k0 : (Zt25_0) → (Zt25_4) → (Zt25_5) → (List Int) → Option R} (h : x = Sp.B_25_41_0_0 y k0) : gd c x = Sp.B_25_41_0_0 (gd c y) k0 := by cases c; rfl; exact h
theorem Bcond_25_41_0_0 {R : Type} {c : Bool} {x x' : Option R} {y y' : Option Sp.E_25_41_0_0} {k0 : (Zt25_0) → (Zt25_4) → (Zt25_5) → (List Int) → Option R} (h : x = Sp.B_25_41_0_0 y k0) (h' : x' = Sp.B_25_41_0_0 y' k0) : (bif c then x else x') = Sp.B_25_41_0_0 (bif c then y else y') k0 := by cases c; exact h'; exact h
theorem loop_25_41_0_0 {R : Type} (k : Ex → St → Option R) : ∀ (m : Nat) (p0 : Int) (p1 : Zt25_0) (p2 : List Int) (p3 : Int) (p4 : Int) (p5 : Zt25_0) (p6 : Zt25_4) (p7 : Zt25_5) (p8 : List Int), evLoopN (evCodeL sm_25 FU (ovr noO (evFn sm_25 fns FU 1)) .nil ir41_b0) (St.norm ir41_v0) m (T_25_41_0_0 p0 p1 p2 p3 p4 p5 p6 p7 p8) k = Sp.B_25_41_0_0 (Sp.L_25_41_0_0 m p0 p1 p2 p3 p4 p5 p6 p7 p8) (fun p5 p6 p7 p8 => k (Ex.exit (0 : Nat)) (X_25_41_0_0_0 p5 p6 p7 p8))
  | 0, _, _, _, _, _, _, _, _, _ => rfl
  | m + 1, p0, p1, p2, p3, p4, p5, p6, p7, p8 => by
    rw [evLoopN_succ, body_25_41_0_0, Sp.L_25_41_0_0]
    repeat' first | apply Bgd_25_41_0_0 | apply Bcond_25_41_0_0 | exact loop_25_41_0_0 k m _ _ _ _ _ _ _ _ _ | rfl
theorem ok_25_41_0_0 {R : Type} (T : St) (k : Ex → St → Option R) (r : R) (h0 : o_25_41_0_0 G_25_41_0_0 T k = some r) : evLoopN (evCode sm_25 FU (evFn sm_25 fns FU 1) ir41_b0) (St.norm ir41_v0) FU T k = some r := by
  obtain ⟨p0, p1, p2, p3, p4, p5, p6, p7, p8, rfl, h⟩ := o_25_41_0_0_inv h0
  refine evLoopN_L (t := .nil) noO_ok trivial _ _ _ _ ?_
  rw [loop_25_41_0_0]
  exact h
theorem OK_25_41_0 {R : Type} (T : St) (k : Ex → St → Option R) (r : R) (h : O_25_41_0 T k = some r) : evLoopN (evCode sm_25 FU (evFn sm_25 fns FU 1) ir41_b0) (St.norm ir41_v0) FU T k = some r := ok_25_41_0_0 T k r h
theorem g_25_41_ok {R : Type} (args : List CV) (hp : List Blk) (k : CV → List Blk → Option R) (r : R) (h : g_25_41 args hp k = some r) : evFn sm_25 fns FU 2 41 args hp k = some r :=
  evFnL_sound (fn := ir41) (t := (ir41_t O_25_41_0)) (o := noO) rfl noO_ok (ir41_tok (fun T k r => OK_25_41_0 T k r)) h
theorem ov_25_43_ok {R : Type} : OvrOK (R := R) (fun f' => bif Nat.beq f' 41 then some (g_25_41) else none) (evFn sm_25 fns FU 2) := by
  intro f' g h args hp k r hg
  dsimp only at h
  by_cases h41 : f' = 41
  · subst h41
    injection h with h
    subst h
    exact evFn_le 0 (g_25_41_ok _ _ _ _ hg)
  rw [nbeq_ne h41, cond_false] at h
  cases h
theorem body_25_43_0_0 {R : Type} (K0 : St → Option R) (K1 : Ex → St → Option R) (p0 : Int) (p1 : Zt25_0) (p2 : Zt25_9) (p3 : Int) (p4 : Int) (p5 : Zt25_0) (p6 : Zt25_4) : evLB (evCodeL sm_25 FU (ovr (fun f' => bif Nat.beq f' 41 then some (g_25_41) else none) (evFn sm_25 fns FU 2)) .nil ir43_b0) (St.norm ir43_v0) (T_25_43_0_0 p0 p1 p2 p3 p4 p5 p6) K0 K1 =
  bif decide (p4 < p3) then gd (inB p4 (List.length p2)) (Sp.B_25_41_0_0 (Sp.L_25_41_0_0 (4611686018427387904 : Nat) p0 p1 ((List.getD p2 (Int.toNat p4) (Ty.dflt (Ty.pair Ty.str Zy25_3))).2.2.2.1) (↑(List.length ((List.getD p2 (Int.toNat p4) (Ty.dflt (Ty.pair Ty.str Zy25_3))).2.2.2.1)) : Int) (0 : Int) p5 p6 (List.getD p2 (Int.toNat p4) (Ty.dflt (Ty.pair Ty.str Zy25_3))) []) fun y4 y5 y6 y7 => bif decide ((↑(List.length y7) : Int) > (0 : Int)) then gd (room (List.length y5 + (1 : Nat)) (32 : Nat)) (K0 (T_25_43_0_0 p0 p1 p2 p3 (IntKind.wrap IntKind.i64 (p4 + (1 : Int))) y4 (y5 ++ [(p4, y7, PUnit.unit)]))) else K0 (T_25_43_0_0 p0 p1 p2 p3 (IntKind.wrap IntKind.i64 (p4 + (1 : Int))) y4 y5)) else K1 (Ex.exit (0 : Nat)) (X_25_43_0_0_0 p5 p6) := by kernel_rfl
theorem Bgd_25_43_0_0 {R : Type} {c : Bool} {x : Option R} {y : Option Sp.E_25_43_0_0} {k0 : (Zt25_0) → (Zt25_4) → Option R} (h : x = Sp.B_25_43_0_0 y k0) : gd c x = Sp.B_25_43_0_0 (gd c y) k0 := by cases c; rfl; exact h
theorem Bcond_25_43_0_0 {R : Type} {c : Bool} {x x' : Option R} {y y' : Option Sp.E_25_43_0_0} {k0 : (Zt25_0) → (Zt25_4) → Option R} (h : x = Sp.B_25_43_0_0 y k0) (h' : x' = Sp.B_25_43_0_0 y' k0) : (bif c then x else x') = Sp.B_25_43_0_0 (bif c then y else y') k0 := by cases c; exact h'; exact h
theorem Bin_25_43_0_0_25_41_0_0 {R : Type} {r : Option Sp.E_25_41_0_0} {k0 : (Zt25_0) → (Zt25_4) → Option R} {f0 : (Zt25_0) → (Zt25_4) → (Zt25_5) → (List Int) → Option R} {g0 : (Zt25_0) → (Zt25_4) → (Zt25_5) → (List Int) → Option Sp.E_25_43_0_0} (h0 : ∀ z0 z1 z2 z3, f0 z0 z1 z2 z3 = Sp.B_25_43_0_0 (g0 z0 z1 z2 z3) k0) : Sp.B_25_41_0_0 r f0 = Sp.B_25_43_0_0 (Sp.B_25_41_0_0 r g0) k0 := by
  cases r with
  | none => rfl
  | some e => cases e with
    | e0 z0 z1 z2 z3 => exact h0 _ _ _ _
theorem loop_25_43_0_0 {R : Type} (k : Ex → St → Option R) : ∀ (m : Nat) (p0 : Int) (p1 : Zt25_0) (p2 : Zt25_9) (p3 : Int) (p4 : Int) (p5 : Zt25_0) (p6 : Zt25_4), evLoopN (evCodeL sm_25 FU (ovr (fun f' => bif Nat.beq f' 41 then some (g_25_41) else none) (evFn sm_25 fns FU 2)) .nil ir43_b0) (St.norm ir43_v0) m (T_25_43_0_0 p0 p1 p2 p3 p4 p5 p6) k = Sp.B_25_43_0_0 (Sp.L_25_43_0_0 m p0 p1 p2 p3 p4 p5 p6) (fun p5 p6 => k (Ex.exit (0 : Nat)) (X_25_43_0_0_0 p5 p6))
  | 0, _, _, _, _, _, _, _ => rfl
  | m + 1, p0, p1, p2, p3, p4, p5, p6 => by
    rw [evLoopN_succ, body_25_43_0_0, Sp.L_25_43_0_0]
    repeat' first | apply Bgd_25_43_0_0 | apply Bcond_25_43_0_0 | (apply Bin_25_43_0_0_25_41_0_0 <;> intros) | exact loop_25_43_0_0 k m _ _ _ _ _ _ _ | rfl
theorem ok_25_43_0_0 {R : Type} (T : St) (k : Ex → St → Option R) (r : R) (h0 : o_25_43_0_0 G_25_43_0_0 T k = some r) : evLoopN (evCode sm_25 FU (evFn sm_25 fns FU 2) ir43_b0) (St.norm ir43_v0) FU T k = some r := by
  obtain ⟨p0, p1, p2, p3, p4, p5, p6, rfl, h⟩ := o_25_43_0_0_inv h0
  refine evLoopN_L (t := .nil) ov_25_43_ok trivial _ _ _ _ ?_
  rw [loop_25_43_0_0]
  exact h
theorem OK_25_43_0 {R : Type} (T : St) (k : Ex → St → Option R) (r : R) (h : O_25_43_0 T k = some r) : evLoopN (evCode sm_25 FU (evFn sm_25 fns FU 2) ir43_b0) (St.norm ir43_v0) FU T k = some r := ok_25_43_0_0 T k r h
theorem g_25_43_ok {R : Type} (args : List CV) (hp : List Blk) (k : CV → List Blk → Option R) (r : R) (h : g_25_43 args hp k = some r) : evFn sm_25 fns FU 3 43 args hp k = some r :=
  evFnL_sound (fn := ir43) (t := (ir43_t O_25_43_0)) (o := (fun f' => bif Nat.beq f' 41 then some (g_25_41) else none)) rfl ov_25_43_ok (ir43_tok (fun T k r => OK_25_43_0 T k r)) h
theorem ov_25_25_ok {R : Type} : OvrOK (R := R) (fun f' => bif Nat.beq f' 43 then some (g_25_43) else none) (evFn sm_25 fns FU 3) := by
  intro f' g h args hp k r hg
  dsimp only at h
  by_cases h43 : f' = 43
  · subst h43
    injection h with h
    subst h
    exact evFn_le 0 (g_25_43_ok _ _ _ _ hg)
  rw [nbeq_ne h43, cond_false] at h
  cases h
noncomputable def F_25 (a0 : (List ((List Int) × (Int × (Int × ((List Int) × (Int × Unit))))))) (a1 : ((List (Int × (Int × (Int × (Int × (Int × (Int × (Bool × (Int × Unit))))))))) × ((List (Int × (Int × (Int × (Int × (Int × ((List Int) × (Int × Unit)))))))) × (Int × (Bool × Unit))))) (a2 : Int) : Option ((List (Int × ((List Int) × Unit))) × Int × Unit) :=
  gd (Sp.p_40 a0 a1) (bif !(Sp.v_40 a0 a1).1 then some ([], (1 : Int), PUnit.unit) else bif decide (a2 < (0 : Int)) then some ([], (2 : Int), PUnit.unit) else bif decide (a2 ≥ (↑(List.length (a1.2.1)) : Int)) then some ([], (2 : Int), PUnit.unit) else Sp.B_25_43_0_0 (Sp.L_25_43_0_0 (4611686018427387904 : Nat) a2 a1 a0 (↑(List.length a0) : Int) (0 : Int) a1 []) fun y10 y11 => some (y11, (0 : Int), PUnit.unit))
theorem fn_25 (a0 : (List ((List Int) × (Int × (Int × ((List Int) × (Int × Unit))))))) (a1 : ((List (Int × (Int × (Int × (Int × (Int × (Int × (Bool × (Int × Unit))))))))) × ((List (Int × (Int × (Int × (Int × (Int × ((List Int) × (Int × Unit)))))))) × (Int × (Bool × Unit))))) (a2 : Int) : evFnL sm_25 FU (ovr (fun f' => bif Nat.beq f' 43 then some (g_25_43) else none) (evFn sm_25 fns FU 3)) .nil ir25 (ofH [(.slice (.pair .str Zy25_6)), Zy25_2, (.int .i64)] (a0, a1, a2, ())) [] (pureK [Zy25_8, (.int .i64)]) = F_25 a0 a1 a2 := by kernel_rfl
noncomputable def Sp.p_25 (a0 : (List ((List Int) × (Int × (Int × ((List Int) × (Int × Unit))))))) (a1 : ((List (Int × (Int × (Int × (Int × (Int × (Int × (Bool × (Int × Unit))))))))) × ((List (Int × (Int × (Int × (Int × (Int × ((List Int) × (Int × Unit)))))))) × (Int × (Bool × Unit))))) (a2 : Int) : Bool := (F_25 a0 a1 a2).isSome
noncomputable def Sp.v_25 (a0 : (List ((List Int) × (Int × (Int × ((List Int) × (Int × Unit))))))) (a1 : ((List (Int × (Int × (Int × (Int × (Int × (Int × (Bool × (Int × Unit))))))))) × ((List (Int × (Int × (Int × (Int × (Int × ((List Int) × (Int × Unit)))))))) × (Int × (Bool × Unit))))) (a2 : Int) : (List (Int × ((List Int) × Unit))) × Int × Unit := (F_25 a0 a1 a2).getD (dfH [Zy25_8, (.int .i64)])
noncomputable def s_25 : Summ := shS [(.slice (.pair .str Zy25_6)), Zy25_2, (.int .i64)] [Zy25_8, (.int .i64)] (fun x => Sp.p_25 x.1 x.2.1 x.2.2.1) (fun x => Sp.v_25 x.1 x.2.1 x.2.2.1)
theorem pv_25 (a0 : (List ((List Int) × (Int × (Int × ((List Int) × (Int × Unit))))))) (a1 : ((List (Int × (Int × (Int × (Int × (Int × (Int × (Bool × (Int × Unit))))))))) × ((List (Int × (Int × (Int × (Int × (Int × ((List Int) × (Int × Unit)))))))) × (Int × (Bool × Unit))))) (a2 : Int) {y : (List (Int × ((List Int) × Unit))) × Int × Unit} (h : F_25 a0 a1 a2 = some y) : Sp.p_25 a0 a1 a2 = true ∧ Sp.v_25 a0 a1 a2 = y := ⟨by rw [Sp.p_25, h]; rfl, by rw [Sp.v_25, h]; rfl⟩
theorem run_25 (x : HDen [(.slice (.pair .str Zy25_6)), Zy25_2, (.int .i64)]) (y : HDen [Zy25_8, (.int .i64)]) (h : F_25 x.1 x.2.1 x.2.2.1 = some y) : evFn sm_25 fns FU 4 25 (ofH [(.slice (.pair .str Zy25_6)), Zy25_2, (.int .i64)] x) [] (pureK [Zy25_8, (.int .i64)]) = some y :=
  evFnL_sound (fn := ir25) (t := .nil) (o := (fun f' => bif Nat.beq f' 43 then some (g_25_43) else none)) rfl ov_25_25_ok trivial ((fn_25 _ _ _).trans h)
end
end Go.Ev
namespace Go.Ev
open Go
set_option maxRecDepth 100000
set_option maxHeartbeats 4000000
set_option linter.unusedVariables false
noncomputable section
abbrev Zt31_0 : Type := List (Int × List Int × Unit)
abbrev Zy31_1 : Ty := (Ty.pair (Ty.int IntKind.i64) (Ty.pair (Ty.slice (Ty.int IntKind.i64)) Ty.unit))
abbrev Zy31_2 : Ty := (Ty.slice (Ty.pair (Ty.int IntKind.i64) (Ty.pair (Ty.slice (Ty.int IntKind.i64)) Ty.unit)))
abbrev Zy31_3 : Ty := (.slice (.pair (.int .i64) (.pair (.slice (.int .i64)) .unit)))

noncomputable def sm_31 : Nat → Option Summ := fun f => none
noncomputable def T_31_1 (p0 : Zt31_0) (p1 : Zt31_0) (p2 : Int) (p3 : Int) : St := St.mk ([CV.pure Zy31_2 p0, CV.pure Zy31_2 p1, jk, jk, jk, CV.int IntKind.i64 p2, CV.int IntKind.i64 p3] ++ (jl 64)) [] (0 : Nat)
noncomputable def X_31_1_0 : St := St.mk ([jk, jk, jk, jk, CV.bool false] ++ (jl 66)) [] (0 : Nat)
noncomputable def X_31_1_1 (p0 : Zt31_0) (p1 : Zt31_0) (p2 : Int) : St := St.mk ([CV.pure Zy31_2 p0, CV.pure Zy31_2 p1, jk, jk, jk, CV.int IntKind.i64 p2] ++ (jl 65)) [] (0 : Nat)
inductive Sp.E_31_1 where
  | e0
  | e1 (p0 : Zt31_0) (p1 : Zt31_0) (p2 : Int)
noncomputable def Sp.B_31_1 {R : Type} (r : Option Sp.E_31_1) (k0 : Option R) (k1 : (Zt31_0) → (Zt31_0) → (Int) → Option R) : Option R := match r with
  | none => none
  | some (.e0) => k0
  | some (.e1 p0 p1 p2) => k1 p0 p1 p2
noncomputable def Sp.L_31_1 : Nat → (List (Int × List Int × Unit)) → (List (Int × List Int × Unit)) → (Int) → (Int) → Option Sp.E_31_1
  | 0, _, _, _, _ => none
  | m + 1, p0, p1, p2, p3 => gd (inB p2 (List.length p0)) (bif decide (p3 < (↑(List.length ((List.getD p0 (Int.toNat p2) Zd0).2.1)) : Int)) then gd (inB p2 (List.length p0)) (gd (inB p3 (List.length ((List.getD p0 (Int.toNat p2) Zd0).2.1))) (gd (inB p2 (List.length p1)) (gd (inB p3 (List.length ((List.getD p1 (Int.toNat p2) Zd0).2.1))) (bif List.getD ((List.getD p0 (Int.toNat p2) Zd0).2.1) (Int.toNat p3) (0 : Int) != List.getD ((List.getD p1 (Int.toNat p2) Zd0).2.1) (Int.toNat p3) (0 : Int) then some (Sp.E_31_1.e0) else Sp.L_31_1 m p0 p1 p2 (IntKind.wrap IntKind.i64 (p3 + (1 : Int))))))) else some (Sp.E_31_1.e1 p0 p1 p2))
noncomputable def G_31_1 {R : Type} (p0 : Zt31_0) (p1 : Zt31_0) (p2 : Int) (p3 : Int) (k : Ex → St → Option R) : Option R := Sp.B_31_1 (Sp.L_31_1 FU p0 p1 p2 p3) (k Ex.ret (X_31_1_0)) (fun p0 p1 p2 => k (Ex.exit (2 : Nat)) (X_31_1_1 p0 p1 p2))
noncomputable def o_31_1 {R : Type} (G : (Zt31_0) → (Zt31_0) → (Int) → (Int) → (Ex → St → Option R) → Option R) : St → (Ex → St → Option R) → Option R := fun T k => match T.sl.getD 0 .junk, T.sl.getD 1 .junk, T.sl.getD 5 .junk, T.sl.getD 6 .junk, T.hp with
  | CV.pure (Ty.slice (Ty.pair (Ty.int IntKind.i64) (Ty.pair (Ty.slice (Ty.int IntKind.i64)) Ty.unit))) p0, CV.pure (Ty.slice (Ty.pair (Ty.int IntKind.i64) (Ty.pair (Ty.slice (Ty.int IntKind.i64)) Ty.unit))) p1, CV.int IntKind.i64 p2, CV.int IntKind.i64 p3, [] => gd (shapeOK T 71 [0, 1, 5, 6] (0 : Nat)) (G p0 p1 p2 p3 k)
  | _, _, _, _, _ => none
theorem o_31_1_inv {R : Type} {G : (Zt31_0) → (Zt31_0) → (Int) → (Int) → (Ex → St → Option R) → Option R} {T : St} {k : Ex → St → Option R} {r : R} (h : o_31_1 G T k = some r) : ∃ p0 p1 p2 p3, T = T_31_1 p0 p1 p2 p3 ∧ G p0 p1 p2 p3 k = some r := by
  unfold o_31_1 at h
  split at h
  · obtain ⟨hs, h'⟩ := gd_some h
    refine ⟨_, _, _, _, (st_of (asg := [(0, _), (1, _), (5, _), (6, _)]) hs ⟨by assumption, by assumption, by assumption, by assumption, trivial⟩ (by assumption)).trans ?_, h'⟩
    kernel_rfl
  · cases h
noncomputable def T_31_0 (p0 : Zt31_0) (p1 : Zt31_0) (p2 : Int) : St := St.mk ([CV.pure Zy31_2 p0, CV.pure Zy31_2 p1, jk, jk, jk, CV.int IntKind.i64 p2] ++ (jl 65)) [] (0 : Nat)
noncomputable def X_31_0_0 : St := St.mk ([jk, jk, jk, jk, CV.bool false] ++ (jl 66)) [] (0 : Nat)
noncomputable def X_31_0_1 : St := St.mk (jl 71) [] (0 : Nat)
inductive Sp.E_31_0 where
  | e0
  | e1
noncomputable def Sp.B_31_0 {R : Type} (r : Option Sp.E_31_0) (k0 : Option R) (k1 : Option R) : Option R := match r with
  | none => none
  | some (.e0) => k0
  | some (.e1) => k1
noncomputable def Sp.L_31_0 : Nat → (List (Int × List Int × Unit)) → (List (Int × List Int × Unit)) → (Int) → Option Sp.E_31_0
  | 0, _, _, _ => none
  | m + 1, p0, p1, p2 => bif decide (p2 < (↑(List.length p0) : Int)) then gd (inB p2 (List.length p0)) (gd (inB p2 (List.length p1)) (bif (List.getD p0 (Int.toNat p2) Zd0).1 != (List.getD p1 (Int.toNat p2) Zd0).1 then some (Sp.E_31_0.e0) else gd (inB p2 (List.length p0)) (gd (inB p2 (List.length p1)) (bif (↑(List.length ((List.getD p0 (Int.toNat p2) Zd0).2.1)) : Int) != (↑(List.length ((List.getD p1 (Int.toNat p2) Zd0).2.1)) : Int) then some (Sp.E_31_0.e0) else Sp.B_31_1 (Sp.L_31_1 (4611686018427387904 : Nat) p0 p1 p2 (0 : Int)) (some (Sp.E_31_0.e0)) fun y7 y8 y9 => Sp.L_31_0 m y7 y8 (IntKind.wrap IntKind.i64 (y9 + (1 : Int))))))) else some (Sp.E_31_0.e1)
noncomputable def G_31_0 {R : Type} (p0 : Zt31_0) (p1 : Zt31_0) (p2 : Int) (k : Ex → St → Option R) : Option R := Sp.B_31_0 (Sp.L_31_0 FU p0 p1 p2) (k Ex.ret (X_31_0_0)) (k (Ex.exit (0 : Nat)) (X_31_0_1))
noncomputable def o_31_0 {R : Type} (G : (Zt31_0) → (Zt31_0) → (Int) → (Ex → St → Option R) → Option R) : St → (Ex → St → Option R) → Option R := fun T k => match T.sl.getD 0 .junk, T.sl.getD 1 .junk, T.sl.getD 5 .junk, T.hp with
  | CV.pure (Ty.slice (Ty.pair (Ty.int IntKind.i64) (Ty.pair (Ty.slice (Ty.int IntKind.i64)) Ty.unit))) p0, CV.pure (Ty.slice (Ty.pair (Ty.int IntKind.i64) (Ty.pair (Ty.slice (Ty.int IntKind.i64)) Ty.unit))) p1, CV.int IntKind.i64 p2, [] => gd (shapeOK T 71 [0, 1, 5] (0 : Nat)) (G p0 p1 p2 k)
  | _, _, _, _ => none
theorem o_31_0_inv {R : Type} {G : (Zt31_0) → (Zt31_0) → (Int) → (Ex → St → Option R) → Option R} {T : St} {k : Ex → St → Option R} {r : R} (h : o_31_0 G T k = some r) : ∃ p0 p1 p2, T = T_31_0 p0 p1 p2 ∧ G p0 p1 p2 k = some r := by
  unfold o_31_0 at h
  split at h
  · obtain ⟨hs, h'⟩ := gd_some h
    refine ⟨_, _, _, (st_of (asg := [(0, _), (1, _), (5, _)]) hs ⟨by assumption, by assumption, by assumption, trivial⟩ (by assumption)).trans ?_, h'⟩
    kernel_rfl
  · cases h
noncomputable def O_31_31_1 {R : Type} : St → (Ex → St → Option R) → Option R := fun T k => o_31_1 G_31_1 T k
noncomputable def O_31_31_0 {R : Type} : St → (Ex → St → Option R) → Option R := fun T k => o_31_0 G_31_0 T k
theorem body_31_1 {R : Type} (K0 : St → Option R) (K1 : Ex → St → Option R) (p0 : Zt31_0) (p1 : Zt31_0) (p2 : Int) (p3 : Int) : evLB (evCodeL sm_31 FU (ovr noO (evFn sm_31 fns FU 0)) .nil ir31_b1) (St.norm ir31_v1) (T_31_1 p0 p1 p2 p3) K0 K1 =
  gd (inB p2 (List.length p0)) (bif decide (p3 < (↑(List.length ((List.getD p0 (Int.toNat p2) (Ty.dflt Zy31_1)).2.1)) : Int)) then gd (inB p2 (List.length p0)) (gd (inB p3 (List.length ((List.getD p0 (Int.toNat p2) (Ty.dflt Zy31_1)).2.1))) (gd (inB p2 (List.length p1)) (gd (inB p3 (List.length ((List.getD p1 (Int.toNat p2) (Ty.dflt Zy31_1)).2.1))) (bif List.getD ((List.getD p0 (Int.toNat p2) (Ty.dflt Zy31_1)).2.1) (Int.toNat p3) (0 : Int) != List.getD ((List.getD p1 (Int.toNat p2) (Ty.dflt Zy31_1)).2.1) (Int.toNat p3) (0 : Int) then K1 Ex.ret X_31_1_0 else K0 (T_31_1 p0 p1 p2 (IntKind.wrap IntKind.i64 (p3 + (1 : Int)))))))) else K1 (Ex.exit (2 : Nat)) (X_31_1_1 p0 p1 p2)) := by kernel_rfl
theorem Bgd_31_1 {R : Type} {c : Bool} {x : Option R} {y : Option Sp.E_31_1} {k0 : Option R} {k1 : (Zt31_0) → (Zt31_0) → (Int) → Option R} (h : x = Sp.B_31_1 y k0 k1) : gd c x = Sp.B_31_1 (gd c y) k0 k1 := by cases c; rfl; exact h
theorem Bcond_31_1 {R : Type} {c : Bool} {x x' : Option R} {y y' : Option Sp.E_31_1} {k0 : Option R} {k1 : (Zt31_0) → (Zt31_0) → (Int) → Option R} (h : x = Sp.B_31_1 y k0 k1) (h' : x' = Sp.B_31_1 y' k0 k1) : (bif c then x else x') = Sp.B_31_1 (bif c then y else y') k0 k1 := by cases c; exact h'; exact h
theorem loop_31_1 {R : Type} (k : Ex → St → Option R) : ∀ (m : Nat) (p0 : Zt31_0) (p1 : Zt31_0) (p2 : Int) (p3 : Int), evLoopN (evCodeL sm_31 FU (ovr noO (evFn sm_31 fns FU 0)) .nil ir31_b1) (St.norm ir31_v1) m (T_31_1 p0 p1 p2 p3) k = Sp.B_31_1 (Sp.L_31_1 m p0 p1 p2 p3) (k Ex.ret (X_31_1_0)) (fun p0 p1 p2 => k (Ex.exit (2 : Nat)) (X_31_1_1 p0 p1 p2))
  | 0, _, _, _, _ => rfl
  | m + 1, p0, p1, p2, p3 => by
    rw [evLoopN_succ, body_31_1, Sp.L_31_1]
    repeat' first | apply Bgd_31_1 | apply Bcond_31_1 | exact loop_31_1 k m _ _ _ _ | rfl
theorem ok_31_1 {R : Type} (T : St) (k : Ex → St → Option R) (r : R) (h0 : o_31_1 G_31_1 T k = some r) : evLoopN (evCode sm_31 FU (evFn sm_31 fns FU 0) ir31_b1) (St.norm ir31_v1) FU T k = some r := by
  obtain ⟨p0, p1, p2, p3, rfl, h⟩ := o_31_1_inv h0
  refine evLoopN_L (t := .nil) noO_ok trivial _ _ _ _ ?_
  rw [loop_31_1]
  exact h
theorem OK_31_31_1 {R : Type} (T : St) (k : Ex → St → Option R) (r : R) (h : O_31_31_1 T k = some r) : evLoopN (evCode sm_31 FU (evFn sm_31 fns FU 0) ir31_b1) (St.norm ir31_v1) FU T k = some r := ok_31_1 T k r h
theorem body_31_0 {R : Type} (K0 : St → Option R) (K1 : Ex → St → Option R) (p0 : Zt31_0) (p1 : Zt31_0) (p2 : Int) : evLB (evCodeL sm_31 FU (ovr noO (evFn sm_31 fns FU 0)) (ir31_bt0 O_31_31_1) ir31_b0) (St.norm ir31_v0) (T_31_0 p0 p1 p2) K0 K1 =
  bif decide (p2 < (↑(List.length p0) : Int)) then gd (inB p2 (List.length p0)) (gd (inB p2 (List.length p1)) (bif (List.getD p0 (Int.toNat p2) (Ty.dflt Zy31_1)).1 != (List.getD p1 (Int.toNat p2) (Ty.dflt Zy31_1)).1 then K1 Ex.ret X_31_0_0 else gd (inB p2 (List.length p0)) (gd (inB p2 (List.length p1)) (bif (↑(List.length ((List.getD p0 (Int.toNat p2) (Ty.dflt Zy31_1)).2.1)) : Int) != (↑(List.length ((List.getD p1 (Int.toNat p2) (Ty.dflt Zy31_1)).2.1)) : Int) then K1 Ex.ret X_31_0_0 else Sp.B_31_1 (Sp.L_31_1 (4611686018427387904 : Nat) p0 p1 p2 (0 : Int)) (K1 Ex.ret X_31_0_0) fun y7 y8 y9 => K0 (T_31_0 y7 y8 (IntKind.wrap IntKind.i64 (y9 + (1 : Int)))))))) else K1 (Ex.exit (0 : Nat)) X_31_0_1 := by kernel_rfl
theorem Bgd_31_0 {R : Type} {c : Bool} {x : Option R} {y : Option Sp.E_31_0} {k0 : Option R} {k1 : Option R} (h : x = Sp.B_31_0 y k0 k1) : gd c x = Sp.B_31_0 (gd c y) k0 k1 := by cases c; rfl; exact h
theorem Bcond_31_0 {R : Type} {c : Bool} {x x' : Option R} {y y' : Option Sp.E_31_0} {k0 : Option R} {k1 : Option R} (h : x = Sp.B_31_0 y k0 k1) (h' : x' = Sp.B_31_0 y' k0 k1) : (bif c then x else x') = Sp.B_31_0 (bif c then y else y') k0 k1 := by cases c; exact h'; exact h
theorem Bin_31_0_31_1 {R : Type} {r : Option Sp.E_31_1} {k0 : Option R} {k1 : Option R} {f0 : Option R} {f1 : (Zt31_0) → (Zt31_0) → (Int) → Option R} {g0 : Option Sp.E_31_0} {g1 : (Zt31_0) → (Zt31_0) → (Int) → Option Sp.E_31_0} (h0 : f0 = Sp.B_31_0 g0 k0 k1) (h1 : ∀ z0 z1 z2, f1 z0 z1 z2 = Sp.B_31_0 (g1 z0 z1 z2) k0 k1) : Sp.B_31_1 r f0 f1 = Sp.B_31_0 (Sp.B_31_1 r g0 g1) k0 k1 := by
  cases r with
  | none => rfl
  | some e => cases e with
    | e0 => exact h0
    | e1 z0 z1 z2 => exact h1 _ _ _
theorem loop_31_0 {R : Type} (k : Ex → St → Option R) : ∀ (m : Nat) (p0 : Zt31_0) (p1 : Zt31_0) (p2 : Int), evLoopN (evCodeL sm_31 FU (ovr noO (evFn sm_31 fns FU 0)) (ir31_bt0 O_31_31_1) ir31_b0) (St.norm ir31_v0) m (T_31_0 p0 p1 p2) k = Sp.B_31_0 (Sp.L_31_0 m p0 p1 p2) (k Ex.ret (X_31_0_0)) (k (Ex.exit (0 : Nat)) (X_31_0_1))
  | 0, _, _, _ => rfl
  | m + 1, p0, p1, p2 => by
    rw [evLoopN_succ, body_31_0, Sp.L_31_0]
    repeat' first | apply Bgd_31_0 | apply Bcond_31_0 | (apply Bin_31_0_31_1 <;> intros) | exact loop_31_0 k m _ _ _ | rfl
theorem ok_31_0 {R : Type} (T : St) (k : Ex → St → Option R) (r : R) (h0 : o_31_0 G_31_0 T k = some r) : evLoopN (evCode sm_31 FU (evFn sm_31 fns FU 0) ir31_b0) (St.norm ir31_v0) FU T k = some r := by
  obtain ⟨p0, p1, p2, rfl, h⟩ := o_31_0_inv h0
  refine evLoopN_L (t := (ir31_bt0 O_31_31_1)) noO_ok (ir31_bt0ok (fun T k r => OK_31_31_1 T k r)) _ _ _ _ ?_
  rw [loop_31_0]
  exact h
theorem OK_31_31_0 {R : Type} (T : St) (k : Ex → St → Option R) (r : R) (h : O_31_31_0 T k = some r) : evLoopN (evCode sm_31 FU (evFn sm_31 fns FU 0) ir31_b0) (St.norm ir31_v0) FU T k = some r := ok_31_0 T k r h
noncomputable def F_31 (a0 : (List (Int × ((List Int) × Unit)))) (a1 : (List (Int × ((List Int) × Unit)))) : Option (Bool × Unit) :=
  bif (↑(List.length a0) : Int) != (↑(List.length a1) : Int) then some (false, PUnit.unit) else Sp.B_31_0 (Sp.L_31_0 (4611686018427387904 : Nat) a0 a1 (0 : Int)) (some (false, PUnit.unit)) (some (true, PUnit.unit))
theorem fn_31 (a0 : (List (Int × ((List Int) × Unit)))) (a1 : (List (Int × ((List Int) × Unit)))) : evFnL sm_31 FU (ovr noO (evFn sm_31 fns FU 0)) (ir31_t O_31_31_0) ir31 (ofH [Zy31_3, Zy31_3] (a0, a1, ())) [] (pureK [.bool]) = F_31 a0 a1 := by kernel_rfl
noncomputable def Sp.p_31 (a0 : (List (Int × ((List Int) × Unit)))) (a1 : (List (Int × ((List Int) × Unit)))) : Bool := (F_31 a0 a1).isSome
noncomputable def Sp.v_31 (a0 : (List (Int × ((List Int) × Unit)))) (a1 : (List (Int × ((List Int) × Unit)))) : Bool × Unit := (F_31 a0 a1).getD (dfH [.bool])
noncomputable def s_31 : Summ := shN [Zy31_3, Zy31_3] [.bool] (fun x => Sp.p_31 x.1 x.2.1) (fun x => Sp.v_31 x.1 x.2.1)
theorem run_31 (x : HDen [Zy31_3, Zy31_3]) (y : HDen [.bool]) (h : F_31 x.1 x.2.1 = some y) : evFn sm_31 fns FU 1 31 (ofH [Zy31_3, Zy31_3] x) [] (pureK [.bool]) = some y :=
  evFnL_sound (fn := ir31) (t := (ir31_t O_31_31_0)) (o := noO) rfl noO_ok (ir31_tok (fun T k r => OK_31_31_0 T k r)) ((fn_31 _ _).trans h)
end
end Go.Ev
namespace Go.Ev
open Go
set_option maxRecDepth 100000
set_option maxHeartbeats 4000000
set_option linter.unusedVariables false
noncomputable section

noncomputable def sm_47 : Nat → Option Summ := fun f => none
noncomputable def T_47_0 (p0 : List Int) (p1 : Int) (p2 : Int) (p3 : Int) : St := St.mk ([CV.pure (Ty.slice (Ty.int IntKind.i64)) p0, CV.int IntKind.i64 p1, jk, jk, jk, jk, jk, CV.int IntKind.i64 p2, CV.int IntKind.i64 p3] ++ (jl 10)) [] (0 : Nat)
noncomputable def X_47_0_0 (p3 : Int) : St := St.mk ([jk, jk, jk, jk, CV.int IntKind.i64 p3] ++ (jl 14)) [] (0 : Nat)
noncomputable def X_47_0_1 : St := St.mk (jl 19) [] (0 : Nat)
inductive Sp.E_47_0 where
  | e0 (p3 : Int)
  | e1
noncomputable def Sp.B_47_0 {R : Type} (r : Option Sp.E_47_0) (k0 : (Int) → Option R) (k1 : Option R) : Option R := match r with
  | none => none
  | some (.e0 p3) => k0 p3
  | some (.e1) => k1
noncomputable def Sp.L_47_0 : Nat → (List Int) → (Int) → (Int) → (Int) → Option Sp.E_47_0
  | 0, _, _, _, _ => none
  | m + 1, p0, p1, p2, p3 => bif decide (p3 < p2) then gd (inB p3 (List.length p0)) (bif p1 == List.getD p0 (Int.toNat p3) (0 : Int) then some (Sp.E_47_0.e0 p3) else Sp.L_47_0 m p0 p1 p2 (IntKind.wrap IntKind.i64 (p3 + (1 : Int)))) else some (Sp.E_47_0.e1)
noncomputable def G_47_0 {R : Type} (p0 : List Int) (p1 : Int) (p2 : Int) (p3 : Int) (k : Ex → St → Option R) : Option R := Sp.B_47_0 (Sp.L_47_0 FU p0 p1 p2 p3) (fun p3 => k Ex.ret (X_47_0_0 p3)) (k (Ex.exit (0 : Nat)) (X_47_0_1))
noncomputable def o_47_0 {R : Type} (G : (List Int) → (Int) → (Int) → (Int) → (Ex → St → Option R) → Option R) : St → (Ex → St → Option R) → Option R := fun T k => match T.sl.getD 0 .junk, T.sl.getD 1 .junk, T.sl.getD 7 .junk, T.sl.getD 8 .junk, T.hp with
  | CV.pure (Ty.slice (Ty.int IntKind.i64)) p0, CV.int IntKind.i64 p1, CV.int IntKind.i64 p2, CV.int IntKind.i64 p3, [] => gd (shapeOK T 19 [0, 1, 7, 8] (0 : Nat)) (G p0 p1 p2 p3 k)
  | _, _, _, _, _ => none
theorem o_47_0_inv {R : Type} {G : (List Int) → (Int) → (Int) → (Int) → (Ex → St → Option R) → Option R} {T : St} {k : Ex → St → Option R} {r : R} (h : o_47_0 G T k = some r) : ∃ p0 p1 p2 p3, T = T_47_0 p0 p1 p2 p3 ∧ G p0 p1 p2 p3 k = some r := by
  unfold o_47_0 at h
  split at h
  · obtain ⟨hs, h'⟩ := gd_some h
    refine ⟨_, _, _, _, (st_of (asg := [(0, _), (1, _), (7, _), (8, _)]) hs ⟨by assumption, by assumption, by assumption, by assumption, trivial⟩ (by assumption)).trans ?_, h'⟩
    kernel_rfl
  · cases h
noncomputable def O_47_47_0 {R : Type} : St → (Ex → St → Option R) → Option R := fun T k => o_47_0 G_47_0 T k
theorem body_47_0 {R : Type} (K0 : St → Option R) (K1 : Ex → St → Option R) (p0 : List Int) (p1 : Int) (p2 : Int) (p3 : Int) : evLB (evCodeL sm_47 FU (ovr noO (evFn sm_47 fns FU 0)) .nil ir47_b0) (St.norm ir47_v0) (T_47_0 p0 p1 p2 p3) K0 K1 =
  bif decide (p3 < p2) then gd (inB p3 (List.length p0)) (bif p1 == List.getD p0 (Int.toNat p3) (0 : Int) then K1 Ex.ret (X_47_0_0 p3) else K0 (T_47_0 p0 p1 p2 (IntKind.wrap IntKind.i64 (p3 + (1 : Int))))) else K1 (Ex.exit (0 : Nat)) X_47_0_1 := by kernel_rfl
theorem Bgd_47_0 {R : Type} {c : Bool} {x : Option R} {y : Option Sp.E_47_0} {k0 : (Int) → Option R} {k1 : Option R} (h : x = Sp.B_47_0 y k0 k1) : gd c x = Sp.B_47_0 (gd c y) k0 k1 := by cases c; rfl; exact h
theorem Bcond_47_0 {R : Type} {c : Bool} {x x' : Option R} {y y' : Option Sp.E_47_0} {k0 : (Int) → Option R} {k1 : Option R} (h : x = Sp.B_47_0 y k0 k1) (h' : x' = Sp.B_47_0 y' k0 k1) : (bif c then x else x') = Sp.B_47_0 (bif c then y else y') k0 k1 := by cases c; exact h'; exact h
theorem loop_47_0 {R : Type} (k : Ex → St → Option R) : ∀ (m : Nat) (p0 : List Int) (p1 : Int) (p2 : Int) (p3 : Int), evLoopN (evCodeL sm_47 FU (ovr noO (evFn sm_47 fns FU 0)) .nil ir47_b0) (St.norm ir47_v0) m (T_47_0 p0 p1 p2 p3) k = Sp.B_47_0 (Sp.L_47_0 m p0 p1 p2 p3) (fun p3 => k Ex.ret (X_47_0_0 p3)) (k (Ex.exit (0 : Nat)) (X_47_0_1))
  | 0, _, _, _, _ => rfl
  | m + 1, p0, p1, p2, p3 => by
    rw [evLoopN_succ, body_47_0, Sp.L_47_0]
    repeat' first | apply Bgd_47_0 | apply Bcond_47_0 | exact loop_47_0 k m _ _ _ _ | rfl
theorem ok_47_0 {R : Type} (T : St) (k : Ex → St → Option R) (r : R) (h0 : o_47_0 G_47_0 T k = some r) : evLoopN (evCode sm_47 FU (evFn sm_47 fns FU 0) ir47_b0) (St.norm ir47_v0) FU T k = some r := by
  obtain ⟨p0, p1, p2, p3, rfl, h⟩ := o_47_0_inv h0
  refine evLoopN_L (t := .nil) noO_ok trivial _ _ _ _ ?_
  rw [loop_47_0]
  exact h
theorem OK_47_47_0 {R : Type} (T : St) (k : Ex → St → Option R) (r : R) (h : O_47_47_0 T k = some r) : evLoopN (evCode sm_47 FU (evFn sm_47 fns FU 0) ir47_b0) (St.norm ir47_v0) FU T k = some r := ok_47_0 T k r h
noncomputable def F_47 (a0 : (List Int)) (a1 : Int) : Option (Int × Unit) :=
  Sp.B_47_0 (Sp.L_47_0 (4611686018427387904 : Nat) a0 a1 (↑(List.length a0) : Int) (0 : Int)) (fun y1 => some (y1, PUnit.unit)) (some ((-1 : Int), PUnit.unit))
theorem fn_47 (a0 : (List Int)) (a1 : Int) : evFnL sm_47 FU (ovr noO (evFn sm_47 fns FU 0)) (ir47_t O_47_47_0) ir47 (ofH [(.slice (.int .i64)), (.int .i64)] (a0, a1, ())) [] (pureK [(.int .i64)]) = F_47 a0 a1 := by kernel_rfl
noncomputable def Sp.p_47 (a0 : (List Int)) (a1 : Int) : Bool := (F_47 a0 a1).isSome
noncomputable def Sp.v_47 (a0 : (List Int)) (a1 : Int) : Int × Unit := (F_47 a0 a1).getD (dfH [(.int .i64)])
noncomputable def s_47 : Summ := shN [(.slice (.int .i64)), (.int .i64)] [(.int .i64)] (fun x => Sp.p_47 x.1 x.2.1) (fun x => Sp.v_47 x.1 x.2.1)
theorem pv_47 (a0 : (List Int)) (a1 : Int) {y : Int × Unit} (h : F_47 a0 a1 = some y) : Sp.p_47 a0 a1 = true ∧ Sp.v_47 a0 a1 = y := ⟨by rw [Sp.p_47, h]; rfl, by rw [Sp.v_47, h]; rfl⟩
theorem run_47 (x : HDen [(.slice (.int .i64)), (.int .i64)]) (y : HDen [(.int .i64)]) (h : F_47 x.1 x.2.1 = some y) : evFn sm_47 fns FU 1 47 (ofH [(.slice (.int .i64)), (.int .i64)] x) [] (pureK [(.int .i64)]) = some y :=
  evFnL_sound (fn := ir47) (t := (ir47_t O_47_47_0)) (o := noO) rfl noO_ok (ir47_tok (fun T k r => OK_47_47_0 T k r)) ((fn_47 _ _).trans h)
end
end Go.Ev
namespace Go.Ev
open Go
set_option maxRecDepth 100000
set_option maxHeartbeats 4000000
set_option linter.unusedVariables false
noncomputable section

noncomputable def sm_27 : Nat → Option Summ := fun f => bif Nat.beq f 47 then some s_47 else none


noncomputable def F_27 (a0 : (List Int)) (a1 : Int) : Option (Bool × Unit) :=
  gd (Sp.p_47 a0 a1) (some (decide ((Sp.v_47 a0 a1).1 ≥ (0 : Int)), PUnit.unit))
theorem fn_27 (a0 : (List Int)) (a1 : Int) : evFnL sm_27 FU (ovr noO (evFn sm_27 fns FU 0)) .nil ir27 (ofH [(.slice (.int .i64)), (.int .i64)] (a0, a1, ())) [] (pureK [.bool]) = F_27 a0 a1 := by kernel_rfl
noncomputable def Sp.p_27 (a0 : (List Int)) (a1 : Int) : Bool := (F_27 a0 a1).isSome
noncomputable def Sp.v_27 (a0 : (List Int)) (a1 : Int) : Bool × Unit := (F_27 a0 a1).getD (dfH [.bool])
noncomputable def s_27 : Summ := shN [(.slice (.int .i64)), (.int .i64)] [.bool] (fun x => Sp.p_27 x.1 x.2.1) (fun x => Sp.v_27 x.1 x.2.1)
theorem pv_27 (a0 : (List Int)) (a1 : Int) {y : Bool × Unit} (h : F_27 a0 a1 = some y) : Sp.p_27 a0 a1 = true ∧ Sp.v_27 a0 a1 = y := ⟨by rw [Sp.p_27, h]; rfl, by rw [Sp.v_27, h]; rfl⟩
theorem run_27 (x : HDen [(.slice (.int .i64)), (.int .i64)]) (y : HDen [.bool]) (h : F_27 x.1 x.2.1 = some y) : evFn sm_27 fns FU 1 27 (ofH [(.slice (.int .i64)), (.int .i64)] x) [] (pureK [.bool]) = some y :=
  evFnL_sound (fn := ir27) (t := .nil) (o := noO) rfl noO_ok trivial ((fn_27 _ _).trans h)
end
end Go.Ev
namespace Go.Ev
open Go
set_option maxRecDepth 100000
set_option maxHeartbeats 4000000
set_option linter.unusedVariables false
noncomputable section
abbrev Zy32_0 : Ty := (.pair (.slice (.pair (.int .i64) (.pair (.int .i64) (.pair (.int .i64) (.pair (.int .i64) (.pair (.int .i64) (.pair (.int .i64) (.pair .bool (.pair (.int .i64) .unit))))))))) (.pair (.slice (.pair (.int .i64) (.pair (.int .i64) (.pair (.int .i64) (.pair (.int .i64) (.pair (.int .i64) (.pair (.slice (.int .i64)) (.pair (.int .i64) .unit)))))))) (.pair (.int .i64) (.pair .bool .unit))))
abbrev Zt32_1 : Type := List (Int × Int × Int × Int × Int × Int × Bool × Int × Unit)
abbrev Zt32_2 : Type := List (Int × Int × Int × Int × Int × List Int × Int × Unit)
abbrev Zy32_3 : Ty := (Ty.pair (Ty.int IntKind.i64) (Ty.pair (Ty.int IntKind.i64) (Ty.pair (Ty.int IntKind.i64) (Ty.pair (Ty.int IntKind.i64) (Ty.pair (Ty.int IntKind.i64) (Ty.pair (Ty.int IntKind.i64) (Ty.pair Ty.bool (Ty.pair (Ty.int IntKind.i64) Ty.unit))))))))
abbrev Zy32_4 : Ty := (Ty.pair (Ty.int IntKind.i64) (Ty.pair (Ty.int IntKind.i64) (Ty.pair (Ty.int IntKind.i64) (Ty.pair (Ty.int IntKind.i64) (Ty.pair (Ty.int IntKind.i64) (Ty.pair (Ty.slice (Ty.int IntKind.i64)) (Ty.pair (Ty.int IntKind.i64) Ty.unit)))))))
abbrev Zy32_5 : Ty := (.pair (.int .i64) (.pair (.int .i64) (.pair (.slice (.int .i64)) (.pair (.int .i64) .unit))))
abbrev Zt32_6 : Type := Int × Bool × Unit
abbrev Zy32_7 : Ty := (Ty.pair (Ty.int IntKind.i64) (Ty.pair Ty.bool Ty.unit))

noncomputable def sm_32 : Nat → Option Summ := fun f => bif Nat.beq f 27 then some s_27 else none
noncomputable def T_32_0 (p0 : List Int) (p1 : Int) (p2 : Zt32_6) (p3 : Zt32_1) (p4 : Zt32_2) (p5 : Zt32_6) (p6 : Zt32_1) (p7 : Zt32_2) : St := St.mk ([CV.pure (Ty.slice (Ty.int IntKind.i64)) p0, jk, jk, CV.ptr (0 : Nat) [], CV.ptr (3 : Nat) [], jk, jk, jk, CV.int IntKind.i64 p1] ++ (jl 28)) [Blk.mem (CV.pair (CV.whole (1 : Nat)) (CV.pair (CV.whole (2 : Nat)) (CV.pure Zy32_7 p2))), Blk.vec (77 : Nat) Zy32_3 p3, Blk.vec (67 : Nat) Zy32_4 p4, Blk.mem (CV.pair (CV.whole (4 : Nat)) (CV.pair (CV.whole (5 : Nat)) (CV.pure Zy32_7 p5))), Blk.vec (77 : Nat) Zy32_3 p6, Blk.vec (67 : Nat) Zy32_4 p7] (0 : Nat)
noncomputable def X_32_0_0 (p2 : Zt32_6) (p3 : Zt32_1) (p4 : Zt32_2) (p5 : Zt32_6) (p6 : Zt32_1) (p7 : Zt32_2) : St := St.mk ([jk, jk, jk, CV.ptr (0 : Nat) [], CV.ptr (3 : Nat) []] ++ (jl 32)) [Blk.mem (CV.pair (CV.whole (1 : Nat)) (CV.pair (CV.whole (2 : Nat)) (CV.pure Zy32_7 p2))), Blk.vec (77 : Nat) Zy32_3 p3, Blk.vec (67 : Nat) Zy32_4 p4, Blk.mem (CV.pair (CV.whole (4 : Nat)) (CV.pair (CV.whole (5 : Nat)) (CV.pure Zy32_7 p5))), Blk.vec (77 : Nat) Zy32_3 p6, Blk.vec (67 : Nat) Zy32_4 p7] (0 : Nat)
inductive Sp.E_32_0 where
  | e0 (p2 : Zt32_6) (p3 : Zt32_1) (p4 : Zt32_2) (p5 : Zt32_6) (p6 : Zt32_1) (p7 : Zt32_2)
noncomputable def Sp.B_32_0 {R : Type} (r : Option Sp.E_32_0) (k0 : (Zt32_6) → (Zt32_1) → (Zt32_2) → (Zt32_6) → (Zt32_1) → (Zt32_2) → Option R) : Option R := match r with
  | none => none
  | some (.e0 p2 p3 p4 p5 p6 p7) => k0 p2 p3 p4 p5 p6 p7
noncomputable def Sp.L_32_0 : Nat → (List Int) → (Int) → (Int × Bool × Unit) → (List (Int × Int × Int × Int × Int × Int × Bool × Int × Unit)) → (List (Int × Int × Int × Int × Int × List Int × Int × Unit)) → (Int × Bool × Unit) → (List (Int × Int × Int × Int × Int × Int × Bool × Int × Unit)) → (List (Int × Int × Int × Int × Int × List Int × Int × Unit)) → Option Sp.E_32_0
  | 0, _, _, _, _, _, _, _, _ => none
  | m + 1, p0, p1, p2, p3, p4, p5, p6, p7 => bif decide (p1 < (4 : Int)) then gd (room (List.length p6 + (1 : Nat)) (64 : Nat)) (gd (Sp.p_27 p0 p1) (bif (Sp.v_27 p0 p1).1 then gd (room (List.length p7 + (1 : Nat)) (72 : Nat)) (Sp.L_32_0 m p0 (IntKind.wrap IntKind.i64 (p1 + (1 : Int))) p2 p3 p4 p5 (p6 ++ [(IntKind.wrap IntKind.i64 ((1 : Int) + p1), (1 : Int), (1 : Int), (1 : Int), (1 : Int), (0 : Int), false, (0 : Int), PUnit.unit)]) (p7 ++ [((4 : Int), (0 : Int), (2 : Int), (0 : Int), (2 : Int), [], (2 : Int), PUnit.unit)])) else gd (room (List.length p7 + (1 : Nat)) (72 : Nat)) (Sp.L_32_0 m p0 (IntKind.wrap IntKind.i64 (p1 + (1 : Int))) p2 p3 p4 p5 (p6 ++ [(IntKind.wrap IntKind.i64 ((1 : Int) + p1), (1 : Int), (1 : Int), (1 : Int), (1 : Int), (0 : Int), false, (0 : Int), PUnit.unit)]) (p7 ++ [((0 : Int), (0 : Int), (0 : Int), (0 : Int), (0 : Int), [], (0 : Int), PUnit.unit)])))) else some (Sp.E_32_0.e0 p2 p3 p4 p5 p6 p7)
noncomputable def G_32_0 {R : Type} (p0 : List Int) (p1 : Int) (p2 : Zt32_6) (p3 : Zt32_1) (p4 : Zt32_2) (p5 : Zt32_6) (p6 : Zt32_1) (p7 : Zt32_2) (k : Ex → St → Option R) : Option R := Sp.B_32_0 (Sp.L_32_0 FU p0 p1 p2 p3 p4 p5 p6 p7) (fun p2 p3 p4 p5 p6 p7 => k (Ex.exit (0 : Nat)) (X_32_0_0 p2 p3 p4 p5 p6 p7))
noncomputable def o_32_0 {R : Type} (G : (List Int) → (Int) → (Zt32_6) → (Zt32_1) → (Zt32_2) → (Zt32_6) → (Zt32_1) → (Zt32_2) → (Ex → St → Option R) → Option R) : St → (Ex → St → Option R) → Option R := fun T k => match T.sl.getD 0 .junk, T.sl.getD 3 .junk, T.sl.getD 4 .junk, T.sl.getD 8 .junk, T.hp with
  | CV.pure (Ty.slice (Ty.int IntKind.i64)) p0, CV.ptr (0 : Nat) [], CV.ptr (3 : Nat) [], CV.int IntKind.i64 p1, ((Blk.mem (CV.pair (CV.whole (1 : Nat)) (CV.pair (CV.whole (2 : Nat)) (CV.pure (Ty.pair (Ty.int IntKind.i64) (Ty.pair Ty.bool Ty.unit)) p2)))) :: (Blk.vec (77 : Nat) (Ty.pair (Ty.int IntKind.i64) (Ty.pair (Ty.int IntKind.i64) (Ty.pair (Ty.int IntKind.i64) (Ty.pair (Ty.int IntKind.i64) (Ty.pair (Ty.int IntKind.i64) (Ty.pair (Ty.int IntKind.i64) (Ty.pair Ty.bool (Ty.pair (Ty.int IntKind.i64) Ty.unit)))))))) p3) :: (Blk.vec (67 : Nat) (Ty.pair (Ty.int IntKind.i64) (Ty.pair (Ty.int IntKind.i64) (Ty.pair (Ty.int IntKind.i64) (Ty.pair (Ty.int IntKind.i64) (Ty.pair (Ty.int IntKind.i64) (Ty.pair (Ty.slice (Ty.int IntKind.i64)) (Ty.pair (Ty.int IntKind.i64) Ty.unit))))))) p4) :: (Blk.mem (CV.pair (CV.whole (4 : Nat)) (CV.pair (CV.whole (5 : Nat)) (CV.pure (Ty.pair (Ty.int IntKind.i64) (Ty.pair Ty.bool Ty.unit)) p5)))) :: (Blk.vec (77 : Nat) (Ty.pair (Ty.int IntKind.i64) (Ty.pair (Ty.int IntKind.i64) (Ty.pair (Ty.int IntKind.i64) (Ty.pair (Ty.int IntKind.i64) (Ty.pair (Ty.int IntKind.i64) (Ty.pair (Ty.int IntKind.i64) (Ty.pair Ty.bool (Ty.pair (Ty.int IntKind.i64) Ty.unit)))))))) p6) :: (Blk.vec (67 : Nat) (Ty.pair (Ty.int IntKind.i64) (Ty.pair (Ty.int IntKind.i64) (Ty.pair (Ty.int IntKind.i64) (Ty.pair (Ty.int IntKind.i64) (Ty.pair (Ty.int IntKind.i64) (Ty.pair (Ty.slice (Ty.int IntKind.i64)) (Ty.pair (Ty.int IntKind.i64) Ty.unit))))))) p7) :: []) => gd (shapeOK T 37 [0, 3, 4, 8] (0 : Nat)) (G p0 p1 p2 p3 p4 p5 p6 p7 k)
  | _, _, _, _, _ => none
theorem o_32_0_inv {R : Type} {G : (List Int) → (Int) → (Zt32_6) → (Zt32_1) → (Zt32_2) → (Zt32_6) → (Zt32_1) → (Zt32_2) → (Ex → St → Option R) → Option R} {T : St} {k : Ex → St → Option R} {r : R} (h : o_32_0 G T k = some r) : ∃ p0 p1 p2 p3 p4 p5 p6 p7, T = T_32_0 p0 p1 p2 p3 p4 p5 p6 p7 ∧ G p0 p1 p2 p3 p4 p5 p6 p7 k = some r := by
  unfold o_32_0 at h
  split at h
  · obtain ⟨hs, h'⟩ := gd_some h
    refine ⟨_, _, _, _, _, _, _, _, (st_of (asg := [(0, _), (3, _), (4, _), (8, _)]) hs ⟨by assumption, by assumption, by assumption, by assumption, trivial⟩ (by assumption)).trans ?_, h'⟩
    kernel_rfl
  · cases h
noncomputable def O_32_32_0 {R : Type} : St → (Ex → St → Option R) → Option R := fun T k => o_32_0 G_32_0 T k
theorem body_32_0 {R : Type} (K0 : St → Option R) (K1 : Ex → St → Option R) (p0 : List Int) (p1 : Int) (p2 : Zt32_6) (p3 : Zt32_1) (p4 : Zt32_2) (p5 : Zt32_6) (p6 : Zt32_1) (p7 : Zt32_2) : evLB (evCodeL sm_32 FU (ovr noO (evFn sm_32 fns FU 0)) .nil ir32_b0) (St.norm ir32_v0) (T_32_0 p0 p1 p2 p3 p4 p5 p6 p7) K0 K1 =
  bif decide (p1 < (4 : Int)) then gd (room (List.length p6 + (1 : Nat)) (64 : Nat)) (gd (Sp.p_27 p0 p1) (bif (Sp.v_27 p0 p1).1 then gd (room (List.length p7 + (1 : Nat)) (72 : Nat)) (K0 (T_32_0 p0 (IntKind.wrap IntKind.i64 (p1 + (1 : Int))) p2 p3 p4 p5 (p6 ++ [(IntKind.wrap IntKind.i64 ((1 : Int) + p1), (1 : Int), (1 : Int), (1 : Int), (1 : Int), (0 : Int), false, (0 : Int), PUnit.unit)]) (p7 ++ [((4 : Int), (0 : Int), (2 : Int), (0 : Int), (2 : Int), [], (2 : Int), PUnit.unit)]))) else gd (room (List.length p7 + (1 : Nat)) (72 : Nat)) (K0 (T_32_0 p0 (IntKind.wrap IntKind.i64 (p1 + (1 : Int))) p2 p3 p4 p5 (p6 ++ [(IntKind.wrap IntKind.i64 ((1 : Int) + p1), (1 : Int), (1 : Int), (1 : Int), (1 : Int), (0 : Int), false, (0 : Int), PUnit.unit)]) (p7 ++ [((0 : Int), (0 : Int), (0 : Int), (0 : Int), (0 : Int), [], (0 : Int), PUnit.unit)]))))) else K1 (Ex.exit (0 : Nat)) (X_32_0_0 p2 p3 p4 p5 p6 p7) := by kernel_rfl
theorem Bgd_32_0 {R : Type} {c : Bool} {x : Option R} {y : Option Sp.E_32_0} {k0 : (Zt32_6) → (Zt32_1) → (Zt32_2) → (Zt32_6) → (Zt32_1) → (Zt32_2) → Option R} (h : x = Sp.B_32_0 y k0) : gd c x = Sp.B_32_0 (gd c y) k0 := by cases c; rfl; exact h
theorem Bcond_32_0 {R : Type} {c : Bool} {x x' : Option R} {y y' : Option Sp.E_32_0} {k0 : (Zt32_6) → (Zt32_1) → (Zt32_2) → (Zt32_6) → (Zt32_1) → (Zt32_2) → Option R} (h : x = Sp.B_32_0 y k0) (h' : x' = Sp.B_32_0 y' k0) : (bif c then x else x') = Sp.B_32_0 (bif c then y else y') k0 := by cases c; exact h'; exact h
theorem loop_32_0 {R : Type} (k : Ex → St → Option R) : ∀ (m : Nat) (p0 : List Int) (p1 : Int) (p2 : Zt32_6) (p3 : Zt32_1) (p4 : Zt32_2) (p5 : Zt32_6) (p6 : Zt32_1) (p7 : Zt32_2), evLoopN (evCodeL sm_32 FU (ovr noO (evFn sm_32 fns FU 0)) .nil ir32_b0) (St.norm ir32_v0) m (T_32_0 p0 p1 p2 p3 p4 p5 p6 p7) k = Sp.B_32_0 (Sp.L_32_0 m p0 p1 p2 p3 p4 p5 p6 p7) (fun p2 p3 p4 p5 p6 p7 => k (Ex.exit (0 : Nat)) (X_32_0_0 p2 p3 p4 p5 p6 p7))
  | 0, _, _, _, _, _, _, _, _ => rfl
  | m + 1, p0, p1, p2, p3, p4, p5, p6, p7 => by
    rw [evLoopN_succ, body_32_0, Sp.L_32_0]
    repeat' first | apply Bgd_32_0 | apply Bcond_32_0 | exact loop_32_0 k m _ _ _ _ _ _ _ _ | rfl
theorem ok_32_0 {R : Type} (T : St) (k : Ex → St → Option R) (r : R) (h0 : o_32_0 G_32_0 T k = some r) : evLoopN (evCode sm_32 FU (evFn sm_32 fns FU 0) ir32_b0) (St.norm ir32_v0) FU T k = some r := by
  obtain ⟨p0, p1, p2, p3, p4, p5, p6, p7, rfl, h⟩ := o_32_0_inv h0
  refine evLoopN_L (t := .nil) noO_ok trivial _ _ _ _ ?_
  rw [loop_32_0]
  exact h
theorem OK_32_32_0 {R : Type} (T : St) (k : Ex → St → Option R) (r : R) (h : O_32_32_0 T k = some r) : evLoopN (evCode sm_32 FU (evFn sm_32 fns FU 0) ir32_b0) (St.norm ir32_v0) FU T k = some r := ok_32_0 T k r h
noncomputable def F_32 (a0 : (List Int)) : Option ((List ((List Int) × (Int × (Int × ((List Int) × (Int × Unit)))))) × ((List (Int × (Int × (Int × (Int × (Int × (Int × (Bool × (Int × Unit))))))))) × ((List (Int × (Int × (Int × (Int × (Int × ((List Int) × (Int × Unit)))))))) × (Int × (Bool × Unit)))) × Unit) :=
  Sp.B_32_0 (Sp.L_32_0 (4611686018427387904 : Nat) a0 (0 : Int) ((0 : Int), false, PUnit.unit) [] [] ((2 : Int), false, PUnit.unit) [] []) fun y6 y7 y8 y9 y10 y11 => some ([([(108 : Int), (105 : Int), (109 : Int), (112 : Int)], (1 : Int), (2 : Int), [(0 : Int), (3 : Int)], (800 : Int), PUnit.unit), ([(115 : Int), (108 : Int), (111 : Int), (119 : Int)], (1 : Int), (1 : Int), [(1 : Int)], (300 : Int), PUnit.unit)], (y10, y11, y9), PUnit.unit)
theorem fn_32 (a0 : (List Int)) : evFnL sm_32 FU (ovr noO (evFn sm_32 fns FU 0)) (ir32_t O_32_32_0) ir32 (ofH [(.slice (.int .i64))] (a0, ())) [] (pureK [(.slice (.pair .str Zy32_5)), Zy32_0]) = F_32 a0 := by kernel_rfl
noncomputable def Sp.p_32 (a0 : (List Int)) : Bool := (F_32 a0).isSome
noncomputable def Sp.v_32 (a0 : (List Int)) : (List ((List Int) × (Int × (Int × ((List Int) × (Int × Unit)))))) × ((List (Int × (Int × (Int × (Int × (Int × (Int × (Bool × (Int × Unit))))))))) × ((List (Int × (Int × (Int × (Int × (Int × ((List Int) × (Int × Unit)))))))) × (Int × (Bool × Unit)))) × Unit := (F_32 a0).getD (dfH [(.slice (.pair .str Zy32_5)), Zy32_0])
noncomputable def s_32 : Summ := shS [(.slice (.int .i64))] [(.slice (.pair .str Zy32_5)), Zy32_0] (fun x => Sp.p_32 x.1) (fun x => Sp.v_32 x.1)
theorem run_32 (x : HDen [(.slice (.int .i64))]) (y : HDen [(.slice (.pair .str Zy32_5)), Zy32_0]) (h : F_32 x.1 = some y) : evFn sm_32 fns FU 1 32 (ofH [(.slice (.int .i64))] x) [] (pureK [(.slice (.pair .str Zy32_5)), Zy32_0]) = some y :=
  evFnL_sound (fn := ir32) (t := (ir32_t O_32_32_0)) (o := noO) rfl noO_ok (ir32_tok (fun T k r => OK_32_32_0 T k r)) ((fn_32 _).trans h)
end
end Go.Ev
namespace Go.Ev
open Go
set_option maxRecDepth 100000
set_option maxHeartbeats 4000000
set_option linter.unusedVariables false
noncomputable section

noncomputable def sm_8 : Nat → Option Summ := fun f => bif Nat.beq f 10 then some s_10 else bif Nat.beq f 19 then some s_19 else bif Nat.beq f 25 then some s_25 else bif Nat.beq f 31 then some s_31 else bif Nat.beq f 32 then some s_32 else none


noncomputable def F_8  : Option (Bool × Unit) :=
  gd (Sp.p_32 [(1 : Int), (3 : Int)]) (gd (Sp.p_19 ((Sp.v_32 [(1 : Int), (3 : Int)]).1) ((Sp.v_32 [(1 : Int), (3 : Int)]).2.1)) (gd (Sp.p_10 ((Sp.v_32 [(1 : Int), (3 : Int)]).1) ((Sp.v_19 ((Sp.v_32 [(1 : Int), (3 : Int)]).1) ((Sp.v_32 [(1 : Int), (3 : Int)]).2.1)).1) (1 : Int) (9000 : Int)) (gd (Sp.p_25 ((Sp.v_32 [(1 : Int), (3 : Int)]).1) ((Sp.v_32 [(1 : Int), (3 : Int)]).2.1) (3 : Int)) (bif (Sp.v_19 ((Sp.v_32 [(1 : Int), (3 : Int)]).1) ((Sp.v_32 [(1 : Int), (3 : Int)]).2.1)).2.1 == (0 : Int) then gd (Sp.p_31 ((Sp.v_19 ((Sp.v_32 [(1 : Int), (3 : Int)]).1) ((Sp.v_32 [(1 : Int), (3 : Int)]).2.1)).1) [((0 : Int), [(3 : Int)], PUnit.unit), ((1 : Int), [(1 : Int)], PUnit.unit)]) (bif (Sp.v_31 ((Sp.v_19 ((Sp.v_32 [(1 : Int), (3 : Int)]).1) ((Sp.v_32 [(1 : Int), (3 : Int)]).2.1)).1) [((0 : Int), [(3 : Int)], PUnit.unit), ((1 : Int), [(1 : Int)], PUnit.unit)]).1 then bif (Sp.v_10 ((Sp.v_32 [(1 : Int), (3 : Int)]).1) ((Sp.v_19 ((Sp.v_32 [(1 : Int), (3 : Int)]).1) ((Sp.v_32 [(1 : Int), (3 : Int)]).2.1)).1) (1 : Int) (9000 : Int)).1 == (800 : Int) then bif (Sp.v_10 ((Sp.v_32 [(1 : Int), (3 : Int)]).1) ((Sp.v_19 ((Sp.v_32 [(1 : Int), (3 : Int)]).1) ((Sp.v_32 [(1 : Int), (3 : Int)]).2.1)).1) (1 : Int) (9000 : Int)).2.1 == (0 : Int) then gd (Sp.p_31 ((Sp.v_25 ((Sp.v_32 [(1 : Int), (3 : Int)]).1) ((Sp.v_32 [(1 : Int), (3 : Int)]).2.1) (3 : Int)).1) [((1 : Int), [(1 : Int)], PUnit.unit)]) (bif (Sp.v_31 ((Sp.v_25 ((Sp.v_32 [(1 : Int), (3 : Int)]).1) ((Sp.v_32 [(1 : Int), (3 : Int)]).2.1) (3 : Int)).1) [((1 : Int), [(1 : Int)], PUnit.unit)]).1 then some ((Sp.v_25 ((Sp.v_32 [(1 : Int), (3 : Int)]).1) ((Sp.v_32 [(1 : Int), (3 : Int)]).2.1) (3 : Int)).2.1 == (0 : Int), PUnit.unit) else some (false, PUnit.unit)) else some (false, PUnit.unit) else some (false, PUnit.unit) else some (false, PUnit.unit)) else some (false, PUnit.unit)))))
theorem fn_8  : evFnL sm_8 FU (ovr noO (evFn sm_8 fns FU 0)) .nil ir8 (ofH [] (())) [] (pureK [.bool]) = F_8 := by kernel_rfl
noncomputable def Sp.p_8  : Bool := (F_8).isSome
noncomputable def Sp.v_8  : Bool × Unit := (F_8).getD (dfH [.bool])
noncomputable def s_8 : Summ := shN [] [.bool] (fun x => Sp.p_8 ) (fun x => Sp.v_8 )
theorem pv_8  {y : Bool × Unit} (h : F_8 = some y) : Sp.p_8 = true ∧ Sp.v_8 = y := ⟨by rw [Sp.p_8, h]; rfl, by rw [Sp.v_8, h]; rfl⟩
theorem run_8 (x : HDen []) (y : HDen [.bool]) (h : F_8  = some y) : evFn sm_8 fns FU 1 8 (ofH [] x) [] (pureK [.bool]) = some y :=
  evFnL_sound (fn := ir8) (t := .nil) (o := noO) rfl noO_ok trivial ((fn_8).trans h)
end
end Go.Ev
