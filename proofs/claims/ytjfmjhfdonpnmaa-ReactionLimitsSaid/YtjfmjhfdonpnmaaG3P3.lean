/- Helpers: functions of the program as Lean functions, and what they compute. No condition. -/
import Derived.Test.YtjfmjhfdonpnmaaE3P2
import Derived.Test.YtjfmjhfdonpnmaaG3P1
import Derived.Test.YtjfmjhfdonpnmaaG3P2
import Derived.Test.YtjfmjhfdonpnmaaProg
import Derived.Test.YtjfmjhfdonpnmaaG3P0
set_option maxRecDepth 10000
set_option linter.unusedVariables false
set_option linter.unusedSimpArgs false
namespace Go.Ev
open Go
set_option maxRecDepth 100000
set_option maxHeartbeats 4000000
set_option linter.unusedVariables false
noncomputable section

noncomputable def sm_39 : Nat → Option Summ := fun f => none
noncomputable def T_39_0 (p0 : List Int) (p1 : Int) : St := St.mk ([CV.pure Ty.str p0, jk, jk, CV.int IntKind.i64 p1] ++ (jl 24)) [] (0 : Nat)
noncomputable def X_39_0_0 : St := St.mk ([jk, jk, CV.bool false] ++ (jl 25)) [] (0 : Nat)
noncomputable def X_39_0_1 : St := St.mk (jl 28) [] (0 : Nat)
inductive Sp.E_39_0 where
  | e0
  | e1
noncomputable def Sp.B_39_0 {R : Type} (r : Option Sp.E_39_0) (k0 : Option R) (k1 : Option R) : Option R := match r with
  | none => none
  | some (.e0) => k0
  | some (.e1) => k1
noncomputable def Sp.L_39_0 : Nat → (List Int) → (Int) → Option Sp.E_39_0
  | 0, _, _ => none
  | m + 1, p0, p1 => bif decide (p1 < (↑(List.length p0) : Int)) then gd (inB p1 (List.length p0)) (bif decide (List.getD p0 (Int.toNat p1) (0 : Int) < (33 : Int)) then some (Sp.E_39_0.e0) else gd (inB p1 (List.length p0)) (bif decide (List.getD p0 (Int.toNat p1) (0 : Int) > (126 : Int)) then some (Sp.E_39_0.e0) else Sp.L_39_0 m p0 (IntKind.wrap IntKind.i64 (p1 + (1 : Int))))) else some (Sp.E_39_0.e1)
noncomputable def G_39_0 {R : Type} (p0 : List Int) (p1 : Int) (k : Ex → St → Option R) : Option R := Sp.B_39_0 (Sp.L_39_0 FU p0 p1) (k Ex.ret (X_39_0_0)) (k (Ex.exit (0 : Nat)) (X_39_0_1))
noncomputable def o_39_0 {R : Type} (G : (List Int) → (Int) → (Ex → St → Option R) → Option R) : St → (Ex → St → Option R) → Option R := fun T k => match T.sl.getD 0 .junk, T.sl.getD 3 .junk, T.hp with
  | CV.pure Ty.str p0, CV.int IntKind.i64 p1, [] => gd (shapeOK T 28 [0, 3] (0 : Nat)) (G p0 p1 k)
  | _, _, _ => none
theorem o_39_0_inv {R : Type} {G : (List Int) → (Int) → (Ex → St → Option R) → Option R} {T : St} {k : Ex → St → Option R} {r : R} (h : o_39_0 G T k = some r) : ∃ p0 p1, T = T_39_0 p0 p1 ∧ G p0 p1 k = some r := by
  unfold o_39_0 at h
  split at h
  · obtain ⟨hs, h'⟩ := gd_some h
    refine ⟨_, _, (st_of (asg := [(0, _), (3, _)]) hs ⟨by assumption, by assumption, trivial⟩ (by assumption)).trans ?_, h'⟩
    kernel_rfl
  · cases h
noncomputable def O_39_39_0 {R : Type} : St → (Ex → St → Option R) → Option R := fun T k => o_39_0 G_39_0 T k
theorem body_39_0 {R : Type} (K0 : St → Option R) (K1 : Ex → St → Option R) (p0 : List Int) (p1 : Int) : evLB (evCodeL sm_39 FU (ovr noO (evFn sm_39 fns FU 0)) .nil ir39_b0) (St.norm ir39_v0) (T_39_0 p0 p1) K0 K1 =
  bif decide (p1 < (↑(List.length p0) : Int)) then gd (inB p1 (List.length p0)) (bif decide (List.getD p0 (Int.toNat p1) (0 : Int) < (33 : Int)) then K1 Ex.ret X_39_0_0 else gd (inB p1 (List.length p0)) (bif decide (List.getD p0 (Int.toNat p1) (0 : Int) > (126 : Int)) then K1 Ex.ret X_39_0_0 else K0 (T_39_0 p0 (IntKind.wrap IntKind.i64 (p1 + (1 : Int)))))) else K1 (Ex.exit (0 : Nat)) X_39_0_1 := by kernel_rfl
theorem Bgd_39_0 {R : Type} {c : Bool} {x : Option R} {y : Option Sp.E_39_0} {k0 : Option R} {k1 : Option R} (h : x = Sp.B_39_0 y k0 k1) : gd c x = Sp.B_39_0 (gd c y) k0 k1 := by cases c; rfl; exact h
theorem Bcond_39_0 {R : Type} {c : Bool} {x x' : Option R} {y y' : Option Sp.E_39_0} {k0 : Option R} {k1 : Option R} (h : x = Sp.B_39_0 y k0 k1) (h' : x' = Sp.B_39_0 y' k0 k1) : (bif c then x else x') = Sp.B_39_0 (bif c then y else y') k0 k1 := by cases c; exact h'; exact h
theorem loop_39_0 {R : Type} (k : Ex → St → Option R) : ∀ (m : Nat) (p0 : List Int) (p1 : Int), evLoopN (evCodeL sm_39 FU (ovr noO (evFn sm_39 fns FU 0)) .nil ir39_b0) (St.norm ir39_v0) m (T_39_0 p0 p1) k = Sp.B_39_0 (Sp.L_39_0 m p0 p1) (k Ex.ret (X_39_0_0)) (k (Ex.exit (0 : Nat)) (X_39_0_1))
  | 0, _, _ => rfl
  | m + 1, p0, p1 => by
    rw [evLoopN_succ, body_39_0, Sp.L_39_0]
    repeat' first | apply Bgd_39_0 | apply Bcond_39_0 | exact loop_39_0 k m _ _ | rfl
theorem ok_39_0 {R : Type} (T : St) (k : Ex → St → Option R) (r : R) (h0 : o_39_0 G_39_0 T k = some r) : evLoopN (evCode sm_39 FU (evFn sm_39 fns FU 0) ir39_b0) (St.norm ir39_v0) FU T k = some r := by
  obtain ⟨p0, p1, rfl, h⟩ := o_39_0_inv h0
  refine evLoopN_L (t := .nil) noO_ok trivial _ _ _ _ ?_
  rw [loop_39_0]
  exact h
theorem OK_39_39_0 {R : Type} (T : St) (k : Ex → St → Option R) (r : R) (h : O_39_39_0 T k = some r) : evLoopN (evCode sm_39 FU (evFn sm_39 fns FU 0) ir39_b0) (St.norm ir39_v0) FU T k = some r := ok_39_0 T k r h
noncomputable def F_39 (a0 : (List Int)) : Option (Bool × Unit) :=
  bif decide ((↑(List.length a0) : Int) < (1 : Int)) then some (false, PUnit.unit) else bif decide ((↑(List.length a0) : Int) > (24 : Int)) then some (false, PUnit.unit) else Sp.B_39_0 (Sp.L_39_0 (4611686018427387904 : Nat) a0 (0 : Int)) (some (false, PUnit.unit)) (some (true, PUnit.unit))
theorem fn_39 (a0 : (List Int)) : evFnL sm_39 FU (ovr noO (evFn sm_39 fns FU 0)) (ir39_t O_39_39_0) ir39 (ofH [.str] (a0, ())) [] (pureK [.bool]) = F_39 a0 := by kernel_rfl
noncomputable def Sp.p_39 (a0 : (List Int)) : Bool := (F_39 a0).isSome
noncomputable def Sp.v_39 (a0 : (List Int)) : Bool × Unit := (F_39 a0).getD (dfH [.bool])
noncomputable def s_39 : Summ := shN [.str] [.bool] (fun x => Sp.p_39 x.1) (fun x => Sp.v_39 x.1)
theorem pv_39 (a0 : (List Int)) {y : Bool × Unit} (h : F_39 a0 = some y) : Sp.p_39 a0 = true ∧ Sp.v_39 a0 = y := ⟨by rw [Sp.p_39, h]; rfl, by rw [Sp.v_39, h]; rfl⟩
theorem run_39 (x : HDen [.str]) (y : HDen [.bool]) (h : F_39 x.1 = some y) : evFn sm_39 fns FU 1 39 (ofH [.str] x) [] (pureK [.bool]) = some y :=
  evFnL_sound (fn := ir39) (t := (ir39_t O_39_39_0)) (o := noO) rfl noO_ok (ir39_tok (fun T k r => OK_39_39_0 T k r)) ((fn_39 _).trans h)
end
end Go.Ev
namespace Go.Ev
open Go
set_option maxRecDepth 100000
set_option maxHeartbeats 4000000
set_option linter.unusedVariables false
noncomputable section
abbrev Zy11_0 : Ty := (Ty.pair (Ty.int IntKind.i64) (Ty.pair (Ty.int IntKind.i64) (Ty.pair (Ty.slice (Ty.int IntKind.i64)) (Ty.pair (Ty.int IntKind.i64) Ty.unit))))
abbrev Zt11_1 : Type := List (List Int × Int × Int × List Int × Int × Unit)
abbrev Zt11_2 : Type := List Int × Int × Int × List Int × Int × Unit
abbrev Zy11_3 : Ty := (.pair (.int .i64) (.pair (.int .i64) (.pair (.slice (.int .i64)) (.pair (.int .i64) .unit))))

noncomputable def sm_11 : Nat → Option Summ := fun f => bif Nat.beq f 39 then some s_39 else none
noncomputable def T_11_1 (p0 : Zt11_1) (p1 : Int) (p2 : Int) (p3 : Int) (p4 : Zt11_2) : St := St.mk ([CV.pure (Ty.slice (Ty.pair Ty.str Zy11_0)) p0, CV.int IntKind.i64 p1, jk, jk, jk, CV.int IntKind.i64 p2, CV.ptr (0 : Nat) [], CV.int IntKind.i64 p3] ++ (jl 121)) [Blk.mem (CV.pure (Ty.pair Ty.str Zy11_0) p4)] (0 : Nat)
noncomputable def X_11_1_0 : St := St.mk ([jk, jk, jk, jk, CV.bool false] ++ (jl 124)) [] (0 : Nat)
noncomputable def X_11_1_1 (p0 : Zt11_1) (p1 : Int) (p2 : Int) (p4 : Zt11_2) : St := St.mk ([CV.pure (Ty.slice (Ty.pair Ty.str Zy11_0)) p0, CV.int IntKind.i64 p1, jk, jk, jk, CV.int IntKind.i64 p2, CV.ptr (0 : Nat) []] ++ (jl 122)) [Blk.mem (CV.pure (Ty.pair Ty.str Zy11_0) p4)] (0 : Nat)
inductive Sp.E_11_1 where
  | e0
  | e1 (p0 : Zt11_1) (p1 : Int) (p2 : Int) (p4 : Zt11_2)
noncomputable def Sp.B_11_1 {R : Type} (r : Option Sp.E_11_1) (k0 : Option R) (k1 : (Zt11_1) → (Int) → (Int) → (Zt11_2) → Option R) : Option R := match r with
  | none => none
  | some (.e0) => k0
  | some (.e1 p0 p1 p2 p4) => k1 p0 p1 p2 p4
noncomputable def Sp.L_11_1 : Nat → (List (List Int × Int × Int × List Int × Int × Unit)) → (Int) → (Int) → (Int) → (List Int × Int × Int × List Int × Int × Unit) → Option Sp.E_11_1
  | 0, _, _, _, _, _ => none
  | m + 1, p0, p1, p2, p3, p4 => bif decide (p3 < p2) then gd (inB p3 (List.length p0)) (bif (List.getD p0 (Int.toNat p3) (Ty.dflt (Ty.pair Ty.str (Ty.pair (Ty.int IntKind.i64) (Ty.pair (Ty.int IntKind.i64) (Ty.pair (Ty.slice (Ty.int IntKind.i64)) (Ty.pair (Ty.int IntKind.i64) Ty.unit))))))).1 == p4.1 then some (Sp.E_11_1.e0) else Sp.L_11_1 m p0 p1 p2 (IntKind.wrap IntKind.i64 (p3 + (1 : Int))) p4) else some (Sp.E_11_1.e1 p0 p1 p2 p4)
noncomputable def G_11_1 {R : Type} (p0 : Zt11_1) (p1 : Int) (p2 : Int) (p3 : Int) (p4 : Zt11_2) (k : Ex → St → Option R) : Option R := Sp.B_11_1 (Sp.L_11_1 FU p0 p1 p2 p3 p4) (k Ex.ret (X_11_1_0)) (fun p0 p1 p2 p4 => k (Ex.exit (2 : Nat)) (X_11_1_1 p0 p1 p2 p4))
noncomputable def o_11_1 {R : Type} (G : (Zt11_1) → (Int) → (Int) → (Int) → (Zt11_2) → (Ex → St → Option R) → Option R) : St → (Ex → St → Option R) → Option R := fun T k => match T.sl.getD 0 .junk, T.sl.getD 1 .junk, T.sl.getD 5 .junk, T.sl.getD 6 .junk, T.sl.getD 7 .junk, T.hp with
  | CV.pure (Ty.slice (Ty.pair Ty.str (Ty.pair (Ty.int IntKind.i64) (Ty.pair (Ty.int IntKind.i64) (Ty.pair (Ty.slice (Ty.int IntKind.i64)) (Ty.pair (Ty.int IntKind.i64) Ty.unit)))))) p0, CV.int IntKind.i64 p1, CV.int IntKind.i64 p2, CV.ptr (0 : Nat) [], CV.int IntKind.i64 p3, ((Blk.mem (CV.pure (Ty.pair Ty.str (Ty.pair (Ty.int IntKind.i64) (Ty.pair (Ty.int IntKind.i64) (Ty.pair (Ty.slice (Ty.int IntKind.i64)) (Ty.pair (Ty.int IntKind.i64) Ty.unit))))) p4)) :: []) => gd (shapeOK T 129 [0, 1, 5, 6, 7] (0 : Nat)) (G p0 p1 p2 p3 p4 k)
  | _, _, _, _, _, _ => none
theorem o_11_1_inv {R : Type} {G : (Zt11_1) → (Int) → (Int) → (Int) → (Zt11_2) → (Ex → St → Option R) → Option R} {T : St} {k : Ex → St → Option R} {r : R} (h : o_11_1 G T k = some r) : ∃ p0 p1 p2 p3 p4, T = T_11_1 p0 p1 p2 p3 p4 ∧ G p0 p1 p2 p3 p4 k = some r := by
  unfold o_11_1 at h
  split at h
  · obtain ⟨hs, h'⟩ := gd_some h
    refine ⟨_, _, _, _, _, (st_of (asg := [(0, _), (1, _), (5, _), (6, _), (7, _)]) hs ⟨by assumption, by assumption, by assumption, by assumption, by assumption, trivial⟩ (by assumption)).trans ?_, h'⟩
    kernel_rfl
  · cases h
noncomputable def T_11_2 (p0 : Zt11_1) (p1 : Int) (p2 : Int) (p3 : Int) (p4 : Zt11_2) : St := St.mk ([CV.pure (Ty.slice (Ty.pair Ty.str Zy11_0)) p0, CV.int IntKind.i64 p1, jk, jk, jk, CV.int IntKind.i64 p2, CV.ptr (0 : Nat) [], jk, CV.int IntKind.i64 p3] ++ (jl 120)) [Blk.mem (CV.pure (Ty.pair Ty.str Zy11_0) p4)] (0 : Nat)
noncomputable def X_11_2_0 : St := St.mk ([jk, jk, jk, jk, CV.bool false] ++ (jl 124)) [] (0 : Nat)
noncomputable def X_11_2_1 (p0 : Zt11_1) (p1 : Int) (p2 : Int) : St := St.mk ([CV.pure (Ty.slice (Ty.pair Ty.str Zy11_0)) p0, CV.int IntKind.i64 p1, jk, jk, jk, CV.int IntKind.i64 p2] ++ (jl 123)) [] (0 : Nat)
inductive Sp.E_11_2 where
  | e0
  | e1 (p0 : Zt11_1) (p1 : Int) (p2 : Int)
noncomputable def Sp.B_11_2 {R : Type} (r : Option Sp.E_11_2) (k0 : Option R) (k1 : (Zt11_1) → (Int) → (Int) → Option R) : Option R := match r with
  | none => none
  | some (.e0) => k0
  | some (.e1 p0 p1 p2) => k1 p0 p1 p2
noncomputable def Sp.L_11_2 : Nat → (List (List Int × Int × Int × List Int × Int × Unit)) → (Int) → (Int) → (Int) → (List Int × Int × Int × List Int × Int × Unit) → Option Sp.E_11_2
  | 0, _, _, _, _, _ => none
  | m + 1, p0, p1, p2, p3, p4 => bif decide (p3 < (↑(List.length (p4.2.2.2.1)) : Int)) then gd (inB p3 (List.length (p4.2.2.2.1))) (bif decide (List.getD (p4.2.2.2.1) (Int.toNat p3) (0 : Int) < (0 : Int)) then some (Sp.E_11_2.e0) else gd (inB p3 (List.length (p4.2.2.2.1))) (bif decide (List.getD (p4.2.2.2.1) (Int.toNat p3) (0 : Int) ≥ p1) then some (Sp.E_11_2.e0) else bif decide (p3 > (0 : Int)) then gd (inB p3 (List.length (p4.2.2.2.1))) (gd (inB (IntKind.wrap IntKind.i64 (p3 - (1 : Int))) (List.length (p4.2.2.2.1))) (bif decide (List.getD (p4.2.2.2.1) (Int.toNat p3) (0 : Int) ≤ List.getD (p4.2.2.2.1) (Int.toNat (IntKind.wrap IntKind.i64 (p3 - (1 : Int)))) (0 : Int)) then some (Sp.E_11_2.e0) else Sp.L_11_2 m p0 p1 p2 (IntKind.wrap IntKind.i64 (p3 + (1 : Int))) p4)) else Sp.L_11_2 m p0 p1 p2 (IntKind.wrap IntKind.i64 (p3 + (1 : Int))) p4)) else some (Sp.E_11_2.e1 p0 p1 p2)
noncomputable def G_11_2 {R : Type} (p0 : Zt11_1) (p1 : Int) (p2 : Int) (p3 : Int) (p4 : Zt11_2) (k : Ex → St → Option R) : Option R := Sp.B_11_2 (Sp.L_11_2 FU p0 p1 p2 p3 p4) (k Ex.ret (X_11_2_0)) (fun p0 p1 p2 => k (Ex.exit (4 : Nat)) (X_11_2_1 p0 p1 p2))
noncomputable def o_11_2 {R : Type} (G : (Zt11_1) → (Int) → (Int) → (Int) → (Zt11_2) → (Ex → St → Option R) → Option R) : St → (Ex → St → Option R) → Option R := fun T k => match T.sl.getD 0 .junk, T.sl.getD 1 .junk, T.sl.getD 5 .junk, T.sl.getD 6 .junk, T.sl.getD 8 .junk, T.hp with
  | CV.pure (Ty.slice (Ty.pair Ty.str (Ty.pair (Ty.int IntKind.i64) (Ty.pair (Ty.int IntKind.i64) (Ty.pair (Ty.slice (Ty.int IntKind.i64)) (Ty.pair (Ty.int IntKind.i64) Ty.unit)))))) p0, CV.int IntKind.i64 p1, CV.int IntKind.i64 p2, CV.ptr (0 : Nat) [], CV.int IntKind.i64 p3, ((Blk.mem (CV.pure (Ty.pair Ty.str (Ty.pair (Ty.int IntKind.i64) (Ty.pair (Ty.int IntKind.i64) (Ty.pair (Ty.slice (Ty.int IntKind.i64)) (Ty.pair (Ty.int IntKind.i64) Ty.unit))))) p4)) :: []) => gd (shapeOK T 129 [0, 1, 5, 6, 8] (0 : Nat)) (G p0 p1 p2 p3 p4 k)
  | _, _, _, _, _, _ => none
theorem o_11_2_inv {R : Type} {G : (Zt11_1) → (Int) → (Int) → (Int) → (Zt11_2) → (Ex → St → Option R) → Option R} {T : St} {k : Ex → St → Option R} {r : R} (h : o_11_2 G T k = some r) : ∃ p0 p1 p2 p3 p4, T = T_11_2 p0 p1 p2 p3 p4 ∧ G p0 p1 p2 p3 p4 k = some r := by
  unfold o_11_2 at h
  split at h
  · obtain ⟨hs, h'⟩ := gd_some h
    refine ⟨_, _, _, _, _, (st_of (asg := [(0, _), (1, _), (5, _), (6, _), (8, _)]) hs ⟨by assumption, by assumption, by assumption, by assumption, by assumption, trivial⟩ (by assumption)).trans ?_, h'⟩
    kernel_rfl
  · cases h
noncomputable def T_11_0 (p0 : Zt11_1) (p1 : Int) (p2 : Int) : St := St.mk ([CV.pure (Ty.slice (Ty.pair Ty.str Zy11_0)) p0, CV.int IntKind.i64 p1, jk, jk, jk, CV.int IntKind.i64 p2] ++ (jl 123)) [] (0 : Nat)
noncomputable def X_11_0_0 : St := St.mk ([jk, jk, jk, jk, CV.bool false] ++ (jl 124)) [] (0 : Nat)
noncomputable def X_11_0_1 : St := St.mk (jl 129) [] (0 : Nat)
inductive Sp.E_11_0 where
  | e0
  | e1
noncomputable def Sp.B_11_0 {R : Type} (r : Option Sp.E_11_0) (k0 : Option R) (k1 : Option R) : Option R := match r with
  | none => none
  | some (.e0) => k0
  | some (.e1) => k1
noncomputable def Sp.L_11_0 : Nat → (List (List Int × Int × Int × List Int × Int × Unit)) → (Int) → (Int) → Option Sp.E_11_0
  | 0, _, _, _ => none
  | m + 1, p0, p1, p2 => bif decide (p2 < (↑(List.length p0) : Int)) then gd (inB p2 (List.length p0)) (gd (Sp.p_39 ((List.getD p0 (Int.toNat p2) (Ty.dflt (Ty.pair Ty.str (Ty.pair (Ty.int IntKind.i64) (Ty.pair (Ty.int IntKind.i64) (Ty.pair (Ty.slice (Ty.int IntKind.i64)) (Ty.pair (Ty.int IntKind.i64) Ty.unit))))))).1)) (bif !(Sp.v_39 ((List.getD p0 (Int.toNat p2) (Ty.dflt (Ty.pair Ty.str (Ty.pair (Ty.int IntKind.i64) (Ty.pair (Ty.int IntKind.i64) (Ty.pair (Ty.slice (Ty.int IntKind.i64)) (Ty.pair (Ty.int IntKind.i64) Ty.unit))))))).1)).1 then some (Sp.E_11_0.e0) else bif decide ((List.getD p0 (Int.toNat p2) (Ty.dflt (Ty.pair Ty.str (Ty.pair (Ty.int IntKind.i64) (Ty.pair (Ty.int IntKind.i64) (Ty.pair (Ty.slice (Ty.int IntKind.i64)) (Ty.pair (Ty.int IntKind.i64) Ty.unit))))))).2.1 < (0 : Int)) then some (Sp.E_11_0.e0) else bif decide ((List.getD p0 (Int.toNat p2) (Ty.dflt (Ty.pair Ty.str (Ty.pair (Ty.int IntKind.i64) (Ty.pair (Ty.int IntKind.i64) (Ty.pair (Ty.slice (Ty.int IntKind.i64)) (Ty.pair (Ty.int IntKind.i64) Ty.unit))))))).2.1 > (15 : Int)) then some (Sp.E_11_0.e0) else bif decide ((List.getD p0 (Int.toNat p2) (Ty.dflt (Ty.pair Ty.str (Ty.pair (Ty.int IntKind.i64) (Ty.pair (Ty.int IntKind.i64) (Ty.pair (Ty.slice (Ty.int IntKind.i64)) (Ty.pair (Ty.int IntKind.i64) Ty.unit))))))).2.2.1 < (0 : Int)) then some (Sp.E_11_0.e0) else bif decide ((List.getD p0 (Int.toNat p2) (Ty.dflt (Ty.pair Ty.str (Ty.pair (Ty.int IntKind.i64) (Ty.pair (Ty.int IntKind.i64) (Ty.pair (Ty.slice (Ty.int IntKind.i64)) (Ty.pair (Ty.int IntKind.i64) Ty.unit))))))).2.2.1 > (15 : Int)) then some (Sp.E_11_0.e0) else bif decide ((↑(List.length ((List.getD p0 (Int.toNat p2) (Ty.dflt (Ty.pair Ty.str (Ty.pair (Ty.int IntKind.i64) (Ty.pair (Ty.int IntKind.i64) (Ty.pair (Ty.slice (Ty.int IntKind.i64)) (Ty.pair (Ty.int IntKind.i64) Ty.unit))))))).2.2.2.1)) : Int) < (1 : Int)) then some (Sp.E_11_0.e0) else bif decide ((↑(List.length ((List.getD p0 (Int.toNat p2) (Ty.dflt (Ty.pair Ty.str (Ty.pair (Ty.int IntKind.i64) (Ty.pair (Ty.int IntKind.i64) (Ty.pair (Ty.slice (Ty.int IntKind.i64)) (Ty.pair (Ty.int IntKind.i64) Ty.unit))))))).2.2.2.1)) : Int) > (16 : Int)) then some (Sp.E_11_0.e0) else bif decide ((List.getD p0 (Int.toNat p2) (Ty.dflt (Ty.pair Ty.str (Ty.pair (Ty.int IntKind.i64) (Ty.pair (Ty.int IntKind.i64) (Ty.pair (Ty.slice (Ty.int IntKind.i64)) (Ty.pair (Ty.int IntKind.i64) Ty.unit))))))).2.2.2.2.1 < (-5000 : Int)) then some (Sp.E_11_0.e0) else bif decide ((List.getD p0 (Int.toNat p2) (Ty.dflt (Ty.pair Ty.str (Ty.pair (Ty.int IntKind.i64) (Ty.pair (Ty.int IntKind.i64) (Ty.pair (Ty.slice (Ty.int IntKind.i64)) (Ty.pair (Ty.int IntKind.i64) Ty.unit))))))).2.2.2.2.1 > (10000 : Int)) then some (Sp.E_11_0.e0) else Sp.B_11_1 (Sp.L_11_1 (4611686018427387904 : Nat) p0 p1 p2 (0 : Int) (List.getD p0 (Int.toNat p2) (Ty.dflt (Ty.pair Ty.str (Ty.pair (Ty.int IntKind.i64) (Ty.pair (Ty.int IntKind.i64) (Ty.pair (Ty.slice (Ty.int IntKind.i64)) (Ty.pair (Ty.int IntKind.i64) Ty.unit)))))))) (some (Sp.E_11_0.e0)) fun y39 y40 y41 y42 => Sp.B_11_2 (Sp.L_11_2 (4611686018427387904 : Nat) y39 y40 y41 (0 : Int) y42) (some (Sp.E_11_0.e0)) fun y43 y44 y45 => Sp.L_11_0 m y43 y44 (IntKind.wrap IntKind.i64 (y45 + (1 : Int))))) else some (Sp.E_11_0.e1)
noncomputable def G_11_0 {R : Type} (p0 : Zt11_1) (p1 : Int) (p2 : Int) (k : Ex → St → Option R) : Option R := Sp.B_11_0 (Sp.L_11_0 FU p0 p1 p2) (k Ex.ret (X_11_0_0)) (k (Ex.exit (0 : Nat)) (X_11_0_1))
noncomputable def o_11_0 {R : Type} (G : (Zt11_1) → (Int) → (Int) → (Ex → St → Option R) → Option R) : St → (Ex → St → Option R) → Option R := fun T k => match T.sl.getD 0 .junk, T.sl.getD 1 .junk, T.sl.getD 5 .junk, T.hp with
  | CV.pure (Ty.slice (Ty.pair Ty.str (Ty.pair (Ty.int IntKind.i64) (Ty.pair (Ty.int IntKind.i64) (Ty.pair (Ty.slice (Ty.int IntKind.i64)) (Ty.pair (Ty.int IntKind.i64) Ty.unit)))))) p0, CV.int IntKind.i64 p1, CV.int IntKind.i64 p2, [] => gd (shapeOK T 129 [0, 1, 5] (0 : Nat)) (G p0 p1 p2 k)
  | _, _, _, _ => none
theorem o_11_0_inv {R : Type} {G : (Zt11_1) → (Int) → (Int) → (Ex → St → Option R) → Option R} {T : St} {k : Ex → St → Option R} {r : R} (h : o_11_0 G T k = some r) : ∃ p0 p1 p2, T = T_11_0 p0 p1 p2 ∧ G p0 p1 p2 k = some r := by
  unfold o_11_0 at h
  split at h
  · obtain ⟨hs, h'⟩ := gd_some h
    refine ⟨_, _, _, (st_of (asg := [(0, _), (1, _), (5, _)]) hs ⟨by assumption, by assumption, by assumption, trivial⟩ (by assumption)).trans ?_, h'⟩
    kernel_rfl
  · cases h
noncomputable def O_11_11_1 {R : Type} : St → (Ex → St → Option R) → Option R := fun T k => o_11_1 G_11_1 T k
noncomputable def O_11_11_2 {R : Type} : St → (Ex → St → Option R) → Option R := fun T k => o_11_2 G_11_2 T k
noncomputable def O_11_11_0 {R : Type} : St → (Ex → St → Option R) → Option R := fun T k => o_11_0 G_11_0 T k
theorem body_11_1 {R : Type} (K0 : St → Option R) (K1 : Ex → St → Option R) (p0 : Zt11_1) (p1 : Int) (p2 : Int) (p3 : Int) (p4 : Zt11_2) : evLB (evCodeL sm_11 FU (ovr noO (evFn sm_11 fns FU 0)) .nil ir11_b1) (St.norm ir11_v1) (T_11_1 p0 p1 p2 p3 p4) K0 K1 =
  bif decide (p3 < p2) then gd (inB p3 (List.length p0)) (bif (List.getD p0 (Int.toNat p3) (Ty.dflt (Ty.pair Ty.str Zy11_0))).1 == p4.1 then K1 Ex.ret X_11_1_0 else K0 (T_11_1 p0 p1 p2 (IntKind.wrap IntKind.i64 (p3 + (1 : Int))) p4)) else K1 (Ex.exit (2 : Nat)) (X_11_1_1 p0 p1 p2 p4) := by kernel_rfl
theorem Bgd_11_1 {R : Type} {c : Bool} {x : Option R} {y : Option Sp.E_11_1} {k0 : Option R} {k1 : (Zt11_1) → (Int) → (Int) → (Zt11_2) → Option R} (h : x = Sp.B_11_1 y k0 k1) : gd c x = Sp.B_11_1 (gd c y) k0 k1 := by cases c; rfl; exact h
theorem Bcond_11_1 {R : Type} {c : Bool} {x x' : Option R} {y y' : Option Sp.E_11_1} {k0 : Option R} {k1 : (Zt11_1) → (Int) → (Int) → (Zt11_2) → Option R} (h : x = Sp.B_11_1 y k0 k1) (h' : x' = Sp.B_11_1 y' k0 k1) : (bif c then x else x') = Sp.B_11_1 (bif c then y else y') k0 k1 := by cases c; exact h'; exact h
theorem loop_11_1 {R : Type} (k : Ex → St → Option R) : ∀ (m : Nat) (p0 : Zt11_1) (p1 : Int) (p2 : Int) (p3 : Int) (p4 : Zt11_2), evLoopN (evCodeL sm_11 FU (ovr noO (evFn sm_11 fns FU 0)) .nil ir11_b1) (St.norm ir11_v1) m (T_11_1 p0 p1 p2 p3 p4) k = Sp.B_11_1 (Sp.L_11_1 m p0 p1 p2 p3 p4) (k Ex.ret (X_11_1_0)) (fun p0 p1 p2 p4 => k (Ex.exit (2 : Nat)) (X_11_1_1 p0 p1 p2 p4))
  | 0, _, _, _, _, _ => rfl
  | m + 1, p0, p1, p2, p3, p4 => by
    rw [evLoopN_succ, body_11_1, Sp.L_11_1]
    repeat' first | apply Bgd_11_1 | apply Bcond_11_1 | exact loop_11_1 k m _ _ _ _ _ | rfl
theorem ok_11_1 {R : Type} (T : St) (k : Ex → St → Option R) (r : R) (h0 : o_11_1 G_11_1 T k = some r) : evLoopN (evCode sm_11 FU (evFn sm_11 fns FU 0) ir11_b1) (St.norm ir11_v1) FU T k = some r := by
  obtain ⟨p0, p1, p2, p3, p4, rfl, h⟩ := o_11_1_inv h0
  refine evLoopN_L (t := .nil) noO_ok trivial _ _ _ _ ?_
  rw [loop_11_1]
  exact h
theorem OK_11_11_1 {R : Type} (T : St) (k : Ex → St → Option R) (r : R) (h : O_11_11_1 T k = some r) : evLoopN (evCode sm_11 FU (evFn sm_11 fns FU 0) ir11_b1) (St.norm ir11_v1) FU T k = some r := ok_11_1 T k r h
theorem body_11_2 {R : Type} (K0 : St → Option R) (K1 : Ex → St → Option R) (p0 : Zt11_1) (p1 : Int) (p2 : Int) (p3 : Int) (p4 : Zt11_2) : evLB (evCodeL sm_11 FU (ovr noO (evFn sm_11 fns FU 0)) .nil ir11_b2) (St.norm ir11_v2) (T_11_2 p0 p1 p2 p3 p4) K0 K1 =
  bif decide (p3 < (↑(List.length (p4.2.2.2.1)) : Int)) then gd (inB p3 (List.length (p4.2.2.2.1))) (bif decide (List.getD (p4.2.2.2.1) (Int.toNat p3) (0 : Int) < (0 : Int)) then K1 Ex.ret X_11_2_0 else gd (inB p3 (List.length (p4.2.2.2.1))) (bif decide (List.getD (p4.2.2.2.1) (Int.toNat p3) (0 : Int) ≥ p1) then K1 Ex.ret X_11_2_0 else bif decide (p3 > (0 : Int)) then gd (inB p3 (List.length (p4.2.2.2.1))) (gd (inB (IntKind.wrap IntKind.i64 (p3 - (1 : Int))) (List.length (p4.2.2.2.1))) (bif decide (List.getD (p4.2.2.2.1) (Int.toNat p3) (0 : Int) ≤ List.getD (p4.2.2.2.1) (Int.toNat (IntKind.wrap IntKind.i64 (p3 - (1 : Int)))) (0 : Int)) then K1 Ex.ret X_11_2_0 else K0 (T_11_2 p0 p1 p2 (IntKind.wrap IntKind.i64 (p3 + (1 : Int))) p4))) else K0 (T_11_2 p0 p1 p2 (IntKind.wrap IntKind.i64 (p3 + (1 : Int))) p4))) else K1 (Ex.exit (4 : Nat)) (X_11_2_1 p0 p1 p2) := by kernel_rfl
theorem Bgd_11_2 {R : Type} {c : Bool} {x : Option R} {y : Option Sp.E_11_2} {k0 : Option R} {k1 : (Zt11_1) → (Int) → (Int) → Option R} (h : x = Sp.B_11_2 y k0 k1) : gd c x = Sp.B_11_2 (gd c y) k0 k1 := by cases c; rfl; exact h
theorem Bcond_11_2 {R : Type} {c : Bool} {x x' : Option R} {y y' : Option Sp.E_11_2} {k0 : Option R} {k1 : (Zt11_1) → (Int) → (Int) → Option R} (h : x = Sp.B_11_2 y k0 k1) (h' : x' = Sp.B_11_2 y' k0 k1) : (bif c then x else x') = Sp.B_11_2 (bif c then y else y') k0 k1 := by cases c; exact h'; exact h
theorem loop_11_2 {R : Type} (k : Ex → St → Option R) : ∀ (m : Nat) (p0 : Zt11_1) (p1 : Int) (p2 : Int) (p3 : Int) (p4 : Zt11_2), evLoopN (evCodeL sm_11 FU (ovr noO (evFn sm_11 fns FU 0)) .nil ir11_b2) (St.norm ir11_v2) m (T_11_2 p0 p1 p2 p3 p4) k = Sp.B_11_2 (Sp.L_11_2 m p0 p1 p2 p3 p4) (k Ex.ret (X_11_2_0)) (fun p0 p1 p2 => k (Ex.exit (4 : Nat)) (X_11_2_1 p0 p1 p2))
  | 0, _, _, _, _, _ => rfl
  | m + 1, p0, p1, p2, p3, p4 => by
    rw [evLoopN_succ, body_11_2, Sp.L_11_2]
    repeat' first | apply Bgd_11_2 | apply Bcond_11_2 | exact loop_11_2 k m _ _ _ _ _ | rfl
theorem ok_11_2 {R : Type} (T : St) (k : Ex → St → Option R) (r : R) (h0 : o_11_2 G_11_2 T k = some r) : evLoopN (evCode sm_11 FU (evFn sm_11 fns FU 0) ir11_b2) (St.norm ir11_v2) FU T k = some r := by
  obtain ⟨p0, p1, p2, p3, p4, rfl, h⟩ := o_11_2_inv h0
  refine evLoopN_L (t := .nil) noO_ok trivial _ _ _ _ ?_
  rw [loop_11_2]
  exact h
theorem OK_11_11_2 {R : Type} (T : St) (k : Ex → St → Option R) (r : R) (h : O_11_11_2 T k = some r) : evLoopN (evCode sm_11 FU (evFn sm_11 fns FU 0) ir11_b2) (St.norm ir11_v2) FU T k = some r := ok_11_2 T k r h
theorem body_11_0 {R : Type} (K0 : St → Option R) (K1 : Ex → St → Option R) (p0 : Zt11_1) (p1 : Int) (p2 : Int) : evLB (evCodeL sm_11 FU (ovr noO (evFn sm_11 fns FU 0)) (ir11_bt0 O_11_11_1 O_11_11_2) ir11_b0) (St.norm ir11_v0) (T_11_0 p0 p1 p2) K0 K1 =
  bif decide (p2 < (↑(List.length p0) : Int)) then gd (inB p2 (List.length p0)) (gd (Sp.p_39 ((List.getD p0 (Int.toNat p2) (Ty.dflt (Ty.pair Ty.str Zy11_0))).1)) (bif !(Sp.v_39 ((List.getD p0 (Int.toNat p2) (Ty.dflt (Ty.pair Ty.str Zy11_0))).1)).1 then K1 Ex.ret X_11_0_0 else bif decide ((List.getD p0 (Int.toNat p2) (Ty.dflt (Ty.pair Ty.str Zy11_0))).2.1 < (0 : Int)) then K1 Ex.ret X_11_0_0 else bif decide ((List.getD p0 (Int.toNat p2) (Ty.dflt (Ty.pair Ty.str Zy11_0))).2.1 > (15 : Int)) then K1 Ex.ret X_11_0_0 else bif decide ((List.getD p0 (Int.toNat p2) (Ty.dflt (Ty.pair Ty.str Zy11_0))).2.2.1 < (0 : Int)) then K1 Ex.ret X_11_0_0 else bif decide ((List.getD p0 (Int.toNat p2) (Ty.dflt (Ty.pair Ty.str Zy11_0))).2.2.1 > (15 : Int)) then K1 Ex.ret X_11_0_0 else bif decide ((↑(List.length ((List.getD p0 (Int.toNat p2) (Ty.dflt (Ty.pair Ty.str Zy11_0))).2.2.2.1)) : Int) < (1 : Int)) then K1 Ex.ret X_11_0_0 else bif decide ((↑(List.length ((List.getD p0 (Int.toNat p2) (Ty.dflt (Ty.pair Ty.str Zy11_0))).2.2.2.1)) : Int) > (16 : Int)) then K1 Ex.ret X_11_0_0 else bif decide ((List.getD p0 (Int.toNat p2) (Ty.dflt (Ty.pair Ty.str Zy11_0))).2.2.2.2.1 < (-5000 : Int)) then K1 Ex.ret X_11_0_0 else bif decide ((List.getD p0 (Int.toNat p2) (Ty.dflt (Ty.pair Ty.str Zy11_0))).2.2.2.2.1 > (10000 : Int)) then K1 Ex.ret X_11_0_0 else Sp.B_11_1 (Sp.L_11_1 (4611686018427387904 : Nat) p0 p1 p2 (0 : Int) (List.getD p0 (Int.toNat p2) (Ty.dflt (Ty.pair Ty.str Zy11_0)))) (K1 Ex.ret X_11_0_0) fun y39 y40 y41 y42 => Sp.B_11_2 (Sp.L_11_2 (4611686018427387904 : Nat) y39 y40 y41 (0 : Int) y42) (K1 Ex.ret X_11_0_0) fun y43 y44 y45 => K0 (T_11_0 y43 y44 (IntKind.wrap IntKind.i64 (y45 + (1 : Int)))))) else K1 (Ex.exit (0 : Nat)) X_11_0_1 := by kernel_rfl
theorem Bgd_11_0 {R : Type} {c : Bool} {x : Option R} {y : Option Sp.E_11_0} {k0 : Option R} {k1 : Option R} (h : x = Sp.B_11_0 y k0 k1) : gd c x = Sp.B_11_0 (gd c y) k0 k1 := by cases c; rfl; exact h
theorem Bcond_11_0 {R : Type} {c : Bool} {x x' : Option R} {y y' : Option Sp.E_11_0} {k0 : Option R} {k1 : Option R} (h : x = Sp.B_11_0 y k0 k1) (h' : x' = Sp.B_11_0 y' k0 k1) : (bif c then x else x') = Sp.B_11_0 (bif c then y else y') k0 k1 := by cases c; exact h'; exact h
theorem Bin_11_0_11_1 {R : Type} {r : Option Sp.E_11_1} {k0 : Option R} {k1 : Option R} {f0 : Option R} {f1 : (Zt11_1) → (Int) → (Int) → (Zt11_2) → Option R} {g0 : Option Sp.E_11_0} {g1 : (Zt11_1) → (Int) → (Int) → (Zt11_2) → Option Sp.E_11_0} (h0 : f0 = Sp.B_11_0 g0 k0 k1) (h1 : ∀ z0 z1 z2 z3, f1 z0 z1 z2 z3 = Sp.B_11_0 (g1 z0 z1 z2 z3) k0 k1) : Sp.B_11_1 r f0 f1 = Sp.B_11_0 (Sp.B_11_1 r g0 g1) k0 k1 := by
  cases r with
  | none => rfl
  | some e => cases e with
    | e0 => exact h0
    | e1 z0 z1 z2 z3 => exact h1 _ _ _ _
theorem Bin_11_0_11_2 {R : Type} {r : Option Sp.E_11_2} {k0 : Option R} {k1 : Option R} {f0 : Option R} {f1 : (Zt11_1) → (Int) → (Int) → Option R} {g0 : Option Sp.E_11_0} {g1 : (Zt11_1) → (Int) → (Int) → Option Sp.E_11_0} (h0 : f0 = Sp.B_11_0 g0 k0 k1) (h1 : ∀ z0 z1 z2, f1 z0 z1 z2 = Sp.B_11_0 (g1 z0 z1 z2) k0 k1) : Sp.B_11_2 r f0 f1 = Sp.B_11_0 (Sp.B_11_2 r g0 g1) k0 k1 := by
  cases r with
  | none => rfl
  | some e => cases e with
    | e0 => exact h0
    | e1 z0 z1 z2 => exact h1 _ _ _
theorem loop_11_0 {R : Type} (k : Ex → St → Option R) : ∀ (m : Nat) (p0 : Zt11_1) (p1 : Int) (p2 : Int), evLoopN (evCodeL sm_11 FU (ovr noO (evFn sm_11 fns FU 0)) (ir11_bt0 O_11_11_1 O_11_11_2) ir11_b0) (St.norm ir11_v0) m (T_11_0 p0 p1 p2) k = Sp.B_11_0 (Sp.L_11_0 m p0 p1 p2) (k Ex.ret (X_11_0_0)) (k (Ex.exit (0 : Nat)) (X_11_0_1))
  | 0, _, _, _ => rfl
  | m + 1, p0, p1, p2 => by
    rw [evLoopN_succ, body_11_0, Sp.L_11_0]
    repeat' first | apply Bgd_11_0 | apply Bcond_11_0 | (apply Bin_11_0_11_1 <;> intros) | (apply Bin_11_0_11_2 <;> intros) | exact loop_11_0 k m _ _ _ | rfl
theorem ok_11_0 {R : Type} (T : St) (k : Ex → St → Option R) (r : R) (h0 : o_11_0 G_11_0 T k = some r) : evLoopN (evCode sm_11 FU (evFn sm_11 fns FU 0) ir11_b0) (St.norm ir11_v0) FU T k = some r := by
  obtain ⟨p0, p1, p2, rfl, h⟩ := o_11_0_inv h0
  refine evLoopN_L (t := (ir11_bt0 O_11_11_1 O_11_11_2)) noO_ok (ir11_bt0ok (fun T k r => OK_11_11_1 T k r) (fun T k r => OK_11_11_2 T k r)) _ _ _ _ ?_
  rw [loop_11_0]
  exact h
theorem OK_11_11_0 {R : Type} (T : St) (k : Ex → St → Option R) (r : R) (h : O_11_11_0 T k = some r) : evLoopN (evCode sm_11 FU (evFn sm_11 fns FU 0) ir11_b0) (St.norm ir11_v0) FU T k = some r := ok_11_0 T k r h
noncomputable def F_11 (a0 : (List ((List Int) × (Int × (Int × ((List Int) × (Int × Unit))))))) (a1 : Int) : Option (Bool × Unit) :=
  bif decide ((↑(List.length a0) : Int) > (64 : Int)) then some (false, PUnit.unit) else bif decide (a1 < (0 : Int)) then some (false, PUnit.unit) else bif decide (a1 > (64 : Int)) then some (false, PUnit.unit) else Sp.B_11_0 (Sp.L_11_0 (4611686018427387904 : Nat) a0 a1 (0 : Int)) (some (false, PUnit.unit)) (some (true, PUnit.unit))
theorem fn_11 (a0 : (List ((List Int) × (Int × (Int × ((List Int) × (Int × Unit))))))) (a1 : Int) : evFnL sm_11 FU (ovr noO (evFn sm_11 fns FU 0)) (ir11_t O_11_11_0) ir11 (ofH [(.slice (.pair .str Zy11_3)), (.int .i64)] (a0, a1, ())) [] (pureK [.bool]) = F_11 a0 a1 := by kernel_rfl
noncomputable def Sp.p_11 (a0 : (List ((List Int) × (Int × (Int × ((List Int) × (Int × Unit))))))) (a1 : Int) : Bool := (F_11 a0 a1).isSome
noncomputable def Sp.v_11 (a0 : (List ((List Int) × (Int × (Int × ((List Int) × (Int × Unit))))))) (a1 : Int) : Bool × Unit := (F_11 a0 a1).getD (dfH [.bool])
noncomputable def s_11 : Summ := shN [(.slice (.pair .str Zy11_3)), (.int .i64)] [.bool] (fun x => Sp.p_11 x.1 x.2.1) (fun x => Sp.v_11 x.1 x.2.1)
theorem pv_11 (a0 : (List ((List Int) × (Int × (Int × ((List Int) × (Int × Unit))))))) (a1 : Int) {y : Bool × Unit} (h : F_11 a0 a1 = some y) : Sp.p_11 a0 a1 = true ∧ Sp.v_11 a0 a1 = y := ⟨by rw [Sp.p_11, h]; rfl, by rw [Sp.v_11, h]; rfl⟩
theorem run_11 (x : HDen [(.slice (.pair .str Zy11_3)), (.int .i64)]) (y : HDen [.bool]) (h : F_11 x.1 x.2.1 = some y) : evFn sm_11 fns FU 1 11 (ofH [(.slice (.pair .str Zy11_3)), (.int .i64)] x) [] (pureK [.bool]) = some y :=
  evFnL_sound (fn := ir11) (t := (ir11_t O_11_11_0)) (o := noO) rfl noO_ok (ir11_tok (fun T k r => OK_11_11_0 T k r)) ((fn_11 _ _).trans h)
end
end Go.Ev
namespace Go.Ev
open Go
set_option maxRecDepth 100000
set_option maxHeartbeats 4000000
set_option linter.unusedVariables false
noncomputable section
abbrev Zy14_0 : Ty := (Ty.pair (Ty.int IntKind.i64) (Ty.pair (Ty.int IntKind.i64) (Ty.pair (Ty.slice (Ty.int IntKind.i64)) (Ty.pair (Ty.int IntKind.i64) Ty.unit))))
abbrev Zy14_1 : Ty := (Ty.pair (Ty.int IntKind.i64) (Ty.pair (Ty.slice (Ty.int IntKind.i64)) Ty.unit))
abbrev Zy14_2 : Ty := (.pair (.int .i64) (.pair (.int .i64) (.pair (.slice (.int .i64)) (.pair (.int .i64) .unit))))
abbrev Zt14_3 : Type := List (List Int × Int × Int × List Int × Int × Unit)
abbrev Zy14_4 : Ty := (.slice (.pair (.int .i64) (.pair (.slice (.int .i64)) .unit)))
abbrev Zt14_5 : Type := List (Int × List Int × Unit)

noncomputable def sm_14 : Nat → Option Summ := fun f => none
noncomputable def T_14_0 (p0 : Zt14_3) (p1 : Zt14_5) (p2 : Int) (p3 : Int) (p4 : Int) (p5 : Int) : St := St.mk ([CV.pure (Ty.slice (Ty.pair Ty.str Zy14_0)) p0, CV.pure (Ty.slice (Ty.pair (Ty.int IntKind.i64) (Ty.pair (Ty.slice (Ty.int IntKind.i64)) Ty.unit))) p1, CV.int IntKind.i64 p2] ++ (jl 6 ++ ([CV.int IntKind.i64 p3, CV.int IntKind.i64 p4, CV.int IntKind.i64 p5] ++ (jl 39)))) [] (0 : Nat)
noncomputable def X_14_0_0 (p4 : Int) : St := St.mk (jl 10 ++ ([CV.int IntKind.i64 p4] ++ (jl 40))) [] (0 : Nat)
inductive Sp.E_14_0 where
  | e0 (p4 : Int)
noncomputable def Sp.B_14_0 {R : Type} (r : Option Sp.E_14_0) (k0 : (Int) → Option R) : Option R := match r with
  | none => none
  | some (.e0 p4) => k0 p4
noncomputable def Sp.L_14_0 : Nat → (List (List Int × Int × Int × List Int × Int × Unit)) → (List (Int × List Int × Unit)) → (Int) → (Int) → (Int) → (Int) → Option Sp.E_14_0
  | 0, _, _, _, _, _, _ => none
  | m + 1, p0, p1, p2, p3, p4, p5 => bif decide (p5 < (↑(List.length p1) : Int)) then gd (inB p5 (List.length p1)) (gd (inB ((List.getD p1 (Int.toNat p5) Zd0).1) (List.length p0)) (bif (List.getD p0 (Int.toNat ((List.getD p1 (Int.toNat p5) Zd0).1)) (Ty.dflt (Ty.pair Ty.str (Ty.pair (Ty.int IntKind.i64) (Ty.pair (Ty.int IntKind.i64) (Ty.pair (Ty.slice (Ty.int IntKind.i64)) (Ty.pair (Ty.int IntKind.i64) Ty.unit))))))).2.1 != p2 then Sp.L_14_0 m p0 p1 p2 p3 p4 (IntKind.wrap IntKind.i64 (p5 + (1 : Int))) else bif decide ((List.getD p0 (Int.toNat ((List.getD p1 (Int.toNat p5) Zd0).1)) (Ty.dflt (Ty.pair Ty.str (Ty.pair (Ty.int IntKind.i64) (Ty.pair (Ty.int IntKind.i64) (Ty.pair (Ty.slice (Ty.int IntKind.i64)) (Ty.pair (Ty.int IntKind.i64) Ty.unit))))))).2.2.1 < p3) then Sp.L_14_0 m p0 p1 p2 p3 p4 (IntKind.wrap IntKind.i64 (p5 + (1 : Int))) else bif decide ((List.getD p0 (Int.toNat ((List.getD p1 (Int.toNat p5) Zd0).1)) (Ty.dflt (Ty.pair Ty.str (Ty.pair (Ty.int IntKind.i64) (Ty.pair (Ty.int IntKind.i64) (Ty.pair (Ty.slice (Ty.int IntKind.i64)) (Ty.pair (Ty.int IntKind.i64) Ty.unit))))))).2.2.1 > p3) then Sp.L_14_0 m p0 p1 p2 ((List.getD p0 (Int.toNat ((List.getD p1 (Int.toNat p5) Zd0).1)) (Ty.dflt (Ty.pair Ty.str (Ty.pair (Ty.int IntKind.i64) (Ty.pair (Ty.int IntKind.i64) (Ty.pair (Ty.slice (Ty.int IntKind.i64)) (Ty.pair (Ty.int IntKind.i64) Ty.unit))))))).2.2.1) (if (List.getD p0 (Int.toNat ((List.getD p1 (Int.toNat p5) Zd0).1)) (Ty.dflt (Ty.pair Ty.str (Ty.pair (Ty.int IntKind.i64) (Ty.pair (Ty.int IntKind.i64) (Ty.pair (Ty.slice (Ty.int IntKind.i64)) (Ty.pair (Ty.int IntKind.i64) Ty.unit))))))).2.2.2.2.1 < (List.getD p0 (Int.toNat ((List.getD p1 (Int.toNat p5) Zd0).1)) (Ty.dflt (Ty.pair Ty.str (Ty.pair (Ty.int IntKind.i64) (Ty.pair (Ty.int IntKind.i64) (Ty.pair (Ty.slice (Ty.int IntKind.i64)) (Ty.pair (Ty.int IntKind.i64) Ty.unit))))))).2.2.2.2.1 then (List.getD p0 (Int.toNat ((List.getD p1 (Int.toNat p5) Zd0).1)) (Ty.dflt (Ty.pair Ty.str (Ty.pair (Ty.int IntKind.i64) (Ty.pair (Ty.int IntKind.i64) (Ty.pair (Ty.slice (Ty.int IntKind.i64)) (Ty.pair (Ty.int IntKind.i64) Ty.unit))))))).2.2.2.2.1 else (List.getD p0 (Int.toNat ((List.getD p1 (Int.toNat p5) Zd0).1)) (Ty.dflt (Ty.pair Ty.str (Ty.pair (Ty.int IntKind.i64) (Ty.pair (Ty.int IntKind.i64) (Ty.pair (Ty.slice (Ty.int IntKind.i64)) (Ty.pair (Ty.int IntKind.i64) Ty.unit))))))).2.2.2.2.1) (IntKind.wrap IntKind.i64 (p5 + (1 : Int))) else Sp.L_14_0 m p0 p1 p2 p3 (if (List.getD p0 (Int.toNat ((List.getD p1 (Int.toNat p5) Zd0).1)) (Ty.dflt (Ty.pair Ty.str (Ty.pair (Ty.int IntKind.i64) (Ty.pair (Ty.int IntKind.i64) (Ty.pair (Ty.slice (Ty.int IntKind.i64)) (Ty.pair (Ty.int IntKind.i64) Ty.unit))))))).2.2.2.2.1 < p4 then (List.getD p0 (Int.toNat ((List.getD p1 (Int.toNat p5) Zd0).1)) (Ty.dflt (Ty.pair Ty.str (Ty.pair (Ty.int IntKind.i64) (Ty.pair (Ty.int IntKind.i64) (Ty.pair (Ty.slice (Ty.int IntKind.i64)) (Ty.pair (Ty.int IntKind.i64) Ty.unit))))))).2.2.2.2.1 else p4) (IntKind.wrap IntKind.i64 (p5 + (1 : Int))))) else some (Sp.E_14_0.e0 p4)
noncomputable def G_14_0 {R : Type} (p0 : Zt14_3) (p1 : Zt14_5) (p2 : Int) (p3 : Int) (p4 : Int) (p5 : Int) (k : Ex → St → Option R) : Option R := Sp.B_14_0 (Sp.L_14_0 FU p0 p1 p2 p3 p4 p5) (fun p4 => k (Ex.exit (0 : Nat)) (X_14_0_0 p4))
noncomputable def o_14_0 {R : Type} (G : (Zt14_3) → (Zt14_5) → (Int) → (Int) → (Int) → (Int) → (Ex → St → Option R) → Option R) : St → (Ex → St → Option R) → Option R := fun T k => match T.sl.getD 0 .junk, T.sl.getD 1 .junk, T.sl.getD 2 .junk, T.sl.getD 9 .junk, T.sl.getD 10 .junk, T.sl.getD 11 .junk, T.hp with
  | CV.pure (Ty.slice (Ty.pair Ty.str (Ty.pair (Ty.int IntKind.i64) (Ty.pair (Ty.int IntKind.i64) (Ty.pair (Ty.slice (Ty.int IntKind.i64)) (Ty.pair (Ty.int IntKind.i64) Ty.unit)))))) p0, CV.pure (Ty.slice (Ty.pair (Ty.int IntKind.i64) (Ty.pair (Ty.slice (Ty.int IntKind.i64)) Ty.unit))) p1, CV.int IntKind.i64 p2, CV.int IntKind.i64 p3, CV.int IntKind.i64 p4, CV.int IntKind.i64 p5, [] => gd (shapeOK T 51 [0, 1, 2, 9, 10, 11] (0 : Nat)) (G p0 p1 p2 p3 p4 p5 k)
  | _, _, _, _, _, _, _ => none
theorem o_14_0_inv {R : Type} {G : (Zt14_3) → (Zt14_5) → (Int) → (Int) → (Int) → (Int) → (Ex → St → Option R) → Option R} {T : St} {k : Ex → St → Option R} {r : R} (h : o_14_0 G T k = some r) : ∃ p0 p1 p2 p3 p4 p5, T = T_14_0 p0 p1 p2 p3 p4 p5 ∧ G p0 p1 p2 p3 p4 p5 k = some r := by
  unfold o_14_0 at h
  split at h
  · obtain ⟨hs, h'⟩ := gd_some h
    refine ⟨_, _, _, _, _, _, (st_of (asg := [(0, _), (1, _), (2, _), (9, _), (10, _), (11, _)]) hs ⟨by assumption, by assumption, by assumption, by assumption, by assumption, by assumption, trivial⟩ (by assumption)).trans ?_, h'⟩
    kernel_rfl
  · cases h
noncomputable def O_14_14_0 {R : Type} : St → (Ex → St → Option R) → Option R := fun T k => o_14_0 G_14_0 T k
theorem body_14_0 {R : Type} (K0 : St → Option R) (K1 : Ex → St → Option R) (p0 : Zt14_3) (p1 : Zt14_5) (p2 : Int) (p3 : Int) (p4 : Int) (p5 : Int) : evLB (evCodeL sm_14 FU (ovr noO (evFn sm_14 fns FU 0)) .nil ir14_b0) (St.norm ir14_v0) (T_14_0 p0 p1 p2 p3 p4 p5) K0 K1 =
  bif decide (p5 < (↑(List.length p1) : Int)) then gd (inB p5 (List.length p1)) (gd (inB ((List.getD p1 (Int.toNat p5) (Ty.dflt Zy14_1)).1) (List.length p0)) (bif (List.getD p0 (Int.toNat ((List.getD p1 (Int.toNat p5) (Ty.dflt Zy14_1)).1)) (Ty.dflt (Ty.pair Ty.str Zy14_0))).2.1 != p2 then K0 (T_14_0 p0 p1 p2 p3 p4 (IntKind.wrap IntKind.i64 (p5 + (1 : Int)))) else bif decide ((List.getD p0 (Int.toNat ((List.getD p1 (Int.toNat p5) (Ty.dflt Zy14_1)).1)) (Ty.dflt (Ty.pair Ty.str Zy14_0))).2.2.1 < p3) then K0 (T_14_0 p0 p1 p2 p3 p4 (IntKind.wrap IntKind.i64 (p5 + (1 : Int)))) else bif decide ((List.getD p0 (Int.toNat ((List.getD p1 (Int.toNat p5) (Ty.dflt Zy14_1)).1)) (Ty.dflt (Ty.pair Ty.str Zy14_0))).2.2.1 > p3) then K0 (T_14_0 p0 p1 p2 ((List.getD p0 (Int.toNat ((List.getD p1 (Int.toNat p5) (Ty.dflt Zy14_1)).1)) (Ty.dflt (Ty.pair Ty.str Zy14_0))).2.2.1) (if (List.getD p0 (Int.toNat ((List.getD p1 (Int.toNat p5) (Ty.dflt Zy14_1)).1)) (Ty.dflt (Ty.pair Ty.str Zy14_0))).2.2.2.2.1 < (List.getD p0 (Int.toNat ((List.getD p1 (Int.toNat p5) (Ty.dflt Zy14_1)).1)) (Ty.dflt (Ty.pair Ty.str Zy14_0))).2.2.2.2.1 then (List.getD p0 (Int.toNat ((List.getD p1 (Int.toNat p5) (Ty.dflt Zy14_1)).1)) (Ty.dflt (Ty.pair Ty.str Zy14_0))).2.2.2.2.1 else (List.getD p0 (Int.toNat ((List.getD p1 (Int.toNat p5) (Ty.dflt Zy14_1)).1)) (Ty.dflt (Ty.pair Ty.str Zy14_0))).2.2.2.2.1) (IntKind.wrap IntKind.i64 (p5 + (1 : Int)))) else K0 (T_14_0 p0 p1 p2 p3 (if (List.getD p0 (Int.toNat ((List.getD p1 (Int.toNat p5) (Ty.dflt Zy14_1)).1)) (Ty.dflt (Ty.pair Ty.str Zy14_0))).2.2.2.2.1 < p4 then (List.getD p0 (Int.toNat ((List.getD p1 (Int.toNat p5) (Ty.dflt Zy14_1)).1)) (Ty.dflt (Ty.pair Ty.str Zy14_0))).2.2.2.2.1 else p4) (IntKind.wrap IntKind.i64 (p5 + (1 : Int)))))) else K1 (Ex.exit (0 : Nat)) (X_14_0_0 p4) := by kernel_rfl
theorem Bgd_14_0 {R : Type} {c : Bool} {x : Option R} {y : Option Sp.E_14_0} {k0 : (Int) → Option R} (h : x = Sp.B_14_0 y k0) : gd c x = Sp.B_14_0 (gd c y) k0 := by cases c; rfl; exact h
theorem Bcond_14_0 {R : Type} {c : Bool} {x x' : Option R} {y y' : Option Sp.E_14_0} {k0 : (Int) → Option R} (h : x = Sp.B_14_0 y k0) (h' : x' = Sp.B_14_0 y' k0) : (bif c then x else x') = Sp.B_14_0 (bif c then y else y') k0 := by cases c; exact h'; exact h
theorem loop_14_0 {R : Type} (k : Ex → St → Option R) : ∀ (m : Nat) (p0 : Zt14_3) (p1 : Zt14_5) (p2 : Int) (p3 : Int) (p4 : Int) (p5 : Int), evLoopN (evCodeL sm_14 FU (ovr noO (evFn sm_14 fns FU 0)) .nil ir14_b0) (St.norm ir14_v0) m (T_14_0 p0 p1 p2 p3 p4 p5) k = Sp.B_14_0 (Sp.L_14_0 m p0 p1 p2 p3 p4 p5) (fun p4 => k (Ex.exit (0 : Nat)) (X_14_0_0 p4))
  | 0, _, _, _, _, _, _ => rfl
  | m + 1, p0, p1, p2, p3, p4, p5 => by
    rw [evLoopN_succ, body_14_0, Sp.L_14_0]
    repeat' first | apply Bgd_14_0 | apply Bcond_14_0 | exact loop_14_0 k m _ _ _ _ _ _ | rfl
theorem ok_14_0 {R : Type} (T : St) (k : Ex → St → Option R) (r : R) (h0 : o_14_0 G_14_0 T k = some r) : evLoopN (evCode sm_14 FU (evFn sm_14 fns FU 0) ir14_b0) (St.norm ir14_v0) FU T k = some r := by
  obtain ⟨p0, p1, p2, p3, p4, p5, rfl, h⟩ := o_14_0_inv h0
  refine evLoopN_L (t := .nil) noO_ok trivial _ _ _ _ ?_
  rw [loop_14_0]
  exact h
theorem OK_14_14_0 {R : Type} (T : St) (k : Ex → St → Option R) (r : R) (h : O_14_14_0 T k = some r) : evLoopN (evCode sm_14 FU (evFn sm_14 fns FU 0) ir14_b0) (St.norm ir14_v0) FU T k = some r := ok_14_0 T k r h
noncomputable def F_14 (a0 : (List ((List Int) × (Int × (Int × ((List Int) × (Int × Unit))))))) (a1 : (List (Int × ((List Int) × Unit)))) (a2 : Int) (a3 : Int) : Option (Int × Unit) :=
  Sp.B_14_0 (Sp.L_14_0 (4611686018427387904 : Nat) a0 a1 a2 (-1 : Int) a3 (0 : Int)) fun y1 => some (y1, PUnit.unit)
theorem fn_14 (a0 : (List ((List Int) × (Int × (Int × ((List Int) × (Int × Unit))))))) (a1 : (List (Int × ((List Int) × Unit)))) (a2 : Int) (a3 : Int) : evFnL sm_14 FU (ovr noO (evFn sm_14 fns FU 0)) (ir14_t O_14_14_0) ir14 (ofH [(.slice (.pair .str Zy14_2)), Zy14_4, (.int .i64), (.int .i64)] (a0, a1, a2, a3, ())) [] (pureK [(.int .i64)]) = F_14 a0 a1 a2 a3 := by kernel_rfl
noncomputable def Sp.p_14 (a0 : (List ((List Int) × (Int × (Int × ((List Int) × (Int × Unit))))))) (a1 : (List (Int × ((List Int) × Unit)))) (a2 : Int) (a3 : Int) : Bool := (F_14 a0 a1 a2 a3).isSome
noncomputable def Sp.v_14 (a0 : (List ((List Int) × (Int × (Int × ((List Int) × (Int × Unit))))))) (a1 : (List (Int × ((List Int) × Unit)))) (a2 : Int) (a3 : Int) : Int × Unit := (F_14 a0 a1 a2 a3).getD (dfH [(.int .i64)])
noncomputable def s_14 : Summ := shN [(.slice (.pair .str Zy14_2)), Zy14_4, (.int .i64), (.int .i64)] [(.int .i64)] (fun x => Sp.p_14 x.1 x.2.1 x.2.2.1 x.2.2.2.1) (fun x => Sp.v_14 x.1 x.2.1 x.2.2.1 x.2.2.2.1)
theorem pv_14 (a0 : (List ((List Int) × (Int × (Int × ((List Int) × (Int × Unit))))))) (a1 : (List (Int × ((List Int) × Unit)))) (a2 : Int) (a3 : Int) {y : Int × Unit} (h : F_14 a0 a1 a2 a3 = some y) : Sp.p_14 a0 a1 a2 a3 = true ∧ Sp.v_14 a0 a1 a2 a3 = y := ⟨by rw [Sp.p_14, h]; rfl, by rw [Sp.v_14, h]; rfl⟩
theorem run_14 (x : HDen [(.slice (.pair .str Zy14_2)), Zy14_4, (.int .i64), (.int .i64)]) (y : HDen [(.int .i64)]) (h : F_14 x.1 x.2.1 x.2.2.1 x.2.2.2.1 = some y) : evFn sm_14 fns FU 1 14 (ofH [(.slice (.pair .str Zy14_2)), Zy14_4, (.int .i64), (.int .i64)] x) [] (pureK [(.int .i64)]) = some y :=
  evFnL_sound (fn := ir14) (t := (ir14_t O_14_14_0)) (o := noO) rfl noO_ok (ir14_tok (fun T k r => OK_14_14_0 T k r)) ((fn_14 _ _ _ _).trans h)
end
end Go.Ev
namespace Go.Ev
open Go
set_option maxRecDepth 100000
set_option maxHeartbeats 4000000
set_option linter.unusedVariables false
noncomputable section
abbrev Zt3_0 : Type := List (List Int × Int × Int × List Int × Int × Unit)
abbrev Zy3_1 : Ty := (Ty.pair (Ty.int IntKind.i64) (Ty.pair (Ty.int IntKind.i64) (Ty.pair (Ty.slice (Ty.int IntKind.i64)) (Ty.pair (Ty.int IntKind.i64) Ty.unit))))
abbrev Zy3_2 : Ty := (.pair (.int .i64) (.pair (.int .i64) (.pair (.slice (.int .i64)) (.pair (.int .i64) .unit))))
abbrev Zt3_3 : Type := List (Int × List Int × Unit)
abbrev Zy3_4 : Ty := (Ty.pair (Ty.int IntKind.i64) (Ty.pair (Ty.slice (Ty.int IntKind.i64)) Ty.unit))
abbrev Zy3_5 : Ty := (.slice (.pair (.int .i64) (.pair (.slice (.int .i64)) .unit)))

noncomputable def sm_3 : Nat → Option Summ := fun f => bif Nat.beq f 8 then some s_8 else bif Nat.beq f 9 then some s_9 else bif Nat.beq f 10 then some s_10 else bif Nat.beq f 11 then some s_11 else bif Nat.beq f 14 then some s_14 else none
noncomputable def T_3_20_0_0 (p0 : Zt3_3) (p1 : Int) (p2 : Int) (p3 : Zt3_0) : St := St.mk ([CV.pure (Ty.slice (Ty.pair (Ty.int IntKind.i64) (Ty.pair (Ty.slice (Ty.int IntKind.i64)) Ty.unit))) p0, CV.clo (13 : Nat) (CV.pair (CV.ptr (0 : Nat) []) (CV.pure Ty.unit PUnit.unit)), jk, jk, jk, jk, jk, CV.int IntKind.i64 p1, CV.int IntKind.i64 p2] ++ (jl 10)) [Blk.mem (CV.pure (Ty.slice (Ty.pair Ty.str Zy3_1)) p3)] (1 : Nat)
noncomputable def X_3_20_0_0_0 (p2 : Int) (p3 : Zt3_0) : St := St.mk ([jk, jk, jk, jk, CV.int IntKind.i64 p2] ++ (jl 14)) [Blk.mem (CV.pure (Ty.slice (Ty.pair Ty.str Zy3_1)) p3)] (1 : Nat)
noncomputable def X_3_20_0_0_1 (p3 : Zt3_0) : St := St.mk (jl 19) [Blk.mem (CV.pure (Ty.slice (Ty.pair Ty.str Zy3_1)) p3)] (1 : Nat)
inductive Sp.E_3_20_0_0 where
  | e0 (p2 : Int) (p3 : Zt3_0)
  | e1 (p3 : Zt3_0)
noncomputable def Sp.B_3_20_0_0 {R : Type} (r : Option Sp.E_3_20_0_0) (k0 : (Int) → (Zt3_0) → Option R) (k1 : (Zt3_0) → Option R) : Option R := match r with
  | none => none
  | some (.e0 p2 p3) => k0 p2 p3
  | some (.e1 p3) => k1 p3
noncomputable def Sp.L_3_20_0_0 : Nat → (List (Int × List Int × Unit)) → (Int) → (Int) → (List (List Int × Int × Int × List Int × Int × Unit)) → Option Sp.E_3_20_0_0
  | 0, _, _, _, _ => none
  | m + 1, p0, p1, p2, p3 => bif decide (p2 < p1) then gd (inB p2 (List.length p0)) (bif decide ((List.getD p0 (Int.toNat p2) Zd0).1 < (0 : Int)) then some (Sp.E_3_20_0_0.e0 p2 p3) else bif decide ((List.getD p0 (Int.toNat p2) Zd0).1 ≥ (↑(List.length p3) : Int)) then some (Sp.E_3_20_0_0.e0 p2 p3) else Sp.L_3_20_0_0 m p0 p1 (IntKind.wrap IntKind.i64 (p2 + (1 : Int))) p3) else some (Sp.E_3_20_0_0.e1 p3)
noncomputable def G_3_20_0_0 {R : Type} (p0 : Zt3_3) (p1 : Int) (p2 : Int) (p3 : Zt3_0) (k : Ex → St → Option R) : Option R := Sp.B_3_20_0_0 (Sp.L_3_20_0_0 FU p0 p1 p2 p3) (fun p2 p3 => k Ex.ret (X_3_20_0_0_0 p2 p3)) (fun p3 => k (Ex.exit (0 : Nat)) (X_3_20_0_0_1 p3))
noncomputable def o_3_20_0_0 {R : Type} (G : (Zt3_3) → (Int) → (Int) → (Zt3_0) → (Ex → St → Option R) → Option R) : St → (Ex → St → Option R) → Option R := fun T k => match T.sl.getD 0 .junk, T.sl.getD 1 .junk, T.sl.getD 7 .junk, T.sl.getD 8 .junk, T.hp with
  | CV.pure (Ty.slice (Ty.pair (Ty.int IntKind.i64) (Ty.pair (Ty.slice (Ty.int IntKind.i64)) Ty.unit))) p0, CV.clo (13 : Nat) (CV.pair (CV.ptr (0 : Nat) []) (CV.pure Ty.unit PUnit.unit)), CV.int IntKind.i64 p1, CV.int IntKind.i64 p2, ((Blk.mem (CV.pure (Ty.slice (Ty.pair Ty.str (Ty.pair (Ty.int IntKind.i64) (Ty.pair (Ty.int IntKind.i64) (Ty.pair (Ty.slice (Ty.int IntKind.i64)) (Ty.pair (Ty.int IntKind.i64) Ty.unit)))))) p3)) :: []) => gd (shapeOK T 19 [0, 1, 7, 8] (1 : Nat)) (G p0 p1 p2 p3 k)
  | _, _, _, _, _ => none
theorem o_3_20_0_0_inv {R : Type} {G : (Zt3_3) → (Int) → (Int) → (Zt3_0) → (Ex → St → Option R) → Option R} {T : St} {k : Ex → St → Option R} {r : R} (h : o_3_20_0_0 G T k = some r) : ∃ p0 p1 p2 p3, T = T_3_20_0_0 p0 p1 p2 p3 ∧ G p0 p1 p2 p3 k = some r := by
  unfold o_3_20_0_0 at h
  split at h
  · obtain ⟨hs, h'⟩ := gd_some h
    refine ⟨_, _, _, _, (st_of (asg := [(0, _), (1, _), (7, _), (8, _)]) hs ⟨by assumption, by assumption, by assumption, by assumption, trivial⟩ (by assumption)).trans ?_, h'⟩
    kernel_rfl
  · cases h
noncomputable def O_3_20_0 {R : Type} : St → (Ex → St → Option R) → Option R := fun T k => o_3_20_0_0 G_3_20_0_0 T k
noncomputable def g_3_20 {R : Type} : List CV → List Blk → (CV → List Blk → Option R) → Option R := evFnL sm_3 FU (ovr noO (evFn sm_3 fns FU 1)) (ir20_t O_3_20_0) ir20
noncomputable def g_3_12 {R : Type} : List CV → List Blk → (CV → List Blk → Option R) → Option R := evFnL sm_3 FU (ovr (fun f' => bif Nat.beq f' 20 then some (g_3_20) else none) (evFn sm_3 fns FU 2)) .nil ir12
theorem body_3_20_0_0 {R : Type} (K0 : St → Option R) (K1 : Ex → St → Option R) (p0 : Zt3_3) (p1 : Int) (p2 : Int) (p3 : Zt3_0) : evLB (evCodeL sm_3 FU (ovr noO (evFn sm_3 fns FU 1)) .nil ir20_b0) (St.norm ir20_v0) (T_3_20_0_0 p0 p1 p2 p3) K0 K1 =
  bif decide (p2 < p1) then gd (inB p2 (List.length p0)) (bif decide ((List.getD p0 (Int.toNat p2) (Ty.dflt Zy3_4)).1 < (0 : Int)) then K1 Ex.ret (X_3_20_0_0_0 p2 p3) else bif decide ((List.getD p0 (Int.toNat p2) (Ty.dflt Zy3_4)).1 ≥ (↑(List.length p3) : Int)) then K1 Ex.ret (X_3_20_0_0_0 p2 p3) else K0 (T_3_20_0_0 p0 p1 (IntKind.wrap IntKind.i64 (p2 + (1 : Int))) p3)) else K1 (Ex.exit (0 : Nat)) (X_3_20_0_0_1 p3) := by kernel_rfl
theorem Bgd_3_20_0_0 {R : Type} {c : Bool} {x : Option R} {y : Option Sp.E_3_20_0_0} {k0 : (Int) → (Zt3_0) → Option R} {k1 : (Zt3_0) → Option R} (h : x = Sp.B_3_20_0_0 y k0 k1) : gd c x = Sp.B_3_20_0_0 (gd c y) k0 k1 := by cases c; rfl; exact h
theorem Bcond_3_20_0_0 {R : Type} {c : Bool} {x x' : Option R} {y y' : Option Sp.E_3_20_0_0} {k0 : (Int) → (Zt3_0) → Option R} {k1 : (Zt3_0) → Option R} (h : x = Sp.B_3_20_0_0 y k0 k1) (h' : x' = Sp.B_3_20_0_0 y' k0 k1) : (bif c then x else x') = Sp.B_3_20_0_0 (bif c then y else y') k0 k1 := by cases c; exact h'; exact h
theorem loop_3_20_0_0 {R : Type} (k : Ex → St → Option R) : ∀ (m : Nat) (p0 : Zt3_3) (p1 : Int) (p2 : Int) (p3 : Zt3_0), evLoopN (evCodeL sm_3 FU (ovr noO (evFn sm_3 fns FU 1)) .nil ir20_b0) (St.norm ir20_v0) m (T_3_20_0_0 p0 p1 p2 p3) k = Sp.B_3_20_0_0 (Sp.L_3_20_0_0 m p0 p1 p2 p3) (fun p2 p3 => k Ex.ret (X_3_20_0_0_0 p2 p3)) (fun p3 => k (Ex.exit (0 : Nat)) (X_3_20_0_0_1 p3))
  | 0, _, _, _, _ => rfl
  | m + 1, p0, p1, p2, p3 => by
    rw [evLoopN_succ, body_3_20_0_0, Sp.L_3_20_0_0]
    repeat' first | apply Bgd_3_20_0_0 | apply Bcond_3_20_0_0 | exact loop_3_20_0_0 k m _ _ _ _ | rfl
theorem ok_3_20_0_0 {R : Type} (T : St) (k : Ex → St → Option R) (r : R) (h0 : o_3_20_0_0 G_3_20_0_0 T k = some r) : evLoopN (evCode sm_3 FU (evFn sm_3 fns FU 1) ir20_b0) (St.norm ir20_v0) FU T k = some r := by
  obtain ⟨p0, p1, p2, p3, rfl, h⟩ := o_3_20_0_0_inv h0
  refine evLoopN_L (t := .nil) noO_ok trivial _ _ _ _ ?_
  rw [loop_3_20_0_0]
  exact h
theorem OK_3_20_0 {R : Type} (T : St) (k : Ex → St → Option R) (r : R) (h : O_3_20_0 T k = some r) : evLoopN (evCode sm_3 FU (evFn sm_3 fns FU 1) ir20_b0) (St.norm ir20_v0) FU T k = some r := ok_3_20_0_0 T k r h
theorem g_3_20_ok {R : Type} (args : List CV) (hp : List Blk) (k : CV → List Blk → Option R) (r : R) (h : g_3_20 args hp k = some r) : evFn sm_3 fns FU 2 20 args hp k = some r :=
  evFnL_sound (fn := ir20) (t := (ir20_t O_3_20_0)) (o := noO) rfl noO_ok (ir20_tok (fun T k r => OK_3_20_0 T k r)) h
theorem ov_3_12_ok {R : Type} : OvrOK (R := R) (fun f' => bif Nat.beq f' 20 then some (g_3_20) else none) (evFn sm_3 fns FU 2) := by
  intro f' g h args hp k r hg
  dsimp only at h
  by_cases h20 : f' = 20
  · subst h20
    injection h with h
    subst h
    exact evFn_le 0 (g_3_20_ok _ _ _ _ hg)
  rw [nbeq_ne h20, cond_false] at h
  cases h
theorem g_3_12_ok {R : Type} (args : List CV) (hp : List Blk) (k : CV → List Blk → Option R) (r : R) (h : g_3_12 args hp k = some r) : evFn sm_3 fns FU 3 12 args hp k = some r :=
  evFnL_sound (fn := ir12) (t := .nil) (o := (fun f' => bif Nat.beq f' 20 then some (g_3_20) else none)) rfl ov_3_12_ok trivial h
theorem ov_3_3_ok {R : Type} : OvrOK (R := R) (fun f' => bif Nat.beq f' 12 then some (g_3_12) else none) (evFn sm_3 fns FU 3) := by
  intro f' g h args hp k r hg
  dsimp only at h
  by_cases h12 : f' = 12
  · subst h12
    injection h with h
    subst h
    exact evFn_le 0 (g_3_12_ok _ _ _ _ hg)
  rw [nbeq_ne h12, cond_false] at h
  cases h
noncomputable def F_3 (a0 : (List ((List Int) × (Int × (Int × ((List Int) × (Int × Unit))))))) (a1 : (List (Int × ((List Int) × Unit)))) (a2 : Int) (a3 : Int) : Option (Bool) :=
  gd Sp.p_8 (bif !Sp.v_8.1 then gd Sp.p_8 (some (Sp.v_8.1)) else gd (Sp.p_9 a0 ([], [], (0 : Int), false, PUnit.unit)) (bif !(Sp.v_9 a0 ([], [], (0 : Int), false, PUnit.unit)).1 then gd Sp.p_8 (some (Sp.v_8.1)) else bif decide ((↑(List.length a1) : Int) > (100 : Int)) then gd Sp.p_8 (some (Sp.v_8.1)) else gd (Sp.p_10 a0 a1 a2 a3) (gd (Sp.p_11 a0 (64 : Int)) (bif !(Sp.v_11 a0 (64 : Int)).1 then bif (Sp.v_10 a0 a1 a2 a3).1 == (0 : Int) then some ((Sp.v_10 a0 a1 a2 a3).2.1 == (1 : Int)) else some false else bif decide ((↑(List.length a1) : Int) > (64 : Int)) then bif (Sp.v_10 a0 a1 a2 a3).1 == (0 : Int) then some ((Sp.v_10 a0 a1 a2 a3).2.1 == (1 : Int)) else some false else Sp.B_3_20_0_0 (Sp.L_3_20_0_0 (4611686018427387904 : Nat) a1 (↑(List.length a1) : Int) (0 : Int) a0) (fun y11 y12 => bif decide (y11 ≥ (0 : Int)) then bif (Sp.v_10 a0 a1 a2 a3).1 == (0 : Int) then some ((Sp.v_10 a0 a1 a2 a3).2.1 == (1 : Int)) else some false else bif decide (a2 < (0 : Int)) then bif (Sp.v_10 a0 a1 a2 a3).1 == (0 : Int) then some ((Sp.v_10 a0 a1 a2 a3).2.1 == (2 : Int)) else some false else bif decide (a2 > (15 : Int)) then bif (Sp.v_10 a0 a1 a2 a3).1 == (0 : Int) then some ((Sp.v_10 a0 a1 a2 a3).2.1 == (2 : Int)) else some false else gd (Sp.p_14 y12 a1 a2 a3) (bif (Sp.v_10 a0 a1 a2 a3).1 == (Sp.v_14 y12 a1 a2 a3).1 then some ((Sp.v_10 a0 a1 a2 a3).2.1 == (0 : Int)) else some false)) fun y13 => bif decide (a2 < (0 : Int)) then bif (Sp.v_10 a0 a1 a2 a3).1 == (0 : Int) then some ((Sp.v_10 a0 a1 a2 a3).2.1 == (2 : Int)) else some false else bif decide (a2 > (15 : Int)) then bif (Sp.v_10 a0 a1 a2 a3).1 == (0 : Int) then some ((Sp.v_10 a0 a1 a2 a3).2.1 == (2 : Int)) else some false else gd (Sp.p_14 y13 a1 a2 a3) (bif (Sp.v_10 a0 a1 a2 a3).1 == (Sp.v_14 y13 a1 a2 a3).1 then some ((Sp.v_10 a0 a1 a2 a3).2.1 == (0 : Int)) else some false)))))
theorem fn_3 (a0 : (List ((List Int) × (Int × (Int × ((List Int) × (Int × Unit))))))) (a1 : (List (Int × ((List Int) × Unit)))) (a2 : Int) (a3 : Int) : evFnL sm_3 FU (ovr (fun f' => bif Nat.beq f' 12 then some (g_3_12) else none) (evFn sm_3 fns FU 3)) .nil ir3 (ofH [(.slice (.pair .str Zy3_2)), Zy3_5, (.int .i64), (.int .i64)] (a0, a1, a2, a3, ())) [] bk = F_3 a0 a1 a2 a3 := by kernel_rfl
theorem run_3 (a0 : (List ((List Int) × (Int × (Int × ((List Int) × (Int × Unit))))))) (a1 : (List (Int × ((List Int) × Unit)))) (a2 : Int) (a3 : Int) {b : Bool} (h : F_3 a0 a1 a2 a3 = some b) : evFn sm_3 fns FU 4 3 (ofH [(.slice (.pair .str Zy3_2)), Zy3_5, (.int .i64), (.int .i64)] (a0, a1, a2, a3, ())) [] bk = some b :=
  evFnL_sound (fn := ir3) (t := .nil) (o := (fun f' => bif Nat.beq f' 12 then some (g_3_12) else none)) rfl ov_3_3_ok trivial ((fn_3 _ _ _ _).trans h)
end
end Go.Ev
namespace Go.Proofs
open Go.Shelf
end Go.Proofs
namespace Go.Ev
open Go Go.Proofs Go.RowKit
set_option maxRecDepth 100000
set_option maxHeartbeats 4000000
noncomputable def smB : Nat → Bool := fun f => [8, 9, 10, 11, 14, 16, 17, 18, 19, 22, 23, 24, 25, 27, 29, 31, 32, 34, 36, 37, 39, 40, 42, 44, 45, 46, 47, 51, 52, 54, 55, 56, 57, 59, 60, 61, 62, 64, 65, 66, 67, 69, 70].contains f
theorem hm0 : Try.prog.follows .mixedOrders = true := by kernel_rfl
theorem key3 : fnKey Try.prog smB 3 = ir3.key := by kernel_rfl
theorem key8 : fnKey Try.prog smB 8 = ir8.key := by kernel_rfl
theorem key9 : fnKey Try.prog smB 9 = ir9.key := by kernel_rfl
theorem key10 : fnKey Try.prog smB 10 = ir10.key := by kernel_rfl
theorem key11 : fnKey Try.prog smB 11 = ir11.key := by kernel_rfl
theorem key12 : fnKey Try.prog smB 12 = ir12.key := by kernel_rfl
theorem key13 : fnKey Try.prog smB 13 = ir13.key := by kernel_rfl
theorem key14 : fnKey Try.prog smB 14 = ir14.key := by kernel_rfl
theorem key19 : fnKey Try.prog smB 19 = ir19.key := by kernel_rfl
theorem key20 : fnKey Try.prog smB 20 = ir20.key := by kernel_rfl
theorem key25 : fnKey Try.prog smB 25 = ir25.key := by kernel_rfl
theorem key27 : fnKey Try.prog smB 27 = ir27.key := by kernel_rfl
theorem key31 : fnKey Try.prog smB 31 = ir31.key := by kernel_rfl
theorem key32 : fnKey Try.prog smB 32 = ir32.key := by kernel_rfl
theorem key33 : fnKey Try.prog smB 33 = ir33.key := by kernel_rfl
theorem key34 : fnKey Try.prog smB 34 = ir34.key := by kernel_rfl
theorem key35 : fnKey Try.prog smB 35 = ir35.key := by kernel_rfl
theorem key36 : fnKey Try.prog smB 36 = ir36.key := by kernel_rfl
theorem key37 : fnKey Try.prog smB 37 = ir37.key := by kernel_rfl
theorem key38 : fnKey Try.prog smB 38 = ir38.key := by kernel_rfl
theorem key39 : fnKey Try.prog smB 39 = ir39.key := by kernel_rfl
theorem key40 : fnKey Try.prog smB 40 = ir40.key := by kernel_rfl
theorem key41 : fnKey Try.prog smB 41 = ir41.key := by kernel_rfl
theorem key42 : fnKey Try.prog smB 42 = ir42.key := by kernel_rfl
theorem key43 : fnKey Try.prog smB 43 = ir43.key := by kernel_rfl
theorem key47 : fnKey Try.prog smB 47 = ir47.key := by kernel_rfl
theorem key48 : fnKey Try.prog smB 48 = ir48.key := by kernel_rfl
theorem key49 : fnKey Try.prog smB 49 = ir49.key := by kernel_rfl
theorem key50 : fnKey Try.prog smB 50 = ir50.key := by kernel_rfl
theorem key51 : fnKey Try.prog smB 51 = ir51.key := by kernel_rfl
theorem key52 : fnKey Try.prog smB 52 = ir52.key := by kernel_rfl
theorem key53 : fnKey Try.prog smB 53 = ir53.key := by kernel_rfl
theorem key57 : fnKey Try.prog smB 57 = ir57.key := by kernel_rfl
theorem key58 : fnKey Try.prog smB 58 = ir58.key := by kernel_rfl
theorem key59 : fnKey Try.prog smB 59 = ir59.key := by kernel_rfl
theorem key61 : fnKey Try.prog smB 61 = ir61.key := by kernel_rfl
theorem key62 : fnKey Try.prog smB 62 = ir62.key := by kernel_rfl
theorem key63 : fnKey Try.prog smB 63 = ir63.key := by kernel_rfl
theorem key64 : fnKey Try.prog smB 64 = ir64.key := by kernel_rfl
theorem key65 : fnKey Try.prog smB 65 = ir65.key := by kernel_rfl
theorem key66 : fnKey Try.prog smB 66 = ir66.key := by kernel_rfl
theorem key67 : fnKey Try.prog smB 67 = ir67.key := by kernel_rfl
theorem key68 : fnKey Try.prog smB 68 = ir68.key := by kernel_rfl
theorem key69 : fnKey Try.prog smB 69 = ir69.key := by kernel_rfl
theorem key70 : fnKey Try.prog smB 70 = ir70.key := by kernel_rfl
theorem fns_ok : FnsOK Try.prog smB fns := by
  intro f fn h
  unfold fns at h
  split at h
  · simp only [Option.some.injEq] at h; subst h; exact key3
  · simp only [Option.some.injEq] at h; subst h; exact key8
  · simp only [Option.some.injEq] at h; subst h; exact key9
  · simp only [Option.some.injEq] at h; subst h; exact key10
  · simp only [Option.some.injEq] at h; subst h; exact key11
  · simp only [Option.some.injEq] at h; subst h; exact key12
  · simp only [Option.some.injEq] at h; subst h; exact key13
  · simp only [Option.some.injEq] at h; subst h; exact key14
  · simp only [Option.some.injEq] at h; subst h; exact key19
  · simp only [Option.some.injEq] at h; subst h; exact key20
  · simp only [Option.some.injEq] at h; subst h; exact key25
  · simp only [Option.some.injEq] at h; subst h; exact key27
  · simp only [Option.some.injEq] at h; subst h; exact key31
  · simp only [Option.some.injEq] at h; subst h; exact key32
  · simp only [Option.some.injEq] at h; subst h; exact key33
  · simp only [Option.some.injEq] at h; subst h; exact key34
  · simp only [Option.some.injEq] at h; subst h; exact key35
  · simp only [Option.some.injEq] at h; subst h; exact key36
  · simp only [Option.some.injEq] at h; subst h; exact key37
  · simp only [Option.some.injEq] at h; subst h; exact key38
  · simp only [Option.some.injEq] at h; subst h; exact key39
  · simp only [Option.some.injEq] at h; subst h; exact key40
  · simp only [Option.some.injEq] at h; subst h; exact key41
  · simp only [Option.some.injEq] at h; subst h; exact key42
  · simp only [Option.some.injEq] at h; subst h; exact key43
  · simp only [Option.some.injEq] at h; subst h; exact key47
  · simp only [Option.some.injEq] at h; subst h; exact key48
  · simp only [Option.some.injEq] at h; subst h; exact key49
  · simp only [Option.some.injEq] at h; subst h; exact key50
  · simp only [Option.some.injEq] at h; subst h; exact key51
  · simp only [Option.some.injEq] at h; subst h; exact key52
  · simp only [Option.some.injEq] at h; subst h; exact key53
  · simp only [Option.some.injEq] at h; subst h; exact key57
  · simp only [Option.some.injEq] at h; subst h; exact key58
  · simp only [Option.some.injEq] at h; subst h; exact key59
  · simp only [Option.some.injEq] at h; subst h; exact key61
  · simp only [Option.some.injEq] at h; subst h; exact key62
  · simp only [Option.some.injEq] at h; subst h; exact key63
  · simp only [Option.some.injEq] at h; subst h; exact key64
  · simp only [Option.some.injEq] at h; subst h; exact key65
  · simp only [Option.some.injEq] at h; subst h; exact key66
  · simp only [Option.some.injEq] at h; subst h; exact key67
  · simp only [Option.some.injEq] at h; subst h; exact key68
  · simp only [Option.some.injEq] at h; subst h; exact key69
  · simp only [Option.some.injEq] at h; subst h; exact key70
  · cases h
theorem sok_42 : SummOK Try.prog 42 actS := by
  refine summ_clo (call := evFn (fun _ => none) fns FU 3) (fun base => ev_sound hm0 (fun f s h => by cases h) (fun f s h => by cases h) fns_ok 3) (by kernel_rfl) ?_
  intro look cs cs' c2 hp hF
  obtain ⟨x, rfl⟩ := purify_ofH hp
  rw [toH_ofH] at hF
  injection hF with hF
  injection hF with _ hF
  subst hF
  obtain ⟨F, b, _⟩ := x
  exact ⟨53, .pair (.ptr 0 []) (.pair (.ptr 1 []) cunit), .pair (.ref (.int .i64) b) (.pair (.ref (.pair (.slice (.pair (.int .i64) (.pair (.int .i64) (.pair (.int .i64) (.pair (.int .i64) (.pair (.int .i64) (.pair (.int .i64) (.pair .bool (.pair (.int .i64) .unit))))))))) (.pair (.slice (.pair (.int .i64) (.pair (.int .i64) (.pair (.int .i64) (.pair (.int .i64) (.pair (.int .i64) (.pair (.slice (.int .i64)) (.pair (.int .i64) .unit)))))))) (.pair (.int .i64) (.pair .bool .unit)))) F) cunit), [.int .i64, (.pair (.slice (.pair (.int .i64) (.pair (.int .i64) (.pair (.int .i64) (.pair (.int .i64) (.pair (.int .i64) (.pair (.int .i64) (.pair .bool (.pair (.int .i64) .unit))))))))) (.pair (.slice (.pair (.int .i64) (.pair (.int .i64) (.pair (.int .i64) (.pair (.int .i64) (.pair (.int .i64) (.pair (.slice (.int .i64)) (.pair (.int .i64) .unit)))))))) (.pair (.int .i64) (.pair .bool .unit))))], [.mem (.int .i64 b), .mem (.pure (.pair (.slice (.pair (.int .i64) (.pair (.int .i64) (.pair (.int .i64) (.pair (.int .i64) (.pair (.int .i64) (.pair (.int .i64) (.pair .bool (.pair (.int .i64) .unit))))))))) (.pair (.slice (.pair (.int .i64) (.pair (.int .i64) (.pair (.int .i64) (.pair (.int .i64) (.pair (.int .i64) (.pair (.slice (.int .i64)) (.pair (.int .i64) .unit)))))))) (.pair (.int .i64) (.pair .bool .unit)))) F)], rfl, by kernel_rfl, by kernel_rfl⟩
theorem smok_57 : ∀ f s, sm_57 f = some s → SummOK Try.prog f s := by
  intro f s h
  unfold sm_57 at h
  cases h
theorem call_57 {R : Type} (n base : Nat) : CallOK Try.prog base (evFn (R := R) sm_57 fns FU n) := ev_sound hm0 smok_57 (fun f s h => (smok_57 f s h).2.1) fns_ok n
theorem sok_57 : SummOK Try.prog 57 s_57 := summ_shN (by decide) (fun _ => rfl) (fun _ => rfl) (call_57 1) (by kernel_rfl) run_57
theorem smok_51 : ∀ f s, sm_51 f = some s → SummOK Try.prog f s := by
  intro f s h
  unfold sm_51 at h
  by_cases h57 : f = 57
  · subst h57
    injection h with h
    subst h
    exact sok_57
  rw [nbeq_ne h57, cond_false] at h
  cases h
theorem call_51 {R : Type} (n base : Nat) : CallOK Try.prog base (evFn (R := R) sm_51 fns FU n) := ev_sound hm0 smok_51 (fun f s h => (smok_51 f s h).2.1) fns_ok n
theorem sok_51 : SummOK Try.prog 51 s_51 := summ_shN (by decide) (fun _ => rfl) (fun _ => rfl) (call_51 1) (by kernel_rfl) run_51
theorem sok_37 : SummOK Try.prog 37 s_37 := hand_37 sok_51
theorem smok_10 : ∀ f s, sm_10 f = some s → SummOK Try.prog f s := by
  intro f s h
  unfold sm_10 at h
  by_cases h37 : f = 37
  · subst h37
    injection h with h
    subst h
    exact sok_37
  rw [nbeq_ne h37, cond_false] at h
  cases h
theorem call_10 {R : Type} (n base : Nat) : CallOK Try.prog base (evFn (R := R) sm_10 fns FU n) := ev_sound hm0 smok_10 (fun f s h => (smok_10 f s h).2.1) fns_ok n
theorem sok_10 : SummOK Try.prog 10 s_10 := summ_shN (by decide) (fun _ => rfl) (fun _ => rfl) (call_10 4) (by kernel_rfl) run_10
theorem smok_61 : ∀ f s, sm_61 f = some s → SummOK Try.prog f s := by
  intro f s h
  unfold sm_61 at h
  cases h
theorem call_61 {R : Type} (n base : Nat) : CallOK Try.prog base (evFn (R := R) sm_61 fns FU n) := ev_sound hm0 smok_61 (fun f s h => (smok_61 f s h).2.1) fns_ok n
theorem sok_61 : SummOK Try.prog 61 s_61 := summ_shN (by decide) (fun _ => rfl) (fun _ => rfl) (call_61 1) (by kernel_rfl) run_61
theorem smok_70 : ∀ f s, sm_70 f = some s → SummOK Try.prog f s := by
  intro f s h
  unfold sm_70 at h
  by_cases h61 : f = 61
  · subst h61
    injection h with h
    subst h
    exact sok_61
  rw [nbeq_ne h61, cond_false] at h
  cases h
theorem call_70 {R : Type} (n base : Nat) : CallOK Try.prog base (evFn (R := R) sm_70 fns FU n) := ev_sound hm0 smok_70 (fun f s h => (smok_70 f s h).2.1) fns_ok n
theorem sok_70 : SummOK Try.prog 70 s_70 := summ_shN (by decide) (fun _ => rfl) (fun _ => rfl) (call_70 1) (by kernel_rfl) run_70
theorem smok_65 : ∀ f s, sm_65 f = some s → SummOK Try.prog f s := by
  intro f s h
  unfold sm_65 at h
  by_cases h70 : f = 70
  · subst h70
    injection h with h
    subst h
    exact sok_70
  rw [nbeq_ne h70, cond_false] at h
  cases h
theorem call_65 {R : Type} (n base : Nat) : CallOK Try.prog base (evFn (R := R) sm_65 fns FU n) := ev_sound hm0 smok_65 (fun f s h => (smok_65 f s h).2.1) fns_ok n
theorem sok_65 : SummOK Try.prog 65 s_65 := summ_shN (by decide) (fun _ => rfl) (fun _ => rfl) (call_65 4) (by kernel_rfl) run_65
theorem smok_66 : ∀ f s, sm_66 f = some s → SummOK Try.prog f s := by
  intro f s h
  unfold sm_66 at h
  cases h
theorem call_66 {R : Type} (n base : Nat) : CallOK Try.prog base (evFn (R := R) sm_66 fns FU n) := ev_sound hm0 smok_66 (fun f s h => (smok_66 f s h).2.1) fns_ok n
theorem sok_66 : SummOK Try.prog 66 s_66 := summ_shN (by decide) (fun _ => rfl) (fun _ => rfl) (call_66 1) (by kernel_rfl) run_66
theorem smok_67 : ∀ f s, sm_67 f = some s → SummOK Try.prog f s := by
  intro f s h
  unfold sm_67 at h
  cases h
theorem call_67 {R : Type} (n base : Nat) : CallOK Try.prog base (evFn (R := R) sm_67 fns FU n) := ev_sound hm0 smok_67 (fun f s h => (smok_67 f s h).2.1) fns_ok n
theorem sok_67 : SummOK Try.prog 67 s_67 := summ_shN (by decide) (fun _ => rfl) (fun _ => rfl) (call_67 1) (by kernel_rfl) run_67
theorem smok_62 : ∀ f s, sm_62 f = some s → SummOK Try.prog f s := by
  intro f s h
  unfold sm_62 at h
  by_cases h61 : f = 61
  · subst h61
    injection h with h
    subst h
    exact sok_61
  rw [nbeq_ne h61, cond_false] at h
  by_cases h65 : f = 65
  · subst h65
    injection h with h
    subst h
    exact sok_65
  rw [nbeq_ne h65, cond_false] at h
  by_cases h66 : f = 66
  · subst h66
    injection h with h
    subst h
    exact sok_66
  rw [nbeq_ne h66, cond_false] at h
  by_cases h67 : f = 67
  · subst h67
    injection h with h
    subst h
    exact sok_67
  rw [nbeq_ne h67, cond_false] at h
  cases h
theorem call_62 {R : Type} (n base : Nat) : CallOK Try.prog base (evFn (R := R) sm_62 fns FU n) := ev_sound hm0 smok_62 (fun f s h => (smok_62 f s h).2.1) fns_ok n
theorem sok_62 : SummOK Try.prog 62 s_62 := summ_shN (by decide) (fun _ => rfl) (fun _ => rfl) (call_62 1) (by kernel_rfl) run_62
theorem smok_64 : ∀ f s, sm_64 f = some s → SummOK Try.prog f s := by
  intro f s h
  unfold sm_64 at h
  by_cases h61 : f = 61
  · subst h61
    injection h with h
    subst h
    exact sok_61
  rw [nbeq_ne h61, cond_false] at h
  cases h
theorem call_64 {R : Type} (n base : Nat) : CallOK Try.prog base (evFn (R := R) sm_64 fns FU n) := ev_sound hm0 smok_64 (fun f s h => (smok_64 f s h).2.1) fns_ok n
theorem sok_64 : SummOK Try.prog 64 s_64 := summ_shN (by decide) (fun _ => rfl) (fun _ => rfl) (call_64 1) (by kernel_rfl) run_64
theorem smok_52 : ∀ f s, sm_52 f = some s → SummOK Try.prog f s := by
  intro f s h
  unfold sm_52 at h
  by_cases h60 : f = 60
  · subst h60
    injection h with h
    subst h
    exact sok_60
  rw [nbeq_ne h60, cond_false] at h
  by_cases h61 : f = 61
  · subst h61
    injection h with h
    subst h
    exact sok_61
  rw [nbeq_ne h61, cond_false] at h
  by_cases h62 : f = 62
  · subst h62
    injection h with h
    subst h
    exact sok_62
  rw [nbeq_ne h62, cond_false] at h
  by_cases h64 : f = 64
  · subst h64
    injection h with h
    subst h
    exact sok_64
  rw [nbeq_ne h64, cond_false] at h
  cases h
theorem call_52 {R : Type} (n base : Nat) : CallOK Try.prog base (evFn (R := R) sm_52 fns FU n) := ev_sound hm0 smok_52 (fun f s h => (smok_52 f s h).2.1) fns_ok n
theorem sok_52 : SummOK Try.prog 52 s_52 := summ_shN (by decide) (fun _ => rfl) (fun _ => rfl) (call_52 4) (by kernel_rfl) run_52
theorem smok_40 : ∀ f s, sm_40 f = some s → SummOK Try.prog f s := by
  intro f s h
  unfold sm_40 at h
  by_cases h37 : f = 37
  · subst h37
    injection h with h
    subst h
    exact sok_37
  rw [nbeq_ne h37, cond_false] at h
  by_cases h52 : f = 52
  · subst h52
    injection h with h
    subst h
    exact sok_52
  rw [nbeq_ne h52, cond_false] at h
  cases h
theorem call_40 {R : Type} (n base : Nat) : CallOK Try.prog base (evFn (R := R) sm_40 fns FU n) := ev_sound hm0 smok_40 (fun f s h => (smok_40 f s h).2.1) fns_ok n
theorem sok_40 : SummOK Try.prog 40 s_40 := summ_shN (by decide) (fun _ => rfl) (fun _ => rfl) (call_40 1) (by kernel_rfl) run_40
theorem smok_19 : ∀ f s, sm_19 f = some s → SummOK Try.prog f s := by
  intro f s h
  unfold sm_19 at h
  by_cases h40 : f = 40
  · subst h40
    injection h with h
    subst h
    exact sok_40
  rw [nbeq_ne h40, cond_false] at h
  by_cases h42 : f = 42
  · subst h42
    injection h with h
    subst h
    exact sok_42
  rw [nbeq_ne h42, cond_false] at h
  cases h
theorem call_19 {R : Type} (n base : Nat) : CallOK Try.prog base (evFn (R := R) sm_19 fns FU n) := ev_sound hm0 smok_19 (fun f s h => (smok_19 f s h).2.1) fns_ok n
theorem sok_19 : SummOK Try.prog 19 s_19 := summ_sh (fun _ => rfl) (fun _ => rfl) (call_19 4) (by kernel_rfl) run_19
theorem smok_25 : ∀ f s, sm_25 f = some s → SummOK Try.prog f s := by
  intro f s h
  unfold sm_25 at h
  by_cases h40 : f = 40
  · subst h40
    injection h with h
    subst h
    exact sok_40
  rw [nbeq_ne h40, cond_false] at h
  by_cases h42 : f = 42
  · subst h42
    injection h with h
    subst h
    exact sok_42
  rw [nbeq_ne h42, cond_false] at h
  cases h
theorem call_25 {R : Type} (n base : Nat) : CallOK Try.prog base (evFn (R := R) sm_25 fns FU n) := ev_sound hm0 smok_25 (fun f s h => (smok_25 f s h).2.1) fns_ok n
theorem sok_25 : SummOK Try.prog 25 s_25 := summ_sh (fun _ => rfl) (fun _ => rfl) (call_25 4) (by kernel_rfl) run_25
theorem smok_31 : ∀ f s, sm_31 f = some s → SummOK Try.prog f s := by
  intro f s h
  unfold sm_31 at h
  cases h
theorem call_31 {R : Type} (n base : Nat) : CallOK Try.prog base (evFn (R := R) sm_31 fns FU n) := ev_sound hm0 smok_31 (fun f s h => (smok_31 f s h).2.1) fns_ok n
theorem sok_31 : SummOK Try.prog 31 s_31 := summ_shN (by decide) (fun _ => rfl) (fun _ => rfl) (call_31 1) (by kernel_rfl) run_31
theorem smok_47 : ∀ f s, sm_47 f = some s → SummOK Try.prog f s := by
  intro f s h
  unfold sm_47 at h
  cases h
theorem call_47 {R : Type} (n base : Nat) : CallOK Try.prog base (evFn (R := R) sm_47 fns FU n) := ev_sound hm0 smok_47 (fun f s h => (smok_47 f s h).2.1) fns_ok n
theorem sok_47 : SummOK Try.prog 47 s_47 := summ_shN (by decide) (fun _ => rfl) (fun _ => rfl) (call_47 1) (by kernel_rfl) run_47
theorem smok_27 : ∀ f s, sm_27 f = some s → SummOK Try.prog f s := by
  intro f s h
  unfold sm_27 at h
  by_cases h47 : f = 47
  · subst h47
    injection h with h
    subst h
    exact sok_47
  rw [nbeq_ne h47, cond_false] at h
  cases h
theorem call_27 {R : Type} (n base : Nat) : CallOK Try.prog base (evFn (R := R) sm_27 fns FU n) := ev_sound hm0 smok_27 (fun f s h => (smok_27 f s h).2.1) fns_ok n
theorem sok_27 : SummOK Try.prog 27 s_27 := summ_shN (by decide) (fun _ => rfl) (fun _ => rfl) (call_27 1) (by kernel_rfl) run_27
theorem smok_32 : ∀ f s, sm_32 f = some s → SummOK Try.prog f s := by
  intro f s h
  unfold sm_32 at h
  by_cases h27 : f = 27
  · subst h27
    injection h with h
    subst h
    exact sok_27
  rw [nbeq_ne h27, cond_false] at h
  cases h
theorem call_32 {R : Type} (n base : Nat) : CallOK Try.prog base (evFn (R := R) sm_32 fns FU n) := ev_sound hm0 smok_32 (fun f s h => (smok_32 f s h).2.1) fns_ok n
theorem sok_32 : SummOK Try.prog 32 s_32 := summ_sh (fun _ => rfl) (fun _ => rfl) (call_32 1) (by kernel_rfl) run_32
theorem smok_8 : ∀ f s, sm_8 f = some s → SummOK Try.prog f s := by
  intro f s h
  unfold sm_8 at h
  by_cases h10 : f = 10
  · subst h10
    injection h with h
    subst h
    exact sok_10
  rw [nbeq_ne h10, cond_false] at h
  by_cases h19 : f = 19
  · subst h19
    injection h with h
    subst h
    exact sok_19
  rw [nbeq_ne h19, cond_false] at h
  by_cases h25 : f = 25
  · subst h25
    injection h with h
    subst h
    exact sok_25
  rw [nbeq_ne h25, cond_false] at h
  by_cases h31 : f = 31
  · subst h31
    injection h with h
    subst h
    exact sok_31
  rw [nbeq_ne h31, cond_false] at h
  by_cases h32 : f = 32
  · subst h32
    injection h with h
    subst h
    exact sok_32
  rw [nbeq_ne h32, cond_false] at h
  cases h
theorem call_8 {R : Type} (n base : Nat) : CallOK Try.prog base (evFn (R := R) sm_8 fns FU n) := ev_sound hm0 smok_8 (fun f s h => (smok_8 f s h).2.1) fns_ok n
theorem sok_8 : SummOK Try.prog 8 s_8 := summ_shN (by decide) (fun _ => rfl) (fun _ => rfl) (call_8 1) (by kernel_rfl) run_8
theorem smok_9 : ∀ f s, sm_9 f = some s → SummOK Try.prog f s := by
  intro f s h
  unfold sm_9 at h
  cases h
theorem call_9 {R : Type} (n base : Nat) : CallOK Try.prog base (evFn (R := R) sm_9 fns FU n) := ev_sound hm0 smok_9 (fun f s h => (smok_9 f s h).2.1) fns_ok n
theorem sok_9 : SummOK Try.prog 9 s_9 := summ_shN (by decide) (fun _ => rfl) (fun _ => rfl) (call_9 4) (by kernel_rfl) run_9
theorem smok_39 : ∀ f s, sm_39 f = some s → SummOK Try.prog f s := by
  intro f s h
  unfold sm_39 at h
  cases h
theorem call_39 {R : Type} (n base : Nat) : CallOK Try.prog base (evFn (R := R) sm_39 fns FU n) := ev_sound hm0 smok_39 (fun f s h => (smok_39 f s h).2.1) fns_ok n
theorem sok_39 : SummOK Try.prog 39 s_39 := summ_shN (by decide) (fun _ => rfl) (fun _ => rfl) (call_39 1) (by kernel_rfl) run_39
theorem smok_11 : ∀ f s, sm_11 f = some s → SummOK Try.prog f s := by
  intro f s h
  unfold sm_11 at h
  by_cases h39 : f = 39
  · subst h39
    injection h with h
    subst h
    exact sok_39
  rw [nbeq_ne h39, cond_false] at h
  cases h
theorem call_11 {R : Type} (n base : Nat) : CallOK Try.prog base (evFn (R := R) sm_11 fns FU n) := ev_sound hm0 smok_11 (fun f s h => (smok_11 f s h).2.1) fns_ok n
theorem sok_11 : SummOK Try.prog 11 s_11 := summ_shN (by decide) (fun _ => rfl) (fun _ => rfl) (call_11 1) (by kernel_rfl) run_11
theorem smok_14 : ∀ f s, sm_14 f = some s → SummOK Try.prog f s := by
  intro f s h
  unfold sm_14 at h
  cases h
theorem call_14 {R : Type} (n base : Nat) : CallOK Try.prog base (evFn (R := R) sm_14 fns FU n) := ev_sound hm0 smok_14 (fun f s h => (smok_14 f s h).2.1) fns_ok n
theorem sok_14 : SummOK Try.prog 14 s_14 := summ_shN (by decide) (fun _ => rfl) (fun _ => rfl) (call_14 1) (by kernel_rfl) run_14
theorem smok_3 : ∀ f s, sm_3 f = some s → SummOK Try.prog f s := by
  intro f s h
  unfold sm_3 at h
  by_cases h8 : f = 8
  · subst h8
    injection h with h
    subst h
    exact sok_8
  rw [nbeq_ne h8, cond_false] at h
  by_cases h9 : f = 9
  · subst h9
    injection h with h
    subst h
    exact sok_9
  rw [nbeq_ne h9, cond_false] at h
  by_cases h10 : f = 10
  · subst h10
    injection h with h
    subst h
    exact sok_10
  rw [nbeq_ne h10, cond_false] at h
  by_cases h11 : f = 11
  · subst h11
    injection h with h
    subst h
    exact sok_11
  rw [nbeq_ne h11, cond_false] at h
  by_cases h14 : f = 14
  · subst h14
    injection h with h
    subst h
    exact sok_14
  rw [nbeq_ne h14, cond_false] at h
  cases h
theorem call_3 {R : Type} (n base : Nat) : CallOK Try.prog base (evFn (R := R) sm_3 fns FU n) := ev_sound hm0 smok_3 (fun f s h => (smok_3 f s h).2.1) fns_ok n
end Go.Ev
