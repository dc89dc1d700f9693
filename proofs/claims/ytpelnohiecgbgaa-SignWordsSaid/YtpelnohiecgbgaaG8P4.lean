/- Helpers: functions of the program as Lean functions, and what they compute. No condition. -/
import Derived.Test.YtpelnohiecgbgaaEvPart2
import Derived.Test.YtpelnohiecgbgaaG8P0
import Derived.Test.YtpelnohiecgbgaaG8P1
import Derived.Test.YtpelnohiecgbgaaG8P3
set_option maxRecDepth 10000
set_option linter.unusedVariables false
set_option linter.unusedSimpArgs false
namespace Go.Ev
open Go
set_option maxRecDepth 100000
set_option maxHeartbeats 4000000
set_option linter.unusedVariables false
noncomputable section

def sm_18 : Nat → Option Summ := fun f => bif Nat.beq f 13 then some s_13 else bif Nat.beq f 37 then some s_37 else bif Nat.beq f 38 then some s_38 else bif Nat.beq f 39 then some s_39 else bif Nat.beq f 40 then some s_40 else none
def T_18_0 (p0 : List Int) (p1 : Int) (p2 : Int) (p3 : List Int) (p4 : Int × List (List Int) × List (List Int) × PUnit) (p5 : List (List Int)) : St := St.mk [jk, jk, jk, CV.ptr (0 : Nat) [], jk, CV.ptr (1 : Nat) [], jk, CV.whole (2 : Nat), jk, jk, jk, jk, jk, jk, jk, jk, jk, CV.pure (Ty.slice (Ty.int IntKind.i64)) p0, CV.int IntKind.i64 p1, CV.int IntKind.i64 p2, jk, jk, jk, jk, jk, jk, jk, jk, jk, jk, jk, jk, jk, jk, jk, jk, jk, jk, jk, jk, jk, jk, jk, jk, jk, jk, jk, jk, jk, jk, jk, jk, jk, jk, jk, jk, jk, jk, jk, jk, jk] [Blk.mem (CV.pure (Ty.arr (32 : Nat) (Ty.int IntKind.u8)) p3), Blk.mem (CV.pure (Ty.pair (Ty.int IntKind.i64) (Ty.pair (Ty.slice (Ty.arr (32 : Nat) (Ty.int IntKind.u8))) (Ty.pair (Ty.slice (Ty.arr (32 : Nat) (Ty.int IntKind.u8))) Ty.unit))) p4), Blk.vec (25 : Nat) (Ty.arr (32 : Nat) (Ty.int IntKind.u8)) p5] (0 : Nat)
def X_18_0_0 (p3 : List Int) (p4 : Int × List (List Int) × List (List Int) × PUnit) (p5 : List (List Int)) : St := St.mk [jk, jk, jk, CV.ptr (0 : Nat) [], jk, CV.ptr (1 : Nat) [], jk, CV.whole (2 : Nat), jk, jk, jk, jk, jk, jk, jk, jk, jk, jk, jk, jk, jk, jk, jk, jk, jk, jk, jk, jk, jk, jk, jk, jk, jk, jk, jk, jk, jk, jk, jk, jk, jk, jk, jk, jk, jk, jk, jk, jk, jk, jk, jk, jk, jk, jk, jk, jk, jk, jk, jk, jk, jk] [Blk.mem (CV.pure (Ty.arr (32 : Nat) (Ty.int IntKind.u8)) p3), Blk.mem (CV.pure (Ty.pair (Ty.int IntKind.i64) (Ty.pair (Ty.slice (Ty.arr (32 : Nat) (Ty.int IntKind.u8))) (Ty.pair (Ty.slice (Ty.arr (32 : Nat) (Ty.int IntKind.u8))) Ty.unit))) p4), Blk.vec (25 : Nat) (Ty.arr (32 : Nat) (Ty.int IntKind.u8)) p5] (0 : Nat)
inductive Sp.E_18_0 where
  | e0 (p3 : List Int) (p4 : Int × List (List Int) × List (List Int) × PUnit) (p5 : List (List Int))
def Sp.B_18_0 {R : Type} (r : Option Sp.E_18_0) (k0 : (List Int) → (Int × List (List Int) × List (List Int) × PUnit) → (List (List Int)) → Option R) : Option R := match r with
  | none => none
  | some (.e0 p3 p4 p5) => k0 p3 p4 p5
def Sp.L_18_0 : Nat → (List Int) → (Int) → (Int) → (List Int) → (Int × List (List Int) × List (List Int) × PUnit) → (List (List Int)) → Option Sp.E_18_0
  | 0, _, _, _, _, _, _ => none
  | m + 1, p0, p1, p2, p3, p4, p5 => bif decide (p2 < p1) then gd (inB p2 (List.length p0)) (gd (inB p2 (List.length (Prod.fst (Prod.snd p4)))) (gd (Sp.p_37 (List.getD (Prod.fst (Prod.snd p4)) (Int.toNat p2) (Ty.dflt (Ty.arr (32 : Nat) (Ty.int IntKind.u8)))) (List.getD p0 (Int.toNat p2) (0 : Int)) (15 : Int)) (gd (room (List.length p5 + (1 : Nat)) (32 : Nat)) (Sp.L_18_0 m p0 p1 (IntKind.wrap IntKind.i64 (p2 + (1 : Int))) p3 p4 (p5 ++ [Prod.fst (Sp.v_37 (List.getD (Prod.fst (Prod.snd p4)) (Int.toNat p2) (Ty.dflt (Ty.arr (32 : Nat) (Ty.int IntKind.u8)))) (List.getD p0 (Int.toNat p2) (0 : Int)) (15 : Int))]))))) else some (Sp.E_18_0.e0 p3 p4 p5)
def G_18_0 {R : Type} (p0 : List Int) (p1 : Int) (p2 : Int) (p3 : List Int) (p4 : Int × List (List Int) × List (List Int) × PUnit) (p5 : List (List Int)) (k : Ex → St → Option R) : Option R := Sp.B_18_0 (Sp.L_18_0 FU p0 p1 p2 p3 p4 p5) (fun p3 p4 p5 => k (Ex.exit (0 : Nat)) (X_18_0_0 p3 p4 p5))
def o_18_0 {R : Type} (G : (List Int) → (Int) → (Int) → (List Int) → (Int × List (List Int) × List (List Int) × PUnit) → (List (List Int)) → (Ex → St → Option R) → Option R) : St → (Ex → St → Option R) → Option R := fun T k => match T.sl.getD 3 .junk, T.sl.getD 5 .junk, T.sl.getD 7 .junk, T.sl.getD 17 .junk, T.sl.getD 18 .junk, T.sl.getD 19 .junk, T.hp with
  | CV.ptr (0 : Nat) [], CV.ptr (1 : Nat) [], CV.whole (2 : Nat), CV.pure (Ty.slice (Ty.int IntKind.i64)) p0, CV.int IntKind.i64 p1, CV.int IntKind.i64 p2, ((Blk.mem (CV.pure (Ty.arr (32 : Nat) (Ty.int IntKind.u8)) p3)) :: (Blk.mem (CV.pure (Ty.pair (Ty.int IntKind.i64) (Ty.pair (Ty.slice (Ty.arr (32 : Nat) (Ty.int IntKind.u8))) (Ty.pair (Ty.slice (Ty.arr (32 : Nat) (Ty.int IntKind.u8))) Ty.unit))) p4)) :: (Blk.vec (25 : Nat) (Ty.arr (32 : Nat) (Ty.int IntKind.u8)) p5) :: []) => gd (shapeOK T 61 [3, 5, 7, 17, 18, 19] (0 : Nat)) (G p0 p1 p2 p3 p4 p5 k)
  | _, _, _, _, _, _, _ => none
theorem o_18_0_inv {R : Type} {G : (List Int) → (Int) → (Int) → (List Int) → (Int × List (List Int) × List (List Int) × PUnit) → (List (List Int)) → (Ex → St → Option R) → Option R} {T : St} {k : Ex → St → Option R} {r : R} (h : o_18_0 G T k = some r) : ∃ p0 p1 p2 p3 p4 p5, T = T_18_0 p0 p1 p2 p3 p4 p5 ∧ G p0 p1 p2 p3 p4 p5 k = some r := by
  unfold o_18_0 at h
  split at h
  · obtain ⟨hs, h'⟩ := gd_some h
    refine ⟨_, _, _, _, _, _, (st_of (asg := [(3, _), (5, _), (7, _), (17, _), (18, _), (19, _)]) hs ⟨by assumption, by assumption, by assumption, by assumption, by assumption, by assumption, trivial⟩ (by assumption)).trans ?_, h'⟩
    kernel_rfl
  · cases h
def T_18_1 (p0 : List (List Int)) (p1 : Int) (p2 : Int) (p3 : List Int) (p4 : Int × List (List Int) × List (List Int) × PUnit) (p5 : List Int) : St := St.mk [jk, jk, jk, CV.ptr (0 : Nat) [], jk, CV.ptr (1 : Nat) [], jk, jk, jk, jk, CV.ptr (2 : Nat) [], jk, jk, jk, jk, jk, jk, jk, jk, jk, jk, jk, jk, jk, jk, jk, jk, jk, jk, jk, jk, jk, jk, jk, jk, jk, jk, jk, CV.pure (Ty.slice (Ty.arr (32 : Nat) (Ty.int IntKind.u8))) p0, CV.int IntKind.i64 p1, CV.int IntKind.i64 p2, jk, jk, jk, jk, jk, jk, jk, jk, jk, jk, jk, jk, jk, jk, jk, jk, jk, jk, jk, jk] [Blk.mem (CV.pure (Ty.arr (32 : Nat) (Ty.int IntKind.u8)) p3), Blk.mem (CV.pure (Ty.pair (Ty.int IntKind.i64) (Ty.pair (Ty.slice (Ty.arr (32 : Nat) (Ty.int IntKind.u8))) (Ty.pair (Ty.slice (Ty.arr (32 : Nat) (Ty.int IntKind.u8))) Ty.unit))) p4), Blk.mem (CV.pure (Ty.arr (32 : Nat) (Ty.int IntKind.u8)) p5)] (0 : Nat)
def X_18_1_0 (p3 : List Int) (p5 : List Int) : St := St.mk [jk, jk, jk, CV.ptr (0 : Nat) [], jk, jk, jk, jk, jk, jk, CV.ptr (1 : Nat) [], jk, jk, jk, jk, jk, jk, jk, jk, jk, jk, jk, jk, jk, jk, jk, jk, jk, jk, jk, jk, jk, jk, jk, jk, jk, jk, jk, jk, jk, jk, jk, jk, jk, jk, jk, jk, jk, jk, jk, jk, jk, jk, jk, jk, jk, jk, jk, jk, jk, jk] [Blk.mem (CV.pure (Ty.arr (32 : Nat) (Ty.int IntKind.u8)) p3), Blk.mem (CV.pure (Ty.arr (32 : Nat) (Ty.int IntKind.u8)) p5)] (0 : Nat)
inductive Sp.E_18_1 where
  | e0 (p3 : List Int) (p5 : List Int)
def Sp.B_18_1 {R : Type} (r : Option Sp.E_18_1) (k0 : (List Int) → (List Int) → Option R) : Option R := match r with
  | none => none
  | some (.e0 p3 p5) => k0 p3 p5
def Sp.L_18_1 : Nat → (List (List Int)) → (Int) → (Int) → (List Int) → (Int × List (List Int) × List (List Int) × PUnit) → (List Int) → Option Sp.E_18_1
  | 0, _, _, _, _, _, _ => none
  | m + 1, p0, p1, p2, p3, p4, p5 => bif decide (p2 < p1) then gd (inB p2 (List.length p0)) (gd (decide ((0 : Int) ≤ p2)) (bif Sp.andI IntKind.i64 (Int.fdiv (Prod.fst p4) ((2 : Int) ^ Nat.min (Int.toNat p2) (64 : Nat))) (1 : Int) == (1 : Int) then gd (Sp.p_40 (List.getD p0 (Int.toNat p2) (Ty.dflt (Ty.arr (32 : Nat) (Ty.int IntKind.u8)))) p5) (Sp.L_18_1 m p0 p1 (IntKind.wrap IntKind.i64 (p2 + (1 : Int))) p3 p4 (Prod.fst (Sp.v_40 (List.getD p0 (Int.toNat p2) (Ty.dflt (Ty.arr (32 : Nat) (Ty.int IntKind.u8)))) p5))) else gd (Sp.p_40 p5 (List.getD p0 (Int.toNat p2) (Ty.dflt (Ty.arr (32 : Nat) (Ty.int IntKind.u8))))) (Sp.L_18_1 m p0 p1 (IntKind.wrap IntKind.i64 (p2 + (1 : Int))) p3 p4 (Prod.fst (Sp.v_40 p5 (List.getD p0 (Int.toNat p2) (Ty.dflt (Ty.arr (32 : Nat) (Ty.int IntKind.u8))))))))) else some (Sp.E_18_1.e0 p3 p5)
def G_18_1 {R : Type} (p0 : List (List Int)) (p1 : Int) (p2 : Int) (p3 : List Int) (p4 : Int × List (List Int) × List (List Int) × PUnit) (p5 : List Int) (k : Ex → St → Option R) : Option R := Sp.B_18_1 (Sp.L_18_1 FU p0 p1 p2 p3 p4 p5) (fun p3 p5 => k (Ex.exit (2 : Nat)) (X_18_1_0 p3 p5))
def o_18_1 {R : Type} (G : (List (List Int)) → (Int) → (Int) → (List Int) → (Int × List (List Int) × List (List Int) × PUnit) → (List Int) → (Ex → St → Option R) → Option R) : St → (Ex → St → Option R) → Option R := fun T k => match T.sl.getD 3 .junk, T.sl.getD 5 .junk, T.sl.getD 10 .junk, T.sl.getD 38 .junk, T.sl.getD 39 .junk, T.sl.getD 40 .junk, T.hp with
  | CV.ptr (0 : Nat) [], CV.ptr (1 : Nat) [], CV.ptr (2 : Nat) [], CV.pure (Ty.slice (Ty.arr (32 : Nat) (Ty.int IntKind.u8))) p0, CV.int IntKind.i64 p1, CV.int IntKind.i64 p2, ((Blk.mem (CV.pure (Ty.arr (32 : Nat) (Ty.int IntKind.u8)) p3)) :: (Blk.mem (CV.pure (Ty.pair (Ty.int IntKind.i64) (Ty.pair (Ty.slice (Ty.arr (32 : Nat) (Ty.int IntKind.u8))) (Ty.pair (Ty.slice (Ty.arr (32 : Nat) (Ty.int IntKind.u8))) Ty.unit))) p4)) :: (Blk.mem (CV.pure (Ty.arr (32 : Nat) (Ty.int IntKind.u8)) p5)) :: []) => gd (shapeOK T 61 [3, 5, 10, 38, 39, 40] (0 : Nat)) (G p0 p1 p2 p3 p4 p5 k)
  | _, _, _, _, _, _, _ => none
theorem o_18_1_inv {R : Type} {G : (List (List Int)) → (Int) → (Int) → (List Int) → (Int × List (List Int) × List (List Int) × PUnit) → (List Int) → (Ex → St → Option R) → Option R} {T : St} {k : Ex → St → Option R} {r : R} (h : o_18_1 G T k = some r) : ∃ p0 p1 p2 p3 p4 p5, T = T_18_1 p0 p1 p2 p3 p4 p5 ∧ G p0 p1 p2 p3 p4 p5 k = some r := by
  unfold o_18_1 at h
  split at h
  · obtain ⟨hs, h'⟩ := gd_some h
    refine ⟨_, _, _, _, _, _, (st_of (asg := [(3, _), (5, _), (10, _), (38, _), (39, _), (40, _)]) hs ⟨by assumption, by assumption, by assumption, by assumption, by assumption, by assumption, trivial⟩ (by assumption)).trans ?_, h'⟩
    kernel_rfl
  · cases h
def O_18_18_0 {R : Type} : St → (Ex → St → Option R) → Option R := fun T k => o_18_0 G_18_0 T k
def O_18_18_1 {R : Type} : St → (Ex → St → Option R) → Option R := fun T k => o_18_1 G_18_1 T k
theorem body_18_0 {R : Type} (K0 : St → Option R) (K1 : Ex → St → Option R) (p0 : List Int) (p1 : Int) (p2 : Int) (p3 : List Int) (p4 : Int × List (List Int) × List (List Int) × PUnit) (p5 : List (List Int)) : evLB (evCodeL sm_18 FU (ovr noO (evFn sm_18 fns FU 0)) .nil ir18_b0) (St.norm ir18_v0) (T_18_0 p0 p1 p2 p3 p4 p5) K0 K1 =
  bif decide (p2 < p1) then gd (inB p2 (List.length p0)) (gd (inB p2 (List.length (Prod.fst (Prod.snd p4)))) (gd (Sp.p_37 (List.getD (Prod.fst (Prod.snd p4)) (Int.toNat p2) (Ty.dflt (Ty.arr (32 : Nat) (Ty.int IntKind.u8)))) (List.getD p0 (Int.toNat p2) (0 : Int)) (15 : Int)) (gd (room (List.length p5 + (1 : Nat)) (32 : Nat)) (K0 (T_18_0 p0 p1 (IntKind.wrap IntKind.i64 (p2 + (1 : Int))) p3 p4 (p5 ++ [Prod.fst (Sp.v_37 (List.getD (Prod.fst (Prod.snd p4)) (Int.toNat p2) (Ty.dflt (Ty.arr (32 : Nat) (Ty.int IntKind.u8)))) (List.getD p0 (Int.toNat p2) (0 : Int)) (15 : Int))])))))) else K1 (Ex.exit (0 : Nat)) (X_18_0_0 p3 p4 p5) := by kernel_rfl
theorem Bgd_18_0 {R : Type} {c : Bool} {x : Option R} {y : Option Sp.E_18_0} {k0 : (List Int) → (Int × List (List Int) × List (List Int) × PUnit) → (List (List Int)) → Option R} (h : x = Sp.B_18_0 y k0) : gd c x = Sp.B_18_0 (gd c y) k0 := by cases c; rfl; exact h
theorem Bcond_18_0 {R : Type} {c : Bool} {x x' : Option R} {y y' : Option Sp.E_18_0} {k0 : (List Int) → (Int × List (List Int) × List (List Int) × PUnit) → (List (List Int)) → Option R} (h : x = Sp.B_18_0 y k0) (h' : x' = Sp.B_18_0 y' k0) : (bif c then x else x') = Sp.B_18_0 (bif c then y else y') k0 := by cases c; exact h'; exact h
theorem loop_18_0 {R : Type} (k : Ex → St → Option R) : ∀ (m : Nat) (p0 : List Int) (p1 : Int) (p2 : Int) (p3 : List Int) (p4 : Int × List (List Int) × List (List Int) × PUnit) (p5 : List (List Int)), evLoopN (evCodeL sm_18 FU (ovr noO (evFn sm_18 fns FU 0)) .nil ir18_b0) (St.norm ir18_v0) m (T_18_0 p0 p1 p2 p3 p4 p5) k = Sp.B_18_0 (Sp.L_18_0 m p0 p1 p2 p3 p4 p5) (fun p3 p4 p5 => k (Ex.exit (0 : Nat)) (X_18_0_0 p3 p4 p5))
  | 0, _, _, _, _, _, _ => rfl
  | m + 1, p0, p1, p2, p3, p4, p5 => by
    rw [evLoopN_succ, body_18_0, Sp.L_18_0]
    repeat' first | apply Bgd_18_0 | apply Bcond_18_0 | exact loop_18_0 k m _ _ _ _ _ _ | rfl
theorem ok_18_0 {R : Type} (T : St) (k : Ex → St → Option R) (r : R) (h0 : o_18_0 G_18_0 T k = some r) : evLoopN (evCode sm_18 FU (evFn sm_18 fns FU 0) ir18_b0) (St.norm ir18_v0) FU T k = some r := by
  obtain ⟨p0, p1, p2, p3, p4, p5, rfl, h⟩ := o_18_0_inv h0
  refine evLoopN_L (t := .nil) noO_ok trivial _ _ _ _ ?_
  rw [loop_18_0]
  exact h
theorem OK_18_18_0 {R : Type} (T : St) (k : Ex → St → Option R) (r : R) (h : O_18_18_0 T k = some r) : evLoopN (evCode sm_18 FU (evFn sm_18 fns FU 0) ir18_b0) (St.norm ir18_v0) FU T k = some r := ok_18_0 T k r h
theorem body_18_1 {R : Type} (K0 : St → Option R) (K1 : Ex → St → Option R) (p0 : List (List Int)) (p1 : Int) (p2 : Int) (p3 : List Int) (p4 : Int × List (List Int) × List (List Int) × PUnit) (p5 : List Int) : evLB (evCodeL sm_18 FU (ovr noO (evFn sm_18 fns FU 0)) .nil ir18_b1) (St.norm ir18_v1) (T_18_1 p0 p1 p2 p3 p4 p5) K0 K1 =
  bif decide (p2 < p1) then gd (inB p2 (List.length p0)) (gd (decide ((0 : Int) ≤ p2)) (bif Sp.andI IntKind.i64 (Int.fdiv (Prod.fst p4) ((2 : Int) ^ Nat.min (Int.toNat p2) (64 : Nat))) (1 : Int) == (1 : Int) then gd (Sp.p_40 (List.getD p0 (Int.toNat p2) (Ty.dflt (Ty.arr (32 : Nat) (Ty.int IntKind.u8)))) p5) (K0 (T_18_1 p0 p1 (IntKind.wrap IntKind.i64 (p2 + (1 : Int))) p3 p4 (Prod.fst (Sp.v_40 (List.getD p0 (Int.toNat p2) (Ty.dflt (Ty.arr (32 : Nat) (Ty.int IntKind.u8)))) p5)))) else gd (Sp.p_40 p5 (List.getD p0 (Int.toNat p2) (Ty.dflt (Ty.arr (32 : Nat) (Ty.int IntKind.u8))))) (K0 (T_18_1 p0 p1 (IntKind.wrap IntKind.i64 (p2 + (1 : Int))) p3 p4 (Prod.fst (Sp.v_40 p5 (List.getD p0 (Int.toNat p2) (Ty.dflt (Ty.arr (32 : Nat) (Ty.int IntKind.u8)))))))))) else K1 (Ex.exit (2 : Nat)) (X_18_1_0 p3 p5) := by kernel_rfl
theorem Bgd_18_1 {R : Type} {c : Bool} {x : Option R} {y : Option Sp.E_18_1} {k0 : (List Int) → (List Int) → Option R} (h : x = Sp.B_18_1 y k0) : gd c x = Sp.B_18_1 (gd c y) k0 := by cases c; rfl; exact h
theorem Bcond_18_1 {R : Type} {c : Bool} {x x' : Option R} {y y' : Option Sp.E_18_1} {k0 : (List Int) → (List Int) → Option R} (h : x = Sp.B_18_1 y k0) (h' : x' = Sp.B_18_1 y' k0) : (bif c then x else x') = Sp.B_18_1 (bif c then y else y') k0 := by cases c; exact h'; exact h
theorem loop_18_1 {R : Type} (k : Ex → St → Option R) : ∀ (m : Nat) (p0 : List (List Int)) (p1 : Int) (p2 : Int) (p3 : List Int) (p4 : Int × List (List Int) × List (List Int) × PUnit) (p5 : List Int), evLoopN (evCodeL sm_18 FU (ovr noO (evFn sm_18 fns FU 0)) .nil ir18_b1) (St.norm ir18_v1) m (T_18_1 p0 p1 p2 p3 p4 p5) k = Sp.B_18_1 (Sp.L_18_1 m p0 p1 p2 p3 p4 p5) (fun p3 p5 => k (Ex.exit (2 : Nat)) (X_18_1_0 p3 p5))
  | 0, _, _, _, _, _, _ => rfl
  | m + 1, p0, p1, p2, p3, p4, p5 => by
    rw [evLoopN_succ, body_18_1, Sp.L_18_1]
    repeat' first | apply Bgd_18_1 | apply Bcond_18_1 | exact loop_18_1 k m _ _ _ _ _ _ | rfl
theorem ok_18_1 {R : Type} (T : St) (k : Ex → St → Option R) (r : R) (h0 : o_18_1 G_18_1 T k = some r) : evLoopN (evCode sm_18 FU (evFn sm_18 fns FU 0) ir18_b1) (St.norm ir18_v1) FU T k = some r := by
  obtain ⟨p0, p1, p2, p3, p4, p5, rfl, h⟩ := o_18_1_inv h0
  refine evLoopN_L (t := .nil) noO_ok trivial _ _ _ _ ?_
  rw [loop_18_1]
  exact h
theorem OK_18_18_1 {R : Type} (T : St) (k : Ex → St → Option R) (r : R) (h : O_18_18_1 T k = some r) : evLoopN (evCode sm_18 FU (evFn sm_18 fns FU 0) ir18_b1) (St.norm ir18_v1) FU T k = some r := ok_18_1 T k r h
def F_18 (a0 : (List Int)) (a1 : (List Int)) (a2 : (Int × ((List (List Int)) × ((List (List Int)) × Unit)))) : Option (Bool × Unit) :=
  gd (Sp.p_38 a2) (bif !Prod.fst (Sp.v_38 a2) then some (false, PUnit.unit) else gd (Sp.p_13 a1) (Sp.B_18_0 (Sp.L_18_0 (4611686018427387904 : Nat) (Prod.fst (Sp.v_13 a1)) (↑(List.length (Prod.fst (Sp.v_13 a1))) : Int) (0 : Int) a0 a2 []) fun (y5 : List Int) (y6 : Int × List (List Int) × List (List Int) × PUnit) (y7 : List (List Int)) => gd (Sp.p_39 y7) (Sp.B_18_1 (Sp.L_18_1 (4611686018427387904 : Nat) (Prod.fst (Prod.snd (Prod.snd y6))) (↑(List.length (Prod.fst (Prod.snd (Prod.snd y6)))) : Int) (0 : Int) y5 y6 (Prod.fst (Sp.v_39 y7))) fun (y8 y9 : List Int) => some (Ty.beq (Ty.arr (32 : Nat) (Ty.int IntKind.u8)) y9 y8, PUnit.unit))))
theorem fn_18 (a0 : (List Int)) (a1 : (List Int)) (a2 : (Int × ((List (List Int)) × ((List (List Int)) × Unit)))) : evFnL sm_18 FU (ovr noO (evFn sm_18 fns FU 0)) (ir18_t O_18_18_0 O_18_18_1) ir18 (ofH [(.arr 32 (.int .u8)), (.arr 32 (.int .u8)), (.pair (.int .i64) (.pair (.slice (.arr 32 (.int .u8))) (.pair (.slice (.arr 32 (.int .u8))) .unit)))] (a0, a1, a2, ())) [] (pureK [.bool]) = F_18 a0 a1 a2 := by kernel_rfl
def Sp.p_18 (a0 : (List Int)) (a1 : (List Int)) (a2 : (Int × ((List (List Int)) × ((List (List Int)) × Unit)))) : Bool := (F_18 a0 a1 a2).isSome
def Sp.v_18 (a0 : (List Int)) (a1 : (List Int)) (a2 : (Int × ((List (List Int)) × ((List (List Int)) × Unit)))) : Bool × Unit := (F_18 a0 a1 a2).getD (dfH [.bool])
def s_18 : Summ := shN [(.arr 32 (.int .u8)), (.arr 32 (.int .u8)), (.pair (.int .i64) (.pair (.slice (.arr 32 (.int .u8))) (.pair (.slice (.arr 32 (.int .u8))) .unit)))] [.bool] (fun x => Sp.p_18 x.1 x.2.1 x.2.2.1) (fun x => Sp.v_18 x.1 x.2.1 x.2.2.1)
theorem pv_18 (a0 : (List Int)) (a1 : (List Int)) (a2 : (Int × ((List (List Int)) × ((List (List Int)) × Unit)))) {y : Bool × Unit} (h : F_18 a0 a1 a2 = some y) : Sp.p_18 a0 a1 a2 = true ∧ Sp.v_18 a0 a1 a2 = y := ⟨by rw [Sp.p_18, h]; rfl, by rw [Sp.v_18, h]; rfl⟩
theorem run_18 (x : HDen [(.arr 32 (.int .u8)), (.arr 32 (.int .u8)), (.pair (.int .i64) (.pair (.slice (.arr 32 (.int .u8))) (.pair (.slice (.arr 32 (.int .u8))) .unit)))]) (y : HDen [.bool]) (h : F_18 x.1 x.2.1 x.2.2.1 = some y) : evFn sm_18 fns FU 1 18 (ofH [(.arr 32 (.int .u8)), (.arr 32 (.int .u8)), (.pair (.int .i64) (.pair (.slice (.arr 32 (.int .u8))) (.pair (.slice (.arr 32 (.int .u8))) .unit)))] x) [] (pureK [.bool]) = some y :=
  evFnL_sound (fn := ir18) (t := (ir18_t O_18_18_0 O_18_18_1)) (o := noO) rfl noO_ok (ir18_tok (fun T k r => OK_18_18_0 T k r) (fun T k r => OK_18_18_1 T k r)) ((fn_18 _ _ _).trans h)
end
end Go.Ev
namespace Go.Ev
open Go
set_option maxRecDepth 100000
set_option maxHeartbeats 4000000
set_option linter.unusedVariables false
noncomputable section

def sm_19 : Nat → Option Summ := fun f => bif Nat.beq f 15 then some s_15 else bif Nat.beq f 17 then some s_17 else bif Nat.beq f 26 then some s_26 else bif Nat.beq f 41 then some s_41 else bif Nat.beq f 42 then some s_42 else none
def T_19_0 (p0 : List Int) (p1 : Int) (p2 : List Int) (p3 : Int × List (List Int) × List (List Int) × PUnit) (p4 : List (List Int)) : St := St.mk [jk, jk, jk, CV.ptr (0 : Nat) [], jk, CV.ptr (1 : Nat) [], jk, CV.pure (Ty.slice (Ty.int IntKind.i64)) p0, CV.whole (2 : Nat), CV.int IntKind.i64 p1, jk, jk, jk, jk, jk, jk, jk, jk, jk, jk, jk, jk, jk, jk, jk, jk, jk, jk, jk, jk, jk, jk, jk, jk, jk, jk, jk, jk, jk, jk, jk, jk, jk, jk, jk, jk, jk, jk, jk, jk, jk, jk, jk, jk, jk, jk, jk, jk, jk, jk, jk, jk, jk, jk, jk, jk, jk, jk, jk, jk] [Blk.mem (CV.pure (Ty.arr (32 : Nat) (Ty.int IntKind.u8)) p2), Blk.mem (CV.pure (Ty.pair (Ty.int IntKind.i64) (Ty.pair (Ty.slice (Ty.arr (32 : Nat) (Ty.int IntKind.u8))) (Ty.pair (Ty.slice (Ty.arr (32 : Nat) (Ty.int IntKind.u8))) Ty.unit))) p3), Blk.vec (25 : Nat) (Ty.arr (32 : Nat) (Ty.int IntKind.u8)) p4] (0 : Nat)
def X_19_0_0 (p2 : List Int) (p3 : Int × List (List Int) × List (List Int) × PUnit) (p4 : List (List Int)) : St := St.mk [jk, jk, jk, CV.ptr (0 : Nat) [], jk, CV.ptr (1 : Nat) [], jk, jk, CV.whole (2 : Nat), jk, jk, jk, jk, jk, jk, jk, jk, jk, jk, jk, jk, jk, jk, jk, jk, jk, jk, jk, jk, jk, jk, jk, jk, jk, jk, jk, jk, jk, jk, jk, jk, jk, jk, jk, jk, jk, jk, jk, jk, jk, jk, jk, jk, jk, jk, jk, jk, jk, jk, jk, jk, jk, jk, jk, jk, jk, jk, jk, jk, jk] [Blk.mem (CV.pure (Ty.arr (32 : Nat) (Ty.int IntKind.u8)) p2), Blk.mem (CV.pure (Ty.pair (Ty.int IntKind.i64) (Ty.pair (Ty.slice (Ty.arr (32 : Nat) (Ty.int IntKind.u8))) (Ty.pair (Ty.slice (Ty.arr (32 : Nat) (Ty.int IntKind.u8))) Ty.unit))) p3), Blk.vec (25 : Nat) (Ty.arr (32 : Nat) (Ty.int IntKind.u8)) p4] (0 : Nat)
inductive Sp.E_19_0 where
  | e0 (p2 : List Int) (p3 : Int × List (List Int) × List (List Int) × PUnit) (p4 : List (List Int))
def Sp.B_19_0 {R : Type} (r : Option Sp.E_19_0) (k0 : (List Int) → (Int × List (List Int) × List (List Int) × PUnit) → (List (List Int)) → Option R) : Option R := match r with
  | none => none
  | some (.e0 p2 p3 p4) => k0 p2 p3 p4
def Sp.L_19_0 : Nat → (List Int) → (Int) → (List Int) → (Int × List (List Int) × List (List Int) × PUnit) → (List (List Int)) → Option Sp.E_19_0
  | 0, _, _, _, _, _ => none
  | m + 1, p0, p1, p2, p3, p4 => bif decide (p1 < (67 : Int)) then gd (inB p1 (List.length (Prod.fst (Prod.snd p3)))) (gd (inB p1 (List.length p0)) (gd (Sp.p_17 (List.getD (Prod.fst (Prod.snd p3)) (Int.toNat p1) (Ty.dflt (Ty.arr (32 : Nat) (Ty.int IntKind.u8)))) (List.getD p0 (Int.toNat p1) (0 : Int)) (15 : Int)) (gd (room (List.length p4 + (1 : Nat)) (32 : Nat)) (Sp.L_19_0 m p0 (IntKind.wrap IntKind.i64 (p1 + (1 : Int))) p2 p3 (p4 ++ [Prod.fst (Sp.v_17 (List.getD (Prod.fst (Prod.snd p3)) (Int.toNat p1) (Ty.dflt (Ty.arr (32 : Nat) (Ty.int IntKind.u8)))) (List.getD p0 (Int.toNat p1) (0 : Int)) (15 : Int))]))))) else some (Sp.E_19_0.e0 p2 p3 p4)
def G_19_0 {R : Type} (p0 : List Int) (p1 : Int) (p2 : List Int) (p3 : Int × List (List Int) × List (List Int) × PUnit) (p4 : List (List Int)) (k : Ex → St → Option R) : Option R := Sp.B_19_0 (Sp.L_19_0 FU p0 p1 p2 p3 p4) (fun p2 p3 p4 => k (Ex.exit (0 : Nat)) (X_19_0_0 p2 p3 p4))
def o_19_0 {R : Type} (G : (List Int) → (Int) → (List Int) → (Int × List (List Int) × List (List Int) × PUnit) → (List (List Int)) → (Ex → St → Option R) → Option R) : St → (Ex → St → Option R) → Option R := fun T k => match T.sl.getD 3 .junk, T.sl.getD 5 .junk, T.sl.getD 7 .junk, T.sl.getD 8 .junk, T.sl.getD 9 .junk, T.hp with
  | CV.ptr (0 : Nat) [], CV.ptr (1 : Nat) [], CV.pure (Ty.slice (Ty.int IntKind.i64)) p0, CV.whole (2 : Nat), CV.int IntKind.i64 p1, ((Blk.mem (CV.pure (Ty.arr (32 : Nat) (Ty.int IntKind.u8)) p2)) :: (Blk.mem (CV.pure (Ty.pair (Ty.int IntKind.i64) (Ty.pair (Ty.slice (Ty.arr (32 : Nat) (Ty.int IntKind.u8))) (Ty.pair (Ty.slice (Ty.arr (32 : Nat) (Ty.int IntKind.u8))) Ty.unit))) p3)) :: (Blk.vec (25 : Nat) (Ty.arr (32 : Nat) (Ty.int IntKind.u8)) p4) :: []) => gd (shapeOK T 70 [3, 5, 7, 8, 9] (0 : Nat)) (G p0 p1 p2 p3 p4 k)
  | _, _, _, _, _, _ => none
theorem o_19_0_inv {R : Type} {G : (List Int) → (Int) → (List Int) → (Int × List (List Int) × List (List Int) × PUnit) → (List (List Int)) → (Ex → St → Option R) → Option R} {T : St} {k : Ex → St → Option R} {r : R} (h : o_19_0 G T k = some r) : ∃ p0 p1 p2 p3 p4, T = T_19_0 p0 p1 p2 p3 p4 ∧ G p0 p1 p2 p3 p4 k = some r := by
  unfold o_19_0 at h
  split at h
  · obtain ⟨hs, h'⟩ := gd_some h
    refine ⟨_, _, _, _, _, (st_of (asg := [(3, _), (5, _), (7, _), (8, _), (9, _)]) hs ⟨by assumption, by assumption, by assumption, by assumption, by assumption, trivial⟩ (by assumption)).trans ?_, h'⟩
    kernel_rfl
  · cases h
def T_19_1 (p0 : List Int) (p1 : Int × List (List Int) × List (List Int) × PUnit) (p2 : List Int) : St := St.mk [jk, jk, jk, CV.ptr (0 : Nat) [], jk, CV.ptr (1 : Nat) [], jk, jk, jk, jk, CV.ptr (2 : Nat) [], jk, jk, jk, jk, jk, jk, jk, jk, jk, jk, jk, jk, jk, jk, jk, jk, jk, jk, jk, jk, jk, jk, jk, jk, jk, jk, jk, jk, jk, jk, jk, jk, jk, jk, jk, jk, jk, jk, jk, jk, jk, jk, jk, jk, jk, jk, jk, jk, jk, jk, jk, jk, jk, jk, jk, jk, jk, jk, jk] [Blk.mem (CV.pure (Ty.arr (32 : Nat) (Ty.int IntKind.u8)) p0), Blk.mem (CV.pure (Ty.pair (Ty.int IntKind.i64) (Ty.pair (Ty.slice (Ty.arr (32 : Nat) (Ty.int IntKind.u8))) (Ty.pair (Ty.slice (Ty.arr (32 : Nat) (Ty.int IntKind.u8))) Ty.unit))) p1), Blk.mem (CV.pure (Ty.arr (32 : Nat) (Ty.int IntKind.u8)) p2)] (0 : Nat)
def X_19_1_0 (p0 : List Int) (p1 : Int × List (List Int) × List (List Int) × PUnit) (p2 : List Int) : St := St.mk [jk, jk, jk, jk, jk, jk, CV.bool (Ty.beq (Ty.arr (32 : Nat) (Ty.int IntKind.u8)) (Prod.fst (Sp.v_42 (List.getD (Prod.fst (Prod.snd (Prod.snd p1))) (1 : Nat) (Ty.dflt (Ty.arr (32 : Nat) (Ty.int IntKind.u8)))) p2)) p0), jk, jk, jk, jk, jk, jk, jk, jk, jk, jk, jk, jk, jk, jk, jk, jk, jk, jk, jk, jk, jk, jk, jk, jk, jk, jk, jk, jk, jk, jk, jk, jk, jk, jk, jk, jk, jk, jk, jk, jk, jk, jk, jk, jk, jk, jk, jk, jk, jk, jk, jk, jk, jk, jk, jk, jk, jk, jk, jk, jk, jk, jk, jk] [] (0 : Nat)
def X_19_1_1 (p0 : List Int) (p1 : Int × List (List Int) × List (List Int) × PUnit) (p2 : List Int) : St := St.mk [jk, jk, jk, jk, jk, jk, CV.bool (Ty.beq (Ty.arr (32 : Nat) (Ty.int IntKind.u8)) (Prod.fst (Sp.v_42 p2 (List.getD (Prod.fst (Prod.snd (Prod.snd p1))) (1 : Nat) (Ty.dflt (Ty.arr (32 : Nat) (Ty.int IntKind.u8)))))) p0), jk, jk, jk, jk, jk, jk, jk, jk, jk, jk, jk, jk, jk, jk, jk, jk, jk, jk, jk, jk, jk, jk, jk, jk, jk, jk, jk, jk, jk, jk, jk, jk, jk, jk, jk, jk, jk, jk, jk, jk, jk, jk, jk, jk, jk, jk, jk, jk, jk, jk, jk, jk, jk, jk, jk, jk, jk, jk, jk, jk, jk, jk, jk] [] (0 : Nat)
inductive Sp.E_19_1 where
  | e0 (p0 : List Int) (p1 : Int × List (List Int) × List (List Int) × PUnit) (p2 : List Int)
  | e1 (p0 : List Int) (p1 : Int × List (List Int) × List (List Int) × PUnit) (p2 : List Int)
def Sp.B_19_1 {R : Type} (r : Option Sp.E_19_1) (k0 : (List Int) → (Int × List (List Int) × List (List Int) × PUnit) → (List Int) → Option R) (k1 : (List Int) → (Int × List (List Int) × List (List Int) × PUnit) → (List Int) → Option R) : Option R := match r with
  | none => none
  | some (.e0 p0 p1 p2) => k0 p0 p1 p2
  | some (.e1 p0 p1 p2) => k1 p0 p1 p2
def Sp.J_19_1 (p0 : List Int) (p1 : Int × List (List Int) × List (List Int) × PUnit) (p2 : List Int) : Option Sp.E_19_1 :=
  bif IntKind.wrap IntKind.i64 (Int.tdiv (Prod.fst p1) (2 : Int)) == (1 : Int) then gd (inB (1 : Int) (List.length (Prod.fst (Prod.snd (Prod.snd p1))))) (gd (Sp.p_42 (List.getD (Prod.fst (Prod.snd (Prod.snd p1))) (1 : Nat) (Ty.dflt (Ty.arr (32 : Nat) (Ty.int IntKind.u8)))) p2) (some (Sp.E_19_1.e0 p0 p1 p2))) else gd (inB (1 : Int) (List.length (Prod.fst (Prod.snd (Prod.snd p1))))) (gd (Sp.p_42 p2 (List.getD (Prod.fst (Prod.snd (Prod.snd p1))) (1 : Nat) (Ty.dflt (Ty.arr (32 : Nat) (Ty.int IntKind.u8))))) (some (Sp.E_19_1.e1 p0 p1 p2)))
def G_19_1 {R : Type} (p0 : List Int) (p1 : Int × List (List Int) × List (List Int) × PUnit) (p2 : List Int) (k : Ex → St → Option R) : Option R := Sp.B_19_1 (Sp.J_19_1 p0 p1 p2) (fun p0 p1 p2 => k Ex.ret (X_19_1_0 p0 p1 p2)) (fun p0 p1 p2 => k Ex.ret (X_19_1_1 p0 p1 p2))
def o_19_1 {R : Type} (G : (List Int) → (Int × List (List Int) × List (List Int) × PUnit) → (List Int) → (Ex → St → Option R) → Option R) : St → (Ex → St → Option R) → Option R := fun T k => match T.sl.getD 3 .junk, T.sl.getD 5 .junk, T.sl.getD 10 .junk, T.hp with
  | CV.ptr (0 : Nat) [], CV.ptr (1 : Nat) [], CV.ptr (2 : Nat) [], ((Blk.mem (CV.pure (Ty.arr (32 : Nat) (Ty.int IntKind.u8)) p0)) :: (Blk.mem (CV.pure (Ty.pair (Ty.int IntKind.i64) (Ty.pair (Ty.slice (Ty.arr (32 : Nat) (Ty.int IntKind.u8))) (Ty.pair (Ty.slice (Ty.arr (32 : Nat) (Ty.int IntKind.u8))) Ty.unit))) p1)) :: (Blk.mem (CV.pure (Ty.arr (32 : Nat) (Ty.int IntKind.u8)) p2)) :: []) => gd (shapeOK T 70 [3, 5, 10] (0 : Nat)) (G p0 p1 p2 k)
  | _, _, _, _ => none
theorem o_19_1_inv {R : Type} {G : (List Int) → (Int × List (List Int) × List (List Int) × PUnit) → (List Int) → (Ex → St → Option R) → Option R} {T : St} {k : Ex → St → Option R} {r : R} (h : o_19_1 G T k = some r) : ∃ p0 p1 p2, T = T_19_1 p0 p1 p2 ∧ G p0 p1 p2 k = some r := by
  unfold o_19_1 at h
  split at h
  · obtain ⟨hs, h'⟩ := gd_some h
    refine ⟨_, _, _, (st_of (asg := [(3, _), (5, _), (10, _)]) hs ⟨by assumption, by assumption, by assumption, trivial⟩ (by assumption)).trans ?_, h'⟩
    kernel_rfl
  · cases h
def O_19_19_0 {R : Type} : St → (Ex → St → Option R) → Option R := fun T k => o_19_0 G_19_0 T k
def O_19_19_1 {R : Type} : St → (Ex → St → Option R) → Option R := fun T k => o_19_1 G_19_1 T k
theorem body_19_0 {R : Type} (K0 : St → Option R) (K1 : Ex → St → Option R) (p0 : List Int) (p1 : Int) (p2 : List Int) (p3 : Int × List (List Int) × List (List Int) × PUnit) (p4 : List (List Int)) : evLB (evCodeL sm_19 FU (ovr noO (evFn sm_19 fns FU 0)) .nil ir19_b0) (St.norm ir19_v0) (T_19_0 p0 p1 p2 p3 p4) K0 K1 =
  bif decide (p1 < (67 : Int)) then gd (inB p1 (List.length (Prod.fst (Prod.snd p3)))) (gd (inB p1 (List.length p0)) (gd (Sp.p_17 (List.getD (Prod.fst (Prod.snd p3)) (Int.toNat p1) (Ty.dflt (Ty.arr (32 : Nat) (Ty.int IntKind.u8)))) (List.getD p0 (Int.toNat p1) (0 : Int)) (15 : Int)) (gd (room (List.length p4 + (1 : Nat)) (32 : Nat)) (K0 (T_19_0 p0 (IntKind.wrap IntKind.i64 (p1 + (1 : Int))) p2 p3 (p4 ++ [Prod.fst (Sp.v_17 (List.getD (Prod.fst (Prod.snd p3)) (Int.toNat p1) (Ty.dflt (Ty.arr (32 : Nat) (Ty.int IntKind.u8)))) (List.getD p0 (Int.toNat p1) (0 : Int)) (15 : Int))])))))) else K1 (Ex.exit (0 : Nat)) (X_19_0_0 p2 p3 p4) := by kernel_rfl
theorem Bgd_19_0 {R : Type} {c : Bool} {x : Option R} {y : Option Sp.E_19_0} {k0 : (List Int) → (Int × List (List Int) × List (List Int) × PUnit) → (List (List Int)) → Option R} (h : x = Sp.B_19_0 y k0) : gd c x = Sp.B_19_0 (gd c y) k0 := by cases c; rfl; exact h
theorem Bcond_19_0 {R : Type} {c : Bool} {x x' : Option R} {y y' : Option Sp.E_19_0} {k0 : (List Int) → (Int × List (List Int) × List (List Int) × PUnit) → (List (List Int)) → Option R} (h : x = Sp.B_19_0 y k0) (h' : x' = Sp.B_19_0 y' k0) : (bif c then x else x') = Sp.B_19_0 (bif c then y else y') k0 := by cases c; exact h'; exact h
theorem loop_19_0 {R : Type} (k : Ex → St → Option R) : ∀ (m : Nat) (p0 : List Int) (p1 : Int) (p2 : List Int) (p3 : Int × List (List Int) × List (List Int) × PUnit) (p4 : List (List Int)), evLoopN (evCodeL sm_19 FU (ovr noO (evFn sm_19 fns FU 0)) .nil ir19_b0) (St.norm ir19_v0) m (T_19_0 p0 p1 p2 p3 p4) k = Sp.B_19_0 (Sp.L_19_0 m p0 p1 p2 p3 p4) (fun p2 p3 p4 => k (Ex.exit (0 : Nat)) (X_19_0_0 p2 p3 p4))
  | 0, _, _, _, _, _ => rfl
  | m + 1, p0, p1, p2, p3, p4 => by
    rw [evLoopN_succ, body_19_0, Sp.L_19_0]
    repeat' first | apply Bgd_19_0 | apply Bcond_19_0 | exact loop_19_0 k m _ _ _ _ _ | rfl
theorem ok_19_0 {R : Type} (T : St) (k : Ex → St → Option R) (r : R) (h0 : o_19_0 G_19_0 T k = some r) : evLoopN (evCode sm_19 FU (evFn sm_19 fns FU 0) ir19_b0) (St.norm ir19_v0) FU T k = some r := by
  obtain ⟨p0, p1, p2, p3, p4, rfl, h⟩ := o_19_0_inv h0
  refine evLoopN_L (t := .nil) noO_ok trivial _ _ _ _ ?_
  rw [loop_19_0]
  exact h
theorem OK_19_19_0 {R : Type} (T : St) (k : Ex → St → Option R) (r : R) (h : O_19_19_0 T k = some r) : evLoopN (evCode sm_19 FU (evFn sm_19 fns FU 0) ir19_b0) (St.norm ir19_v0) FU T k = some r := ok_19_0 T k r h
theorem body_19_1 {R : Type} (K1 : Ex → St → Option R) (p0 : List Int) (p1 : Int × List (List Int) × List (List Int) × PUnit) (p2 : List Int) : evJ (evCodeL sm_19 FU (ovr noO (evFn sm_19 fns FU 0)) .nil ir19_b1) (T_19_1 p0 p1 p2) K1 =
  bif IntKind.wrap IntKind.i64 (Int.tdiv (Prod.fst p1) (2 : Int)) == (1 : Int) then gd (inB (1 : Int) (List.length (Prod.fst (Prod.snd (Prod.snd p1))))) (gd (Sp.p_42 (List.getD (Prod.fst (Prod.snd (Prod.snd p1))) (1 : Nat) (Ty.dflt (Ty.arr (32 : Nat) (Ty.int IntKind.u8)))) p2) (K1 Ex.ret (X_19_1_0 p0 p1 p2))) else gd (inB (1 : Int) (List.length (Prod.fst (Prod.snd (Prod.snd p1))))) (gd (Sp.p_42 p2 (List.getD (Prod.fst (Prod.snd (Prod.snd p1))) (1 : Nat) (Ty.dflt (Ty.arr (32 : Nat) (Ty.int IntKind.u8))))) (K1 Ex.ret (X_19_1_1 p0 p1 p2))) := by kernel_rfl
theorem Bgd_19_1 {R : Type} {c : Bool} {x : Option R} {y : Option Sp.E_19_1} {k0 : (List Int) → (Int × List (List Int) × List (List Int) × PUnit) → (List Int) → Option R} {k1 : (List Int) → (Int × List (List Int) × List (List Int) × PUnit) → (List Int) → Option R} (h : x = Sp.B_19_1 y k0 k1) : gd c x = Sp.B_19_1 (gd c y) k0 k1 := by cases c; rfl; exact h
theorem Bcond_19_1 {R : Type} {c : Bool} {x x' : Option R} {y y' : Option Sp.E_19_1} {k0 : (List Int) → (Int × List (List Int) × List (List Int) × PUnit) → (List Int) → Option R} {k1 : (List Int) → (Int × List (List Int) × List (List Int) × PUnit) → (List Int) → Option R} (h : x = Sp.B_19_1 y k0 k1) (h' : x' = Sp.B_19_1 y' k0 k1) : (bif c then x else x') = Sp.B_19_1 (bif c then y else y') k0 k1 := by cases c; exact h'; exact h
theorem loop_19_1 {R : Type} (k : Ex → St → Option R) (p0 : List Int) (p1 : Int × List (List Int) × List (List Int) × PUnit) (p2 : List Int) : evJ (evCodeL sm_19 FU (ovr noO (evFn sm_19 fns FU 0)) .nil ir19_b1) (T_19_1 p0 p1 p2) k = Sp.B_19_1 (Sp.J_19_1 p0 p1 p2) (fun p0 p1 p2 => k Ex.ret (X_19_1_0 p0 p1 p2)) (fun p0 p1 p2 => k Ex.ret (X_19_1_1 p0 p1 p2)) := by
  rw [body_19_1, Sp.J_19_1]
  repeat' first | apply Bgd_19_1 | apply Bcond_19_1 | rfl
theorem ok_19_1 {R : Type} (T : St) (k : Ex → St → Option R) (r : R) (h0 : o_19_1 G_19_1 T k = some r) : evCode sm_19 FU (evFn sm_19 fns FU 0) ir19_b1 T k = some r := by
  obtain ⟨p0, p1, p2, rfl, h⟩ := o_19_1_inv h0
  refine bodyL_sound (t := .nil) noO_ok trivial ((loop_19_1 k _ _ _).trans h)
theorem OK_19_19_1 {R : Type} (T : St) (k : Ex → St → Option R) (r : R) (h : O_19_19_1 T k = some r) : evCode sm_19 FU (evFn sm_19 fns FU 0) ir19_b1 T k = some r := ok_19_1 T k r h
def F_19 (a0 : (List Int)) (a1 : (List Int)) (a2 : (Int × ((List (List Int)) × ((List (List Int)) × Unit)))) : Option (Bool × Unit) :=
  gd (Sp.p_26 a2) (bif !Prod.fst (Sp.v_26 a2) then some (false, PUnit.unit) else gd (Sp.p_15 a1) (Sp.B_19_0 (Sp.L_19_0 (4611686018427387904 : Nat) (Prod.fst (Sp.v_15 a1)) (0 : Int) a0 a2 []) fun (y15 : List Int) (y16 : Int × List (List Int) × List (List Int) × PUnit) (y17 : List (List Int)) => gd (Sp.p_41 y17) (bif Int.tmod (Prod.fst y16) (2 : Int) == (1 : Int) then gd (inB (0 : Int) (List.length (Prod.fst (Prod.snd (Prod.snd y16))))) (gd (Sp.p_42 (List.getD (Prod.fst (Prod.snd (Prod.snd y16))) (0 : Nat) (Ty.dflt (Ty.arr (32 : Nat) (Ty.int IntKind.u8)))) (Prod.fst (Sp.v_41 y17))) (Sp.B_19_1 (Sp.J_19_1 y15 y16 (Prod.fst (Sp.v_42 (List.getD (Prod.fst (Prod.snd (Prod.snd y16))) (0 : Nat) (Ty.dflt (Ty.arr (32 : Nat) (Ty.int IntKind.u8)))) (Prod.fst (Sp.v_41 y17))))) (fun (y18 : List Int) (y19 : Int × List (List Int) × List (List Int) × PUnit) (y20 : List Int) => some (Ty.beq (Ty.arr (32 : Nat) (Ty.int IntKind.u8)) (Prod.fst (Sp.v_42 (List.getD (Prod.fst (Prod.snd (Prod.snd y19))) (1 : Nat) (Ty.dflt (Ty.arr (32 : Nat) (Ty.int IntKind.u8)))) y20)) y18, PUnit.unit)) fun (y21 : List Int) (y22 : Int × List (List Int) × List (List Int) × PUnit) (y23 : List Int) => some (Ty.beq (Ty.arr (32 : Nat) (Ty.int IntKind.u8)) (Prod.fst (Sp.v_42 y23 (List.getD (Prod.fst (Prod.snd (Prod.snd y22))) (1 : Nat) (Ty.dflt (Ty.arr (32 : Nat) (Ty.int IntKind.u8)))))) y21, PUnit.unit))) else gd (inB (0 : Int) (List.length (Prod.fst (Prod.snd (Prod.snd y16))))) (gd (Sp.p_42 (Prod.fst (Sp.v_41 y17)) (List.getD (Prod.fst (Prod.snd (Prod.snd y16))) (0 : Nat) (Ty.dflt (Ty.arr (32 : Nat) (Ty.int IntKind.u8))))) (Sp.B_19_1 (Sp.J_19_1 y15 y16 (Prod.fst (Sp.v_42 (Prod.fst (Sp.v_41 y17)) (List.getD (Prod.fst (Prod.snd (Prod.snd y16))) (0 : Nat) (Ty.dflt (Ty.arr (32 : Nat) (Ty.int IntKind.u8))))))) (fun (y24 : List Int) (y25 : Int × List (List Int) × List (List Int) × PUnit) (y26 : List Int) => some (Ty.beq (Ty.arr (32 : Nat) (Ty.int IntKind.u8)) (Prod.fst (Sp.v_42 (List.getD (Prod.fst (Prod.snd (Prod.snd y25))) (1 : Nat) (Ty.dflt (Ty.arr (32 : Nat) (Ty.int IntKind.u8)))) y26)) y24, PUnit.unit)) fun (y27 : List Int) (y28 : Int × List (List Int) × List (List Int) × PUnit) (y29 : List Int) => some (Ty.beq (Ty.arr (32 : Nat) (Ty.int IntKind.u8)) (Prod.fst (Sp.v_42 y29 (List.getD (Prod.fst (Prod.snd (Prod.snd y28))) (1 : Nat) (Ty.dflt (Ty.arr (32 : Nat) (Ty.int IntKind.u8)))))) y27, PUnit.unit))))))
theorem fn_19 (a0 : (List Int)) (a1 : (List Int)) (a2 : (Int × ((List (List Int)) × ((List (List Int)) × Unit)))) : evFnL sm_19 FU (ovr noO (evFn sm_19 fns FU 0)) (ir19_t O_19_19_0 O_19_19_1) ir19 (ofH [(.arr 32 (.int .u8)), (.arr 32 (.int .u8)), (.pair (.int .i64) (.pair (.slice (.arr 32 (.int .u8))) (.pair (.slice (.arr 32 (.int .u8))) .unit)))] (a0, a1, a2, ())) [] (pureK [.bool]) = F_19 a0 a1 a2 := by kernel_rfl
def Sp.p_19 (a0 : (List Int)) (a1 : (List Int)) (a2 : (Int × ((List (List Int)) × ((List (List Int)) × Unit)))) : Bool := (F_19 a0 a1 a2).isSome
def Sp.v_19 (a0 : (List Int)) (a1 : (List Int)) (a2 : (Int × ((List (List Int)) × ((List (List Int)) × Unit)))) : Bool × Unit := (F_19 a0 a1 a2).getD (dfH [.bool])
def s_19 : Summ := shN [(.arr 32 (.int .u8)), (.arr 32 (.int .u8)), (.pair (.int .i64) (.pair (.slice (.arr 32 (.int .u8))) (.pair (.slice (.arr 32 (.int .u8))) .unit)))] [.bool] (fun x => Sp.p_19 x.1 x.2.1 x.2.2.1) (fun x => Sp.v_19 x.1 x.2.1 x.2.2.1)
theorem pv_19 (a0 : (List Int)) (a1 : (List Int)) (a2 : (Int × ((List (List Int)) × ((List (List Int)) × Unit)))) {y : Bool × Unit} (h : F_19 a0 a1 a2 = some y) : Sp.p_19 a0 a1 a2 = true ∧ Sp.v_19 a0 a1 a2 = y := ⟨by rw [Sp.p_19, h]; rfl, by rw [Sp.v_19, h]; rfl⟩
theorem run_19 (x : HDen [(.arr 32 (.int .u8)), (.arr 32 (.int .u8)), (.pair (.int .i64) (.pair (.slice (.arr 32 (.int .u8))) (.pair (.slice (.arr 32 (.int .u8))) .unit)))]) (y : HDen [.bool]) (h : F_19 x.1 x.2.1 x.2.2.1 = some y) : evFn sm_19 fns FU 1 19 (ofH [(.arr 32 (.int .u8)), (.arr 32 (.int .u8)), (.pair (.int .i64) (.pair (.slice (.arr 32 (.int .u8))) (.pair (.slice (.arr 32 (.int .u8))) .unit)))] x) [] (pureK [.bool]) = some y :=
  evFnL_sound (fn := ir19) (t := (ir19_t O_19_19_0 O_19_19_1)) (o := noO) rfl noO_ok (ir19_tok (fun T k r => OK_19_19_0 T k r) (fun T k r => OK_19_19_1 T k r)) ((fn_19 _ _ _).trans h)
end
end Go.Ev
set_option linter.unusedSimpArgs false
set_option linter.unusedVariables false
namespace Go.Ev
open Go
set_option maxRecDepth 100000
set_option maxHeartbeats 4000000
abbrev SigT := Int × List (List Int) × List (List Int) × PUnit
abbrev h0 : List Int := Ty.dflt (.arr 32 (.int .u8))
namespace Sp
def shp (s : SigT) : Bool := decide (0 ≤ s.1) && (decide (s.1 < 4) && ((s.2.1.length : Int) == 67 && (s.2.2.1.length : Int) == 2))
def vend (d : List Int) (c : List (List Int)) (n : Nat) : List (List Int) := (List.range n).map fun j : Nat => chn (15 - d.getD j 0).toNat (d.getD j 0) (c.getD j h0)
def up (i : Int) (p e : List Int) : List Int := if i = 1 then node p e else node e p
def verF (key dg : List Int) (s : SigT) : Bool := shp s && (up (s.1 / 2) (s.2.2.1.getD 1 h0) (up (s.1 % 2) (s.2.2.1.getD 0 h0) (leafE (vend (digL dg) s.2.1 67))) == key)
end Sp
theorem shp_ok (s : SigT) : F_38 s = some (Sp.shp s, ()) := by
  unfold F_38 Sp.shp
  by_cases h1 : s.1 ≥ 0
  · by_cases h2 : s.1 < 4
    · rw [cond_dtt h1, cond_dtt h2, decide_eq_true (show 0 ≤ s.1 from h1), decide_eq_true h2]
      cases ((s.2.1.length : Int) == 67) <;> rfl
    · rw [cond_dtt h1, cond_dff h2, decide_eq_false h2]; simp
  · rw [cond_dff h1, decide_eq_false (show ¬ 0 ≤ s.1 from h1)]; rfl
theorem rshp_ok (s : SigT) : F_26 s = some (Sp.shp s, ()) := by
  unfold F_26 Sp.shp
  by_cases h1 : s.1 ≥ 0
  · by_cases h2 : s.1 < 4
    · rw [cond_dtt h1, cond_dtt (show s.1 ≤ 3 by omega), decide_eq_true (show 0 ≤ s.1 from h1), decide_eq_true h2]
      cases ((s.2.1.length : Int) == 67) <;> rfl
    · rw [cond_dtt h1, cond_dff (show ¬ s.1 ≤ 3 by omega), decide_eq_false h2]; simp
  · rw [cond_dff h1, decide_eq_false (show ¬ 0 ≤ s.1 from h1)]; rfl
theorem vend_len (d : List Int) (c : List (List Int)) (n : Nat) : (Sp.vend d c n).length = n := by simp [Sp.vend]
theorem vend_succ (d : List Int) (c : List (List Int)) (n : Nat) : Sp.vend d c (n + 1) = Sp.vend d c n ++ [Sp.chn (15 - d.getD n 0).toNat (d.getD n 0) (c.getD n h0)] := by simp [Sp.vend, List.range_succ]
theorem ver_loop (key : List Int) (dg : List Int) (hb : bytes dg) (s : SigT) (hs : s.2.1.length = 67) : ∀ (d m j : Nat), j + d = 67 → d < m → Sp.L_18_0 m (Sp.digL dg) 67 (j : Nat) key s (Sp.vend (Sp.digL dg) s.2.1 j) = some (.e0 key s (Sp.vend (Sp.digL dg) s.2.1 67))
  | 0, m + 1, j, hj, _ => by
    rw [Sp.L_18_0, cond_dff (by omega), show j = 67 by omega]
  | d + 1, m + 1, j, hj, hm => by
    have hl := digL_len dg
    have hd := digL_b hb j (by omega)
    have h2 := pv_37 _ _ _ (chain_ok (s.2.1.getD j h0) ((Sp.digL dg).getD j 0) 15 hd.1 hd.2 (by decide))
    rw [Sp.L_18_0, cond_dtt (by omega), gd_inB (by omega) (by omega), gd_inB (by omega) (by omega), Int.toNat_natCast, h2.1, h2.2, gd_tt, gd_room (by rw [vend_len]; omega) (by rw [vend_len]; omega), wi64 (by omega) (by omega)]
    dsimp only
    rw [← vend_succ]
    exact ver_loop key dg hb s hs d m (j + 1) (by omega) (by omega)
theorem rver_loop (key : List Int) (dg : List Int) (hb : bytes dg) (s : SigT) (hs : s.2.1.length = 67) : ∀ (d m j : Nat), j + d = 67 → d < m → Sp.L_19_0 m (Sp.digL dg) (j : Nat) key s (Sp.vend (Sp.digL dg) s.2.1 j) = some (.e0 key s (Sp.vend (Sp.digL dg) s.2.1 67))
  | 0, m + 1, j, hj, _ => by
    rw [Sp.L_19_0, cond_dff (by omega), show j = 67 by omega]
  | d + 1, m + 1, j, hj, hm => by
    have hl := digL_len dg
    have hd := digL_b hb j (by omega)
    have h2 := pv_17 _ _ _ (rchain_ok (s.2.1.getD j h0) ((Sp.digL dg).getD j 0) 15 hd.1 hd.2 (by decide))
    rw [Sp.L_19_0, cond_dtt (by omega), gd_inB (by omega) (by omega), gd_inB (by omega) (by omega), Int.toNat_natCast, h2.1, h2.2, gd_tt, gd_room (by rw [vend_len]; omega) (by rw [vend_len]; omega), wi64 (by omega) (by omega)]
    dsimp only
    rw [← vend_succ]
    exact rver_loop key dg hb s hs d m (j + 1) (by omega) (by omega)
end Go.Ev
