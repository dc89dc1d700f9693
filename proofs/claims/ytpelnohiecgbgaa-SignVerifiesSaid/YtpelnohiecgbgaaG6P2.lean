/- Helpers: functions of the program as Lean functions, and what they compute. No condition. -/
import Derived.Test.YtpelnohiecgbgaaEvPart1
import Derived.Test.YtpelnohiecgbgaaEvPart2
import Derived.Test.YtpelnohiecgbgaaG6P0
import Derived.Test.YtpelnohiecgbgaaG6P1
import Derived.Test.YtpelnohiecgbgaaProg
set_option maxRecDepth 10000
set_option linter.unusedVariables false
set_option linter.unusedSimpArgs false
namespace Go.Ev
open Go
set_option maxRecDepth 100000
set_option maxHeartbeats 4000000
set_option linter.unusedVariables false
noncomputable section

def sm_36 : Nat → Option Summ := fun f => bif Nat.beq f 50 then some s_50 else bif Nat.beq f 51 then some s_51 else none
def T_36_0 (p0 : List Int) (p1 : Int) (p2 : List Int) (p3 : List Int) (p4 : List Int) : St := St.mk [CV.junk, CV.pure (Ty.slice (Ty.int IntKind.u8)) p0, CV.ptr (0 : Nat) [], CV.junk, CV.ptr (1 : Nat) [], CV.ptr (2 : Nat) [], CV.int IntKind.i64 p1, CV.junk, CV.junk, CV.junk, CV.junk, CV.junk, CV.junk, CV.junk, CV.junk, CV.junk, CV.junk, CV.junk, CV.junk, CV.junk, CV.junk, CV.junk, CV.junk, CV.junk, CV.junk, CV.junk, CV.junk, CV.junk, CV.junk, CV.junk, CV.junk, CV.junk, CV.junk, CV.junk, CV.junk, CV.junk, CV.junk, CV.junk, CV.junk, CV.junk, CV.junk, CV.junk, CV.junk, CV.junk, CV.junk, CV.junk, CV.junk, CV.junk, CV.junk, CV.junk, CV.junk, CV.junk, CV.junk, CV.junk, CV.junk, CV.junk, CV.junk, CV.junk, CV.junk, CV.junk, CV.junk, CV.junk, CV.junk, CV.junk, CV.junk, CV.junk, CV.junk, CV.junk, CV.junk, CV.junk, CV.junk, CV.junk, CV.junk, CV.junk, CV.junk, CV.junk, CV.junk, CV.junk, CV.junk, CV.junk, CV.junk, CV.junk, CV.junk, CV.junk, CV.junk, CV.junk, CV.junk, CV.junk, CV.junk, CV.junk, CV.junk, CV.junk, CV.junk, CV.junk, CV.junk, CV.junk, CV.junk, CV.junk, CV.junk, CV.junk, CV.junk, CV.junk, CV.junk, CV.junk, CV.junk, CV.junk, CV.junk, CV.junk, CV.junk, CV.junk, CV.junk, CV.junk, CV.junk, CV.junk, CV.junk, CV.junk, CV.junk, CV.junk, CV.junk, CV.junk, CV.junk, CV.junk, CV.junk, CV.junk, CV.junk, CV.junk, CV.junk, CV.junk, CV.junk, CV.junk, CV.junk, CV.junk, CV.junk, CV.junk, CV.junk, CV.junk, CV.junk, CV.junk, CV.junk, CV.junk, CV.junk, CV.junk, CV.junk, CV.junk, CV.junk, CV.junk, CV.junk, CV.junk, CV.junk, CV.junk, CV.junk, CV.junk, CV.junk, CV.junk, CV.junk, CV.junk, CV.junk, CV.junk, CV.junk, CV.junk, CV.junk, CV.junk, CV.junk, CV.junk, CV.junk, CV.junk, CV.junk, CV.junk, CV.junk, CV.junk, CV.junk, CV.junk, CV.junk, CV.junk, CV.junk, CV.junk, CV.junk, CV.junk, CV.junk, CV.junk, CV.junk, CV.junk, CV.junk, CV.junk, CV.junk, CV.junk, CV.junk, CV.junk, CV.junk, CV.junk, CV.junk, CV.junk, CV.junk, CV.junk, CV.junk, CV.junk] [Blk.mem (CV.pure (Ty.arr (8 : Nat) (Ty.int IntKind.u32)) p2), Blk.mem (CV.pure (Ty.arr (8 : Nat) (Ty.int IntKind.u32)) p3), Blk.mem (CV.pure (Ty.arr (64 : Nat) (Ty.int IntKind.u32)) p4)] (0 : Nat)
def X_36_0_0 (p2 : List Int) (p3 : List Int) (p4 : List Int) : St := St.mk [CV.junk, CV.junk, CV.ptr (0 : Nat) [], CV.junk, CV.ptr (1 : Nat) [], CV.ptr (2 : Nat) [], CV.junk, CV.junk, CV.junk, CV.junk, CV.junk, CV.junk, CV.junk, CV.junk, CV.junk, CV.junk, CV.junk, CV.junk, CV.junk, CV.junk, CV.junk, CV.junk, CV.junk, CV.junk, CV.junk, CV.junk, CV.junk, CV.junk, CV.junk, CV.junk, CV.junk, CV.junk, CV.junk, CV.junk, CV.junk, CV.junk, CV.junk, CV.junk, CV.junk, CV.junk, CV.junk, CV.junk, CV.junk, CV.junk, CV.junk, CV.junk, CV.junk, CV.junk, CV.junk, CV.junk, CV.junk, CV.junk, CV.junk, CV.junk, CV.junk, CV.junk, CV.junk, CV.junk, CV.junk, CV.junk, CV.junk, CV.junk, CV.junk, CV.junk, CV.junk, CV.junk, CV.junk, CV.junk, CV.junk, CV.junk, CV.junk, CV.junk, CV.junk, CV.junk, CV.junk, CV.junk, CV.junk, CV.junk, CV.junk, CV.junk, CV.junk, CV.junk, CV.junk, CV.junk, CV.junk, CV.junk, CV.junk, CV.junk, CV.junk, CV.junk, CV.junk, CV.junk, CV.junk, CV.junk, CV.junk, CV.junk, CV.junk, CV.junk, CV.junk, CV.junk, CV.junk, CV.junk, CV.junk, CV.junk, CV.junk, CV.junk, CV.junk, CV.junk, CV.junk, CV.junk, CV.junk, CV.junk, CV.junk, CV.junk, CV.junk, CV.junk, CV.junk, CV.junk, CV.junk, CV.junk, CV.junk, CV.junk, CV.junk, CV.junk, CV.junk, CV.junk, CV.junk, CV.junk, CV.junk, CV.junk, CV.junk, CV.junk, CV.junk, CV.junk, CV.junk, CV.junk, CV.junk, CV.junk, CV.junk, CV.junk, CV.junk, CV.junk, CV.junk, CV.junk, CV.junk, CV.junk, CV.junk, CV.junk, CV.junk, CV.junk, CV.junk, CV.junk, CV.junk, CV.junk, CV.junk, CV.junk, CV.junk, CV.junk, CV.junk, CV.junk, CV.junk, CV.junk, CV.junk, CV.junk, CV.junk, CV.junk, CV.junk, CV.junk, CV.junk, CV.junk, CV.junk, CV.junk, CV.junk, CV.junk, CV.junk, CV.junk, CV.junk, CV.junk, CV.junk, CV.junk, CV.junk, CV.junk, CV.junk, CV.junk, CV.junk, CV.junk, CV.junk, CV.junk, CV.junk, CV.junk, CV.junk, CV.junk, CV.junk, CV.junk, CV.junk, CV.junk] [Blk.mem (CV.pure (Ty.arr (8 : Nat) (Ty.int IntKind.u32)) p2), Blk.mem (CV.pure (Ty.arr (8 : Nat) (Ty.int IntKind.u32)) p3), Blk.mem (CV.pure (Ty.arr (64 : Nat) (Ty.int IntKind.u32)) p4)] (0 : Nat)
inductive Sp.E_36_0 where
  | e0 (p2 : List Int) (p3 : List Int) (p4 : List Int)
def Sp.B_36_0 {R : Type} (r : Option Sp.E_36_0) (k0 : (List Int) → (List Int) → (List Int) → Option R) : Option R := match r with
  | none => none
  | some (.e0 p2 p3 p4) => k0 p2 p3 p4
def Sp.L_36_0 : Nat → (List Int) → (Int) → (List Int) → (List Int) → (List Int) → Option Sp.E_36_0
  | 0, _, _, _, _, _ => none
  | m + 1, p0, p1, p2, p3, p4 => bif decide (p1 < (16 : Int)) then gd (inB (IntKind.wrap IntKind.i64 ((4 : Int) * p1)) (List.length p0)) (gd (inB (IntKind.wrap IntKind.i64 (IntKind.wrap IntKind.i64 ((4 : Int) * p1) + (1 : Int))) (List.length p0)) (gd (inB (IntKind.wrap IntKind.i64 (IntKind.wrap IntKind.i64 ((4 : Int) * p1) + (2 : Int))) (List.length p0)) (gd (inB (IntKind.wrap IntKind.i64 (IntKind.wrap IntKind.i64 ((4 : Int) * p1) + (3 : Int))) (List.length p0)) (gd (inB p1 (64 : Nat)) (gd (decide (Int.toNat p1 < (64 : Nat)) && true) (Sp.L_36_0 m p0 (IntKind.wrap IntKind.i64 (p1 + (1 : Int))) p2 p3 (List.set p4 (Int.toNat p1) (Sp.orI IntKind.u32 (Sp.orI IntKind.u32 (Sp.orI IntKind.u32 (IntKind.wrap IntKind.u32 (IntKind.wrap IntKind.u32 (List.getD p0 (Int.toNat (IntKind.wrap IntKind.i64 ((4 : Int) * p1))) (0 : Int)) * (16777216 : Int))) (IntKind.wrap IntKind.u32 (IntKind.wrap IntKind.u32 (List.getD p0 (Int.toNat (IntKind.wrap IntKind.i64 (IntKind.wrap IntKind.i64 ((4 : Int) * p1) + (1 : Int)))) (0 : Int)) * (65536 : Int)))) (IntKind.wrap IntKind.u32 (IntKind.wrap IntKind.u32 (List.getD p0 (Int.toNat (IntKind.wrap IntKind.i64 (IntKind.wrap IntKind.i64 ((4 : Int) * p1) + (2 : Int)))) (0 : Int)) * (256 : Int)))) (IntKind.wrap IntKind.u32 (List.getD p0 (Int.toNat (IntKind.wrap IntKind.i64 (IntKind.wrap IntKind.i64 ((4 : Int) * p1) + (3 : Int)))) (0 : Int))))))))))) else some (Sp.E_36_0.e0 p2 p3 p4)
def G_36_0 {R : Type} (p0 : List Int) (p1 : Int) (p2 : List Int) (p3 : List Int) (p4 : List Int) (k : Ex → St → Option R) : Option R := Sp.B_36_0 (Sp.L_36_0 FU p0 p1 p2 p3 p4) (fun p2 p3 p4 => k (Ex.exit (0 : Nat)) (X_36_0_0 p2 p3 p4))
def o_36_0 {R : Type} (G : (List Int) → (Int) → (List Int) → (List Int) → (List Int) → (Ex → St → Option R) → Option R) : St → (Ex → St → Option R) → Option R := fun T k => match T.sl.getD 1 .junk, T.sl.getD 2 .junk, T.sl.getD 4 .junk, T.sl.getD 5 .junk, T.sl.getD 6 .junk, T.hp with
  | CV.pure (Ty.slice (Ty.int IntKind.u8)) p0, CV.ptr (0 : Nat) [], CV.ptr (1 : Nat) [], CV.ptr (2 : Nat) [], CV.int IntKind.i64 p1, ((Blk.mem (CV.pure (Ty.arr (8 : Nat) (Ty.int IntKind.u32)) p2)) :: (Blk.mem (CV.pure (Ty.arr (8 : Nat) (Ty.int IntKind.u32)) p3)) :: (Blk.mem (CV.pure (Ty.arr (64 : Nat) (Ty.int IntKind.u32)) p4)) :: []) => gd (shapeOK T 196 [1, 2, 4, 5, 6] (0 : Nat)) (G p0 p1 p2 p3 p4 k)
  | _, _, _, _, _, _ => none
theorem o_36_0_inv {R : Type} {G : (List Int) → (Int) → (List Int) → (List Int) → (List Int) → (Ex → St → Option R) → Option R} {T : St} {k : Ex → St → Option R} {r : R} (h : o_36_0 G T k = some r) : ∃ p0 p1 p2 p3 p4, T = T_36_0 p0 p1 p2 p3 p4 ∧ G p0 p1 p2 p3 p4 k = some r := by
  unfold o_36_0 at h
  split at h
  · obtain ⟨hs, h'⟩ := gd_some h
    refine ⟨_, _, _, _, _, (st_of (asg := [(1, _), (2, _), (4, _), (5, _), (6, _)]) hs ⟨by assumption, by assumption, by assumption, by assumption, by assumption, trivial⟩ (by assumption)).trans ?_, h'⟩
    kernel_rfl
  · cases h
def T_36_1 (p0 : Int) (p1 : List Int) (p2 : List Int) (p3 : List Int) : St := St.mk [CV.junk, CV.junk, CV.ptr (0 : Nat) [], CV.junk, CV.ptr (1 : Nat) [], CV.ptr (2 : Nat) [], CV.junk, CV.int IntKind.i64 p0, CV.junk, CV.junk, CV.junk, CV.junk, CV.junk, CV.junk, CV.junk, CV.junk, CV.junk, CV.junk, CV.junk, CV.junk, CV.junk, CV.junk, CV.junk, CV.junk, CV.junk, CV.junk, CV.junk, CV.junk, CV.junk, CV.junk, CV.junk, CV.junk, CV.junk, CV.junk, CV.junk, CV.junk, CV.junk, CV.junk, CV.junk, CV.junk, CV.junk, CV.junk, CV.junk, CV.junk, CV.junk, CV.junk, CV.junk, CV.junk, CV.junk, CV.junk, CV.junk, CV.junk, CV.junk, CV.junk, CV.junk, CV.junk, CV.junk, CV.junk, CV.junk, CV.junk, CV.junk, CV.junk, CV.junk, CV.junk, CV.junk, CV.junk, CV.junk, CV.junk, CV.junk, CV.junk, CV.junk, CV.junk, CV.junk, CV.junk, CV.junk, CV.junk, CV.junk, CV.junk, CV.junk, CV.junk, CV.junk, CV.junk, CV.junk, CV.junk, CV.junk, CV.junk, CV.junk, CV.junk, CV.junk, CV.junk, CV.junk, CV.junk, CV.junk, CV.junk, CV.junk, CV.junk, CV.junk, CV.junk, CV.junk, CV.junk, CV.junk, CV.junk, CV.junk, CV.junk, CV.junk, CV.junk, CV.junk, CV.junk, CV.junk, CV.junk, CV.junk, CV.junk, CV.junk, CV.junk, CV.junk, CV.junk, CV.junk, CV.junk, CV.junk, CV.junk, CV.junk, CV.junk, CV.junk, CV.junk, CV.junk, CV.junk, CV.junk, CV.junk, CV.junk, CV.junk, CV.junk, CV.junk, CV.junk, CV.junk, CV.junk, CV.junk, CV.junk, CV.junk, CV.junk, CV.junk, CV.junk, CV.junk, CV.junk, CV.junk, CV.junk, CV.junk, CV.junk, CV.junk, CV.junk, CV.junk, CV.junk, CV.junk, CV.junk, CV.junk, CV.junk, CV.junk, CV.junk, CV.junk, CV.junk, CV.junk, CV.junk, CV.junk, CV.junk, CV.junk, CV.junk, CV.junk, CV.junk, CV.junk, CV.junk, CV.junk, CV.junk, CV.junk, CV.junk, CV.junk, CV.junk, CV.junk, CV.junk, CV.junk, CV.junk, CV.junk, CV.junk, CV.junk, CV.junk, CV.junk, CV.junk, CV.junk, CV.junk, CV.junk, CV.junk, CV.junk, CV.junk, CV.junk, CV.junk, CV.junk, CV.junk, CV.junk] [Blk.mem (CV.pure (Ty.arr (8 : Nat) (Ty.int IntKind.u32)) p1), Blk.mem (CV.pure (Ty.arr (8 : Nat) (Ty.int IntKind.u32)) p2), Blk.mem (CV.pure (Ty.arr (64 : Nat) (Ty.int IntKind.u32)) p3)] (0 : Nat)
def X_36_1_0 (p1 : List Int) (p2 : List Int) (p3 : List Int) : St := St.mk [CV.junk, CV.junk, CV.ptr (0 : Nat) [], CV.junk, CV.ptr (1 : Nat) [], CV.ptr (2 : Nat) [], CV.junk, CV.junk, CV.junk, CV.junk, CV.junk, CV.junk, CV.junk, CV.junk, CV.junk, CV.junk, CV.junk, CV.junk, CV.junk, CV.junk, CV.junk, CV.junk, CV.junk, CV.junk, CV.junk, CV.junk, CV.junk, CV.junk, CV.junk, CV.junk, CV.junk, CV.junk, CV.junk, CV.junk, CV.junk, CV.junk, CV.junk, CV.junk, CV.junk, CV.junk, CV.junk, CV.junk, CV.junk, CV.junk, CV.junk, CV.junk, CV.junk, CV.junk, CV.junk, CV.junk, CV.junk, CV.junk, CV.junk, CV.junk, CV.junk, CV.junk, CV.junk, CV.junk, CV.junk, CV.junk, CV.junk, CV.junk, CV.junk, CV.junk, CV.junk, CV.junk, CV.junk, CV.junk, CV.junk, CV.junk, CV.junk, CV.junk, CV.junk, CV.junk, CV.junk, CV.junk, CV.junk, CV.junk, CV.junk, CV.junk, CV.junk, CV.junk, CV.junk, CV.junk, CV.junk, CV.junk, CV.junk, CV.junk, CV.junk, CV.junk, CV.junk, CV.junk, CV.junk, CV.junk, CV.junk, CV.junk, CV.junk, CV.junk, CV.junk, CV.junk, CV.junk, CV.junk, CV.junk, CV.junk, CV.junk, CV.junk, CV.junk, CV.junk, CV.junk, CV.junk, CV.junk, CV.junk, CV.junk, CV.junk, CV.junk, CV.junk, CV.junk, CV.junk, CV.junk, CV.junk, CV.junk, CV.junk, CV.junk, CV.junk, CV.junk, CV.junk, CV.junk, CV.junk, CV.junk, CV.junk, CV.junk, CV.junk, CV.junk, CV.junk, CV.junk, CV.junk, CV.junk, CV.junk, CV.junk, CV.junk, CV.junk, CV.junk, CV.junk, CV.junk, CV.junk, CV.junk, CV.junk, CV.junk, CV.junk, CV.junk, CV.junk, CV.junk, CV.junk, CV.junk, CV.junk, CV.junk, CV.junk, CV.junk, CV.junk, CV.junk, CV.junk, CV.junk, CV.junk, CV.junk, CV.junk, CV.junk, CV.junk, CV.junk, CV.junk, CV.junk, CV.junk, CV.junk, CV.junk, CV.junk, CV.junk, CV.junk, CV.junk, CV.junk, CV.junk, CV.junk, CV.junk, CV.junk, CV.junk, CV.junk, CV.junk, CV.junk, CV.junk, CV.junk, CV.junk, CV.junk, CV.junk, CV.junk, CV.junk, CV.junk, CV.junk, CV.junk] [Blk.mem (CV.pure (Ty.arr (8 : Nat) (Ty.int IntKind.u32)) p1), Blk.mem (CV.pure (Ty.arr (8 : Nat) (Ty.int IntKind.u32)) p2), Blk.mem (CV.pure (Ty.arr (64 : Nat) (Ty.int IntKind.u32)) p3)] (0 : Nat)
inductive Sp.E_36_1 where
  | e0 (p1 : List Int) (p2 : List Int) (p3 : List Int)
def Sp.B_36_1 {R : Type} (r : Option Sp.E_36_1) (k0 : (List Int) → (List Int) → (List Int) → Option R) : Option R := match r with
  | none => none
  | some (.e0 p1 p2 p3) => k0 p1 p2 p3
def Sp.L_36_1 : Nat → (Int) → (List Int) → (List Int) → (List Int) → Option Sp.E_36_1
  | 0, _, _, _, _ => none
  | m + 1, p0, p1, p2, p3 => bif decide (p0 < (64 : Int)) then gd (inB (IntKind.wrap IntKind.i64 (p0 - (15 : Int))) (64 : Nat)) (gd (decide (Int.toNat (IntKind.wrap IntKind.i64 (p0 - (15 : Int))) < (64 : Nat)) && true) (gd (inB (IntKind.wrap IntKind.i64 (p0 - (2 : Int))) (64 : Nat)) (gd (decide (Int.toNat (IntKind.wrap IntKind.i64 (p0 - (2 : Int))) < (64 : Nat)) && true) (gd (Sp.p_50 (List.getD p3 (Int.toNat (IntKind.wrap IntKind.i64 (p0 - (2 : Int)))) (0 : Int)) (17 : Int)) (gd (Sp.p_50 (List.getD p3 (Int.toNat (IntKind.wrap IntKind.i64 (p0 - (2 : Int)))) (0 : Int)) (19 : Int)) (gd (inB (IntKind.wrap IntKind.i64 (p0 - (7 : Int))) (64 : Nat)) (gd (decide (Int.toNat (IntKind.wrap IntKind.i64 (p0 - (7 : Int))) < (64 : Nat)) && true) (gd (Sp.p_50 (List.getD p3 (Int.toNat (IntKind.wrap IntKind.i64 (p0 - (15 : Int)))) (0 : Int)) (7 : Int)) (gd (Sp.p_50 (List.getD p3 (Int.toNat (IntKind.wrap IntKind.i64 (p0 - (15 : Int)))) (0 : Int)) (18 : Int)) (gd (inB (IntKind.wrap IntKind.i64 (p0 - (16 : Int))) (64 : Nat)) (gd (decide (Int.toNat (IntKind.wrap IntKind.i64 (p0 - (16 : Int))) < (64 : Nat)) && true) (gd (inB p0 (64 : Nat)) (gd (decide (Int.toNat p0 < (64 : Nat)) && true) (Sp.L_36_1 m (IntKind.wrap IntKind.i64 (p0 + (1 : Int))) p1 p2 (List.set p3 (Int.toNat p0) (IntKind.wrap IntKind.u32 (IntKind.wrap IntKind.u32 (IntKind.wrap IntKind.u32 (Sp.xorI IntKind.u32 (Sp.xorI IntKind.u32 (Prod.fst (Sp.v_50 (List.getD p3 (Int.toNat (IntKind.wrap IntKind.i64 (p0 - (2 : Int)))) (0 : Int)) (17 : Int))) (Prod.fst (Sp.v_50 (List.getD p3 (Int.toNat (IntKind.wrap IntKind.i64 (p0 - (2 : Int)))) (0 : Int)) (19 : Int)))) (Int.fdiv (List.getD p3 (Int.toNat (IntKind.wrap IntKind.i64 (p0 - (2 : Int)))) (0 : Int)) (1024 : Int)) + List.getD p3 (Int.toNat (IntKind.wrap IntKind.i64 (p0 - (7 : Int)))) (0 : Int)) + Sp.xorI IntKind.u32 (Sp.xorI IntKind.u32 (Prod.fst (Sp.v_50 (List.getD p3 (Int.toNat (IntKind.wrap IntKind.i64 (p0 - (15 : Int)))) (0 : Int)) (7 : Int))) (Prod.fst (Sp.v_50 (List.getD p3 (Int.toNat (IntKind.wrap IntKind.i64 (p0 - (15 : Int)))) (0 : Int)) (18 : Int)))) (Int.fdiv (List.getD p3 (Int.toNat (IntKind.wrap IntKind.i64 (p0 - (15 : Int)))) (0 : Int)) (8 : Int))) + List.getD p3 (Int.toNat (IntKind.wrap IntKind.i64 (p0 - (16 : Int)))) (0 : Int)))))))))))))))))) else some (Sp.E_36_1.e0 p1 p2 p3)
def G_36_1 {R : Type} (p0 : Int) (p1 : List Int) (p2 : List Int) (p3 : List Int) (k : Ex → St → Option R) : Option R := Sp.B_36_1 (Sp.L_36_1 FU p0 p1 p2 p3) (fun p1 p2 p3 => k (Ex.exit (2 : Nat)) (X_36_1_0 p1 p2 p3))
def o_36_1 {R : Type} (G : (Int) → (List Int) → (List Int) → (List Int) → (Ex → St → Option R) → Option R) : St → (Ex → St → Option R) → Option R := fun T k => match T.sl.getD 2 .junk, T.sl.getD 4 .junk, T.sl.getD 5 .junk, T.sl.getD 7 .junk, T.hp with
  | CV.ptr (0 : Nat) [], CV.ptr (1 : Nat) [], CV.ptr (2 : Nat) [], CV.int IntKind.i64 p0, ((Blk.mem (CV.pure (Ty.arr (8 : Nat) (Ty.int IntKind.u32)) p1)) :: (Blk.mem (CV.pure (Ty.arr (8 : Nat) (Ty.int IntKind.u32)) p2)) :: (Blk.mem (CV.pure (Ty.arr (64 : Nat) (Ty.int IntKind.u32)) p3)) :: []) => gd (shapeOK T 196 [2, 4, 5, 7] (0 : Nat)) (G p0 p1 p2 p3 k)
  | _, _, _, _, _ => none
theorem o_36_1_inv {R : Type} {G : (Int) → (List Int) → (List Int) → (List Int) → (Ex → St → Option R) → Option R} {T : St} {k : Ex → St → Option R} {r : R} (h : o_36_1 G T k = some r) : ∃ p0 p1 p2 p3, T = T_36_1 p0 p1 p2 p3 ∧ G p0 p1 p2 p3 k = some r := by
  unfold o_36_1 at h
  split at h
  · obtain ⟨hs, h'⟩ := gd_some h
    refine ⟨_, _, _, _, (st_of (asg := [(2, _), (4, _), (5, _), (7, _)]) hs ⟨by assumption, by assumption, by assumption, by assumption, trivial⟩ (by assumption)).trans ?_, h'⟩
    kernel_rfl
  · cases h
def T_36_2 (p0 : Int) (p1 : List Int) (p2 : List Int) (p3 : List Int) (p4 : List Int) (p5 : List Int) : St := St.mk [CV.junk, CV.junk, CV.ptr (0 : Nat) [], CV.junk, CV.ptr (1 : Nat) [], CV.ptr (2 : Nat) [], CV.junk, CV.junk, CV.junk, CV.junk, CV.ptr (3 : Nat) [], CV.ptr (4 : Nat) [], CV.int IntKind.i64 p0, CV.junk, CV.junk, CV.junk, CV.junk, CV.junk, CV.junk, CV.junk, CV.junk, CV.junk, CV.junk, CV.junk, CV.junk, CV.junk, CV.junk, CV.junk, CV.junk, CV.junk, CV.junk, CV.junk, CV.junk, CV.junk, CV.junk, CV.junk, CV.junk, CV.junk, CV.junk, CV.junk, CV.junk, CV.junk, CV.junk, CV.junk, CV.junk, CV.junk, CV.junk, CV.junk, CV.junk, CV.junk, CV.junk, CV.junk, CV.junk, CV.junk, CV.junk, CV.junk, CV.junk, CV.junk, CV.junk, CV.junk, CV.junk, CV.junk, CV.junk, CV.junk, CV.junk, CV.junk, CV.junk, CV.junk, CV.junk, CV.junk, CV.junk, CV.junk, CV.junk, CV.junk, CV.junk, CV.junk, CV.junk, CV.junk, CV.junk, CV.junk, CV.junk, CV.junk, CV.junk, CV.junk, CV.junk, CV.junk, CV.junk, CV.junk, CV.junk, CV.junk, CV.junk, CV.junk, CV.junk, CV.junk, CV.junk, CV.junk, CV.junk, CV.junk, CV.junk, CV.junk, CV.junk, CV.junk, CV.junk, CV.junk, CV.junk, CV.junk, CV.junk, CV.junk, CV.junk, CV.junk, CV.junk, CV.junk, CV.junk, CV.junk, CV.junk, CV.junk, CV.junk, CV.junk, CV.junk, CV.junk, CV.junk, CV.junk, CV.junk, CV.junk, CV.junk, CV.junk, CV.junk, CV.junk, CV.junk, CV.junk, CV.junk, CV.junk, CV.junk, CV.junk, CV.junk, CV.junk, CV.junk, CV.junk, CV.junk, CV.junk, CV.junk, CV.junk, CV.junk, CV.junk, CV.junk, CV.junk, CV.junk, CV.junk, CV.junk, CV.junk, CV.junk, CV.junk, CV.junk, CV.junk, CV.junk, CV.junk, CV.junk, CV.junk, CV.junk, CV.junk, CV.junk, CV.junk, CV.junk, CV.junk, CV.junk, CV.junk, CV.junk, CV.junk, CV.junk, CV.junk, CV.junk, CV.junk, CV.junk, CV.junk, CV.junk, CV.junk, CV.junk, CV.junk, CV.junk, CV.junk, CV.junk, CV.junk, CV.junk, CV.junk, CV.junk, CV.junk, CV.junk, CV.junk, CV.junk, CV.junk, CV.junk, CV.junk, CV.junk, CV.junk, CV.junk, CV.junk] [Blk.mem (CV.pure (Ty.arr (8 : Nat) (Ty.int IntKind.u32)) p1), Blk.mem (CV.pure (Ty.arr (8 : Nat) (Ty.int IntKind.u32)) p2), Blk.mem (CV.pure (Ty.arr (64 : Nat) (Ty.int IntKind.u32)) p3), Blk.mem (CV.pure (Ty.arr (64 : Nat) (Ty.int IntKind.u32)) p4), Blk.mem (CV.pure (Ty.arr (8 : Nat) (Ty.int IntKind.u32)) p5)] (0 : Nat)
def X_36_2_0 (p1 : List Int) (p2 : List Int) (p5 : List Int) : St := St.mk [CV.junk, CV.junk, CV.ptr (0 : Nat) [], CV.junk, CV.ptr (1 : Nat) [], CV.junk, CV.junk, CV.junk, CV.junk, CV.junk, CV.junk, CV.ptr (2 : Nat) [], CV.junk, CV.junk, CV.junk, CV.junk, CV.junk, CV.junk, CV.junk, CV.junk, CV.junk, CV.junk, CV.junk, CV.junk, CV.junk, CV.junk, CV.junk, CV.junk, CV.junk, CV.junk, CV.junk, CV.junk, CV.junk, CV.junk, CV.junk, CV.junk, CV.junk, CV.junk, CV.junk, CV.junk, CV.junk, CV.junk, CV.junk, CV.junk, CV.junk, CV.junk, CV.junk, CV.junk, CV.junk, CV.junk, CV.junk, CV.junk, CV.junk, CV.junk, CV.junk, CV.junk, CV.junk, CV.junk, CV.junk, CV.junk, CV.junk, CV.junk, CV.junk, CV.junk, CV.junk, CV.junk, CV.junk, CV.junk, CV.junk, CV.junk, CV.junk, CV.junk, CV.junk, CV.junk, CV.junk, CV.junk, CV.junk, CV.junk, CV.junk, CV.junk, CV.junk, CV.junk, CV.junk, CV.junk, CV.junk, CV.junk, CV.junk, CV.junk, CV.junk, CV.junk, CV.junk, CV.junk, CV.junk, CV.junk, CV.junk, CV.junk, CV.junk, CV.junk, CV.junk, CV.junk, CV.junk, CV.junk, CV.junk, CV.junk, CV.junk, CV.junk, CV.junk, CV.junk, CV.junk, CV.junk, CV.junk, CV.junk, CV.junk, CV.junk, CV.junk, CV.junk, CV.junk, CV.junk, CV.junk, CV.junk, CV.junk, CV.junk, CV.junk, CV.junk, CV.junk, CV.junk, CV.junk, CV.junk, CV.junk, CV.junk, CV.junk, CV.junk, CV.junk, CV.junk, CV.junk, CV.junk, CV.junk, CV.junk, CV.junk, CV.junk, CV.junk, CV.junk, CV.junk, CV.junk, CV.junk, CV.junk, CV.junk, CV.junk, CV.junk, CV.junk, CV.junk, CV.junk, CV.junk, CV.junk, CV.junk, CV.junk, CV.junk, CV.junk, CV.junk, CV.junk, CV.junk, CV.junk, CV.junk, CV.junk, CV.junk, CV.junk, CV.junk, CV.junk, CV.junk, CV.junk, CV.junk, CV.junk, CV.junk, CV.junk, CV.junk, CV.junk, CV.junk, CV.junk, CV.junk, CV.junk, CV.junk, CV.junk, CV.junk, CV.junk, CV.junk, CV.junk, CV.junk, CV.junk, CV.junk, CV.junk, CV.junk, CV.junk, CV.junk, CV.junk, CV.junk, CV.junk] [Blk.mem (CV.pure (Ty.arr (8 : Nat) (Ty.int IntKind.u32)) p1), Blk.mem (CV.pure (Ty.arr (8 : Nat) (Ty.int IntKind.u32)) p2), Blk.mem (CV.pure (Ty.arr (8 : Nat) (Ty.int IntKind.u32)) p5)] (0 : Nat)
inductive Sp.E_36_2 where
  | e0 (p1 : List Int) (p2 : List Int) (p5 : List Int)
def Sp.B_36_2 {R : Type} (r : Option Sp.E_36_2) (k0 : (List Int) → (List Int) → (List Int) → Option R) : Option R := match r with
  | none => none
  | some (.e0 p1 p2 p5) => k0 p1 p2 p5
def Sp.L_36_2 : Nat → (Int) → (List Int) → (List Int) → (List Int) → (List Int) → (List Int) → Option Sp.E_36_2
  | 0, _, _, _, _, _, _ => none
  | m + 1, p0, p1, p2, p3, p4, p5 => bif decide (p0 < (64 : Int)) then gd (Sp.p_50 (List.getD p5 (4 : Nat) (0 : Int)) (6 : Int)) (gd (Sp.p_50 (List.getD p5 (4 : Nat) (0 : Int)) (11 : Int)) (gd (Sp.p_50 (List.getD p5 (4 : Nat) (0 : Int)) (25 : Int)) (gd (inB p0 (64 : Nat)) (gd (decide (Int.toNat p0 < (64 : Nat)) && true) (gd (inB p0 (64 : Nat)) (gd (decide (Int.toNat p0 < (64 : Nat)) && true) (gd (Sp.p_50 (List.getD p5 (0 : Nat) (0 : Int)) (2 : Int)) (gd (Sp.p_50 (List.getD p5 (0 : Nat) (0 : Int)) (13 : Int)) (gd (Sp.p_50 (List.getD p5 (0 : Nat) (0 : Int)) (22 : Int)) (Sp.L_36_2 m (IntKind.wrap IntKind.i64 (p0 + (1 : Int))) p1 p2 p3 p4 [IntKind.wrap IntKind.u32 (IntKind.wrap IntKind.u32 (IntKind.wrap IntKind.u32 (IntKind.wrap IntKind.u32 (IntKind.wrap IntKind.u32 (List.getD p5 (7 : Nat) (0 : Int) + Sp.xorI IntKind.u32 (Sp.xorI IntKind.u32 (Prod.fst (Sp.v_50 (List.getD p5 (4 : Nat) (0 : Int)) (6 : Int))) (Prod.fst (Sp.v_50 (List.getD p5 (4 : Nat) (0 : Int)) (11 : Int)))) (Prod.fst (Sp.v_50 (List.getD p5 (4 : Nat) (0 : Int)) (25 : Int)))) + Sp.xorI IntKind.u32 (Sp.andI IntKind.u32 (List.getD p5 (4 : Nat) (0 : Int)) (List.getD p5 (5 : Nat) (0 : Int))) (Sp.andI IntKind.u32 (Sp.xorI IntKind.u32 (4294967295 : Int) (List.getD p5 (4 : Nat) (0 : Int))) (List.getD p5 (6 : Nat) (0 : Int)))) + List.getD p4 (Int.toNat p0) (0 : Int)) + List.getD p3 (Int.toNat p0) (0 : Int)) + IntKind.wrap IntKind.u32 (Sp.xorI IntKind.u32 (Sp.xorI IntKind.u32 (Prod.fst (Sp.v_50 (List.getD p5 (0 : Nat) (0 : Int)) (2 : Int))) (Prod.fst (Sp.v_50 (List.getD p5 (0 : Nat) (0 : Int)) (13 : Int)))) (Prod.fst (Sp.v_50 (List.getD p5 (0 : Nat) (0 : Int)) (22 : Int))) + Sp.xorI IntKind.u32 (Sp.xorI IntKind.u32 (Sp.andI IntKind.u32 (List.getD p5 (0 : Nat) (0 : Int)) (List.getD p5 (1 : Nat) (0 : Int))) (Sp.andI IntKind.u32 (List.getD p5 (0 : Nat) (0 : Int)) (List.getD p5 (2 : Nat) (0 : Int)))) (Sp.andI IntKind.u32 (List.getD p5 (1 : Nat) (0 : Int)) (List.getD p5 (2 : Nat) (0 : Int))))), List.getD p5 (0 : Nat) (0 : Int), List.getD p5 (1 : Nat) (0 : Int), List.getD p5 (2 : Nat) (0 : Int), IntKind.wrap IntKind.u32 (List.getD p5 (3 : Nat) (0 : Int) + IntKind.wrap IntKind.u32 (IntKind.wrap IntKind.u32 (IntKind.wrap IntKind.u32 (IntKind.wrap IntKind.u32 (List.getD p5 (7 : Nat) (0 : Int) + Sp.xorI IntKind.u32 (Sp.xorI IntKind.u32 (Prod.fst (Sp.v_50 (List.getD p5 (4 : Nat) (0 : Int)) (6 : Int))) (Prod.fst (Sp.v_50 (List.getD p5 (4 : Nat) (0 : Int)) (11 : Int)))) (Prod.fst (Sp.v_50 (List.getD p5 (4 : Nat) (0 : Int)) (25 : Int)))) + Sp.xorI IntKind.u32 (Sp.andI IntKind.u32 (List.getD p5 (4 : Nat) (0 : Int)) (List.getD p5 (5 : Nat) (0 : Int))) (Sp.andI IntKind.u32 (Sp.xorI IntKind.u32 (4294967295 : Int) (List.getD p5 (4 : Nat) (0 : Int))) (List.getD p5 (6 : Nat) (0 : Int)))) + List.getD p4 (Int.toNat p0) (0 : Int)) + List.getD p3 (Int.toNat p0) (0 : Int))), List.getD p5 (4 : Nat) (0 : Int), List.getD p5 (5 : Nat) (0 : Int), List.getD p5 (6 : Nat) (0 : Int)])))))))))) else some (Sp.E_36_2.e0 p1 p2 p5)
def G_36_2 {R : Type} (p0 : Int) (p1 : List Int) (p2 : List Int) (p3 : List Int) (p4 : List Int) (p5 : List Int) (k : Ex → St → Option R) : Option R := Sp.B_36_2 (Sp.L_36_2 FU p0 p1 p2 p3 p4 p5) (fun p1 p2 p5 => k (Ex.exit (4 : Nat)) (X_36_2_0 p1 p2 p5))
def o_36_2 {R : Type} (G : (Int) → (List Int) → (List Int) → (List Int) → (List Int) → (List Int) → (Ex → St → Option R) → Option R) : St → (Ex → St → Option R) → Option R := fun T k => match T.sl.getD 2 .junk, T.sl.getD 4 .junk, T.sl.getD 5 .junk, T.sl.getD 10 .junk, T.sl.getD 11 .junk, T.sl.getD 12 .junk, T.hp with
  | CV.ptr (0 : Nat) [], CV.ptr (1 : Nat) [], CV.ptr (2 : Nat) [], CV.ptr (3 : Nat) [], CV.ptr (4 : Nat) [], CV.int IntKind.i64 p0, ((Blk.mem (CV.pure (Ty.arr (8 : Nat) (Ty.int IntKind.u32)) p1)) :: (Blk.mem (CV.pure (Ty.arr (8 : Nat) (Ty.int IntKind.u32)) p2)) :: (Blk.mem (CV.pure (Ty.arr (64 : Nat) (Ty.int IntKind.u32)) p3)) :: (Blk.mem (CV.pure (Ty.arr (64 : Nat) (Ty.int IntKind.u32)) p4)) :: (Blk.mem (CV.pure (Ty.arr (8 : Nat) (Ty.int IntKind.u32)) p5)) :: []) => gd (shapeOK T 196 [2, 4, 5, 10, 11, 12] (0 : Nat)) (G p0 p1 p2 p3 p4 p5 k)
  | _, _, _, _, _, _, _ => none
theorem o_36_2_inv {R : Type} {G : (Int) → (List Int) → (List Int) → (List Int) → (List Int) → (List Int) → (Ex → St → Option R) → Option R} {T : St} {k : Ex → St → Option R} {r : R} (h : o_36_2 G T k = some r) : ∃ p0 p1 p2 p3 p4 p5, T = T_36_2 p0 p1 p2 p3 p4 p5 ∧ G p0 p1 p2 p3 p4 p5 k = some r := by
  unfold o_36_2 at h
  split at h
  · obtain ⟨hs, h'⟩ := gd_some h
    refine ⟨_, _, _, _, _, _, (st_of (asg := [(2, _), (4, _), (5, _), (10, _), (11, _), (12, _)]) hs ⟨by assumption, by assumption, by assumption, by assumption, by assumption, by assumption, trivial⟩ (by assumption)).trans ?_, h'⟩
    kernel_rfl
  · cases h
def T_36_3 (p0 : Int) (p1 : List Int) (p2 : List Int) (p3 : List Int) : St := St.mk [CV.junk, CV.junk, CV.ptr (0 : Nat) [], CV.junk, CV.ptr (1 : Nat) [], CV.junk, CV.junk, CV.junk, CV.junk, CV.junk, CV.junk, CV.ptr (2 : Nat) [], CV.junk, CV.junk, CV.junk, CV.junk, CV.junk, CV.junk, CV.junk, CV.junk, CV.junk, CV.int IntKind.i64 p0, CV.junk, CV.junk, CV.junk, CV.junk, CV.junk, CV.junk, CV.junk, CV.junk, CV.junk, CV.junk, CV.junk, CV.junk, CV.junk, CV.junk, CV.junk, CV.junk, CV.junk, CV.junk, CV.junk, CV.junk, CV.junk, CV.junk, CV.junk, CV.junk, CV.junk, CV.junk, CV.junk, CV.junk, CV.junk, CV.junk, CV.junk, CV.junk, CV.junk, CV.junk, CV.junk, CV.junk, CV.junk, CV.junk, CV.junk, CV.junk, CV.junk, CV.junk, CV.junk, CV.junk, CV.junk, CV.junk, CV.junk, CV.junk, CV.junk, CV.junk, CV.junk, CV.junk, CV.junk, CV.junk, CV.junk, CV.junk, CV.junk, CV.junk, CV.junk, CV.junk, CV.junk, CV.junk, CV.junk, CV.junk, CV.junk, CV.junk, CV.junk, CV.junk, CV.junk, CV.junk, CV.junk, CV.junk, CV.junk, CV.junk, CV.junk, CV.junk, CV.junk, CV.junk, CV.junk, CV.junk, CV.junk, CV.junk, CV.junk, CV.junk, CV.junk, CV.junk, CV.junk, CV.junk, CV.junk, CV.junk, CV.junk, CV.junk, CV.junk, CV.junk, CV.junk, CV.junk, CV.junk, CV.junk, CV.junk, CV.junk, CV.junk, CV.junk, CV.junk, CV.junk, CV.junk, CV.junk, CV.junk, CV.junk, CV.junk, CV.junk, CV.junk, CV.junk, CV.junk, CV.junk, CV.junk, CV.junk, CV.junk, CV.junk, CV.junk, CV.junk, CV.junk, CV.junk, CV.junk, CV.junk, CV.junk, CV.junk, CV.junk, CV.junk, CV.junk, CV.junk, CV.junk, CV.junk, CV.junk, CV.junk, CV.junk, CV.junk, CV.junk, CV.junk, CV.junk, CV.junk, CV.junk, CV.junk, CV.junk, CV.junk, CV.junk, CV.junk, CV.junk, CV.junk, CV.junk, CV.junk, CV.junk, CV.junk, CV.junk, CV.junk, CV.junk, CV.junk, CV.junk, CV.junk, CV.junk, CV.junk, CV.junk, CV.junk, CV.junk, CV.junk, CV.junk, CV.junk, CV.junk, CV.junk, CV.junk, CV.junk, CV.junk, CV.junk, CV.junk, CV.junk] [Blk.mem (CV.pure (Ty.arr (8 : Nat) (Ty.int IntKind.u32)) p1), Blk.mem (CV.pure (Ty.arr (8 : Nat) (Ty.int IntKind.u32)) p2), Blk.mem (CV.pure (Ty.arr (8 : Nat) (Ty.int IntKind.u32)) p3)] (0 : Nat)
def X_36_3_0 (p1 : List Int) (p2 : List Int) : St := St.mk [CV.junk, CV.junk, CV.ptr (0 : Nat) [], CV.junk, CV.ptr (1 : Nat) [], CV.junk, CV.junk, CV.junk, CV.junk, CV.junk, CV.junk, CV.junk, CV.junk, CV.junk, CV.junk, CV.junk, CV.junk, CV.junk, CV.junk, CV.junk, CV.junk, CV.junk, CV.junk, CV.junk, CV.junk, CV.junk, CV.junk, CV.junk, CV.junk, CV.junk, CV.junk, CV.junk, CV.junk, CV.junk, CV.junk, CV.junk, CV.junk, CV.junk, CV.junk, CV.junk, CV.junk, CV.junk, CV.junk, CV.junk, CV.junk, CV.junk, CV.junk, CV.junk, CV.junk, CV.junk, CV.junk, CV.junk, CV.junk, CV.junk, CV.junk, CV.junk, CV.junk, CV.junk, CV.junk, CV.junk, CV.junk, CV.junk, CV.junk, CV.junk, CV.junk, CV.junk, CV.junk, CV.junk, CV.junk, CV.junk, CV.junk, CV.junk, CV.junk, CV.junk, CV.junk, CV.junk, CV.junk, CV.junk, CV.junk, CV.junk, CV.junk, CV.junk, CV.junk, CV.junk, CV.junk, CV.junk, CV.junk, CV.junk, CV.junk, CV.junk, CV.junk, CV.junk, CV.junk, CV.junk, CV.junk, CV.junk, CV.junk, CV.junk, CV.junk, CV.junk, CV.junk, CV.junk, CV.junk, CV.junk, CV.junk, CV.junk, CV.junk, CV.junk, CV.junk, CV.junk, CV.junk, CV.junk, CV.junk, CV.junk, CV.junk, CV.junk, CV.junk, CV.junk, CV.junk, CV.junk, CV.junk, CV.junk, CV.junk, CV.junk, CV.junk, CV.junk, CV.junk, CV.junk, CV.junk, CV.junk, CV.junk, CV.junk, CV.junk, CV.junk, CV.junk, CV.junk, CV.junk, CV.junk, CV.junk, CV.junk, CV.junk, CV.junk, CV.junk, CV.junk, CV.junk, CV.junk, CV.junk, CV.junk, CV.junk, CV.junk, CV.junk, CV.junk, CV.junk, CV.junk, CV.junk, CV.junk, CV.junk, CV.junk, CV.junk, CV.junk, CV.junk, CV.junk, CV.junk, CV.junk, CV.junk, CV.junk, CV.junk, CV.junk, CV.junk, CV.junk, CV.junk, CV.junk, CV.junk, CV.junk, CV.junk, CV.junk, CV.junk, CV.junk, CV.junk, CV.junk, CV.junk, CV.junk, CV.junk, CV.junk, CV.junk, CV.junk, CV.junk, CV.junk, CV.junk, CV.junk, CV.junk, CV.junk, CV.junk, CV.junk, CV.junk, CV.junk] [Blk.mem (CV.pure (Ty.arr (8 : Nat) (Ty.int IntKind.u32)) p1), Blk.mem (CV.pure (Ty.arr (8 : Nat) (Ty.int IntKind.u32)) p2)] (0 : Nat)
inductive Sp.E_36_3 where
  | e0 (p1 : List Int) (p2 : List Int)
def Sp.B_36_3 {R : Type} (r : Option Sp.E_36_3) (k0 : (List Int) → (List Int) → Option R) : Option R := match r with
  | none => none
  | some (.e0 p1 p2) => k0 p1 p2
def Sp.L_36_3 : Nat → (Int) → (List Int) → (List Int) → (List Int) → Option Sp.E_36_3
  | 0, _, _, _, _ => none
  | m + 1, p0, p1, p2, p3 => bif decide (p0 < (8 : Int)) then gd (inB p0 (8 : Nat)) (gd (decide (Int.toNat p0 < (8 : Nat)) && true) (gd (inB p0 (8 : Nat)) (gd (decide (Int.toNat p0 < (8 : Nat)) && true) (gd (inB p0 (8 : Nat)) (gd (decide (Int.toNat p0 < (8 : Nat)) && true) (Sp.L_36_3 m (IntKind.wrap IntKind.i64 (p0 + (1 : Int))) (List.set p1 (Int.toNat p0) (IntKind.wrap IntKind.u32 (List.getD p1 (Int.toNat p0) (0 : Int) + List.getD p3 (Int.toNat p0) (0 : Int)))) p2 p3)))))) else some (Sp.E_36_3.e0 p1 p2)
def G_36_3 {R : Type} (p0 : Int) (p1 : List Int) (p2 : List Int) (p3 : List Int) (k : Ex → St → Option R) : Option R := Sp.B_36_3 (Sp.L_36_3 FU p0 p1 p2 p3) (fun p1 p2 => k (Ex.exit (6 : Nat)) (X_36_3_0 p1 p2))
def o_36_3 {R : Type} (G : (Int) → (List Int) → (List Int) → (List Int) → (Ex → St → Option R) → Option R) : St → (Ex → St → Option R) → Option R := fun T k => match T.sl.getD 2 .junk, T.sl.getD 4 .junk, T.sl.getD 11 .junk, T.sl.getD 21 .junk, T.hp with
  | CV.ptr (0 : Nat) [], CV.ptr (1 : Nat) [], CV.ptr (2 : Nat) [], CV.int IntKind.i64 p0, ((Blk.mem (CV.pure (Ty.arr (8 : Nat) (Ty.int IntKind.u32)) p1)) :: (Blk.mem (CV.pure (Ty.arr (8 : Nat) (Ty.int IntKind.u32)) p2)) :: (Blk.mem (CV.pure (Ty.arr (8 : Nat) (Ty.int IntKind.u32)) p3)) :: []) => gd (shapeOK T 196 [2, 4, 11, 21] (0 : Nat)) (G p0 p1 p2 p3 k)
  | _, _, _, _, _ => none
theorem o_36_3_inv {R : Type} {G : (Int) → (List Int) → (List Int) → (List Int) → (Ex → St → Option R) → Option R} {T : St} {k : Ex → St → Option R} {r : R} (h : o_36_3 G T k = some r) : ∃ p0 p1 p2 p3, T = T_36_3 p0 p1 p2 p3 ∧ G p0 p1 p2 p3 k = some r := by
  unfold o_36_3 at h
  split at h
  · obtain ⟨hs, h'⟩ := gd_some h
    refine ⟨_, _, _, _, (st_of (asg := [(2, _), (4, _), (11, _), (21, _)]) hs ⟨by assumption, by assumption, by assumption, by assumption, trivial⟩ (by assumption)).trans ?_, h'⟩
    kernel_rfl
  · cases h
def O_36_36_0 {R : Type} : St → (Ex → St → Option R) → Option R := fun T k => o_36_0 G_36_0 T k
def O_36_36_1 {R : Type} : St → (Ex → St → Option R) → Option R := fun T k => o_36_1 G_36_1 T k
def O_36_36_2 {R : Type} : St → (Ex → St → Option R) → Option R := fun T k => o_36_2 G_36_2 T k
def O_36_36_3 {R : Type} : St → (Ex → St → Option R) → Option R := fun T k => o_36_3 G_36_3 T k
theorem body_36_0 {R : Type} (K0 : St → Option R) (K1 : Ex → St → Option R) (p0 : List Int) (p1 : Int) (p2 : List Int) (p3 : List Int) (p4 : List Int) : evLB (evCodeL sm_36 FU (ovr noO (evFn sm_36 fns FU 0)) .nil ir36_b0) (St.norm ir36_v0) (T_36_0 p0 p1 p2 p3 p4) K0 K1 =
  bif decide (p1 < (16 : Int)) then gd (inB (IntKind.wrap IntKind.i64 ((4 : Int) * p1)) (List.length p0)) (gd (inB (IntKind.wrap IntKind.i64 (IntKind.wrap IntKind.i64 ((4 : Int) * p1) + (1 : Int))) (List.length p0)) (gd (inB (IntKind.wrap IntKind.i64 (IntKind.wrap IntKind.i64 ((4 : Int) * p1) + (2 : Int))) (List.length p0)) (gd (inB (IntKind.wrap IntKind.i64 (IntKind.wrap IntKind.i64 ((4 : Int) * p1) + (3 : Int))) (List.length p0)) (gd (inB p1 (64 : Nat)) (gd (decide (Int.toNat p1 < (64 : Nat)) && true) (K0 (T_36_0 p0 (IntKind.wrap IntKind.i64 (p1 + (1 : Int))) p2 p3 (List.set p4 (Int.toNat p1) (Sp.orI IntKind.u32 (Sp.orI IntKind.u32 (Sp.orI IntKind.u32 (IntKind.wrap IntKind.u32 (IntKind.wrap IntKind.u32 (List.getD p0 (Int.toNat (IntKind.wrap IntKind.i64 ((4 : Int) * p1))) (0 : Int)) * (16777216 : Int))) (IntKind.wrap IntKind.u32 (IntKind.wrap IntKind.u32 (List.getD p0 (Int.toNat (IntKind.wrap IntKind.i64 (IntKind.wrap IntKind.i64 ((4 : Int) * p1) + (1 : Int)))) (0 : Int)) * (65536 : Int)))) (IntKind.wrap IntKind.u32 (IntKind.wrap IntKind.u32 (List.getD p0 (Int.toNat (IntKind.wrap IntKind.i64 (IntKind.wrap IntKind.i64 ((4 : Int) * p1) + (2 : Int)))) (0 : Int)) * (256 : Int)))) (IntKind.wrap IntKind.u32 (List.getD p0 (Int.toNat (IntKind.wrap IntKind.i64 (IntKind.wrap IntKind.i64 ((4 : Int) * p1) + (3 : Int)))) (0 : Int)))))))))))) else K1 (Ex.exit (0 : Nat)) (X_36_0_0 p2 p3 p4) := by kernel_rfl
theorem Bgd_36_0 {R : Type} {c : Bool} {x : Option R} {y : Option Sp.E_36_0} {k0 : (List Int) → (List Int) → (List Int) → Option R} (h : x = Sp.B_36_0 y k0) : gd c x = Sp.B_36_0 (gd c y) k0 := by cases c; rfl; exact h
theorem Bcond_36_0 {R : Type} {c : Bool} {x x' : Option R} {y y' : Option Sp.E_36_0} {k0 : (List Int) → (List Int) → (List Int) → Option R} (h : x = Sp.B_36_0 y k0) (h' : x' = Sp.B_36_0 y' k0) : (bif c then x else x') = Sp.B_36_0 (bif c then y else y') k0 := by cases c; exact h'; exact h
theorem loop_36_0 {R : Type} (k : Ex → St → Option R) : ∀ (m : Nat) (p0 : List Int) (p1 : Int) (p2 : List Int) (p3 : List Int) (p4 : List Int), evLoopN (evCodeL sm_36 FU (ovr noO (evFn sm_36 fns FU 0)) .nil ir36_b0) (St.norm ir36_v0) m (T_36_0 p0 p1 p2 p3 p4) k = Sp.B_36_0 (Sp.L_36_0 m p0 p1 p2 p3 p4) (fun p2 p3 p4 => k (Ex.exit (0 : Nat)) (X_36_0_0 p2 p3 p4))
  | 0, _, _, _, _, _ => rfl
  | m + 1, p0, p1, p2, p3, p4 => by
    rw [evLoopN_succ, body_36_0, Sp.L_36_0]
    repeat' first | apply Bgd_36_0 | apply Bcond_36_0 | exact loop_36_0 k m _ _ _ _ _ | rfl
theorem ok_36_0 {R : Type} (T : St) (k : Ex → St → Option R) (r : R) (h0 : o_36_0 G_36_0 T k = some r) : evLoopN (evCode sm_36 FU (evFn sm_36 fns FU 0) ir36_b0) (St.norm ir36_v0) FU T k = some r := by
  obtain ⟨p0, p1, p2, p3, p4, rfl, h⟩ := o_36_0_inv h0
  refine evLoopN_L (t := .nil) noO_ok trivial _ _ _ _ ?_
  rw [loop_36_0]
  exact h
theorem OK_36_36_0 {R : Type} (T : St) (k : Ex → St → Option R) (r : R) (h : O_36_36_0 T k = some r) : evLoopN (evCode sm_36 FU (evFn sm_36 fns FU 0) ir36_b0) (St.norm ir36_v0) FU T k = some r := ok_36_0 T k r h
theorem body_36_1 {R : Type} (K0 : St → Option R) (K1 : Ex → St → Option R) (p0 : Int) (p1 : List Int) (p2 : List Int) (p3 : List Int) : evLB (evCodeL sm_36 FU (ovr noO (evFn sm_36 fns FU 0)) .nil ir36_b1) (St.norm ir36_v1) (T_36_1 p0 p1 p2 p3) K0 K1 =
  bif decide (p0 < (64 : Int)) then gd (inB (IntKind.wrap IntKind.i64 (p0 - (15 : Int))) (64 : Nat)) (gd (decide (Int.toNat (IntKind.wrap IntKind.i64 (p0 - (15 : Int))) < (64 : Nat)) && true) (gd (inB (IntKind.wrap IntKind.i64 (p0 - (2 : Int))) (64 : Nat)) (gd (decide (Int.toNat (IntKind.wrap IntKind.i64 (p0 - (2 : Int))) < (64 : Nat)) && true) (gd (Sp.p_50 (List.getD p3 (Int.toNat (IntKind.wrap IntKind.i64 (p0 - (2 : Int)))) (0 : Int)) (17 : Int)) (gd (Sp.p_50 (List.getD p3 (Int.toNat (IntKind.wrap IntKind.i64 (p0 - (2 : Int)))) (0 : Int)) (19 : Int)) (gd (inB (IntKind.wrap IntKind.i64 (p0 - (7 : Int))) (64 : Nat)) (gd (decide (Int.toNat (IntKind.wrap IntKind.i64 (p0 - (7 : Int))) < (64 : Nat)) && true) (gd (Sp.p_50 (List.getD p3 (Int.toNat (IntKind.wrap IntKind.i64 (p0 - (15 : Int)))) (0 : Int)) (7 : Int)) (gd (Sp.p_50 (List.getD p3 (Int.toNat (IntKind.wrap IntKind.i64 (p0 - (15 : Int)))) (0 : Int)) (18 : Int)) (gd (inB (IntKind.wrap IntKind.i64 (p0 - (16 : Int))) (64 : Nat)) (gd (decide (Int.toNat (IntKind.wrap IntKind.i64 (p0 - (16 : Int))) < (64 : Nat)) && true) (gd (inB p0 (64 : Nat)) (gd (decide (Int.toNat p0 < (64 : Nat)) && true) (K0 (T_36_1 (IntKind.wrap IntKind.i64 (p0 + (1 : Int))) p1 p2 (List.set p3 (Int.toNat p0) (IntKind.wrap IntKind.u32 (IntKind.wrap IntKind.u32 (IntKind.wrap IntKind.u32 (Sp.xorI IntKind.u32 (Sp.xorI IntKind.u32 (Prod.fst (Sp.v_50 (List.getD p3 (Int.toNat (IntKind.wrap IntKind.i64 (p0 - (2 : Int)))) (0 : Int)) (17 : Int))) (Prod.fst (Sp.v_50 (List.getD p3 (Int.toNat (IntKind.wrap IntKind.i64 (p0 - (2 : Int)))) (0 : Int)) (19 : Int)))) (Int.fdiv (List.getD p3 (Int.toNat (IntKind.wrap IntKind.i64 (p0 - (2 : Int)))) (0 : Int)) (1024 : Int)) + List.getD p3 (Int.toNat (IntKind.wrap IntKind.i64 (p0 - (7 : Int)))) (0 : Int)) + Sp.xorI IntKind.u32 (Sp.xorI IntKind.u32 (Prod.fst (Sp.v_50 (List.getD p3 (Int.toNat (IntKind.wrap IntKind.i64 (p0 - (15 : Int)))) (0 : Int)) (7 : Int))) (Prod.fst (Sp.v_50 (List.getD p3 (Int.toNat (IntKind.wrap IntKind.i64 (p0 - (15 : Int)))) (0 : Int)) (18 : Int)))) (Int.fdiv (List.getD p3 (Int.toNat (IntKind.wrap IntKind.i64 (p0 - (15 : Int)))) (0 : Int)) (8 : Int))) + List.getD p3 (Int.toNat (IntKind.wrap IntKind.i64 (p0 - (16 : Int)))) (0 : Int))))))))))))))))))) else K1 (Ex.exit (2 : Nat)) (X_36_1_0 p1 p2 p3) := by kernel_rfl
theorem Bgd_36_1 {R : Type} {c : Bool} {x : Option R} {y : Option Sp.E_36_1} {k0 : (List Int) → (List Int) → (List Int) → Option R} (h : x = Sp.B_36_1 y k0) : gd c x = Sp.B_36_1 (gd c y) k0 := by cases c; rfl; exact h
theorem Bcond_36_1 {R : Type} {c : Bool} {x x' : Option R} {y y' : Option Sp.E_36_1} {k0 : (List Int) → (List Int) → (List Int) → Option R} (h : x = Sp.B_36_1 y k0) (h' : x' = Sp.B_36_1 y' k0) : (bif c then x else x') = Sp.B_36_1 (bif c then y else y') k0 := by cases c; exact h'; exact h
theorem loop_36_1 {R : Type} (k : Ex → St → Option R) : ∀ (m : Nat) (p0 : Int) (p1 : List Int) (p2 : List Int) (p3 : List Int), evLoopN (evCodeL sm_36 FU (ovr noO (evFn sm_36 fns FU 0)) .nil ir36_b1) (St.norm ir36_v1) m (T_36_1 p0 p1 p2 p3) k = Sp.B_36_1 (Sp.L_36_1 m p0 p1 p2 p3) (fun p1 p2 p3 => k (Ex.exit (2 : Nat)) (X_36_1_0 p1 p2 p3))
  | 0, _, _, _, _ => rfl
  | m + 1, p0, p1, p2, p3 => by
    rw [evLoopN_succ, body_36_1, Sp.L_36_1]
    repeat' first | apply Bgd_36_1 | apply Bcond_36_1 | exact loop_36_1 k m _ _ _ _ | rfl
theorem ok_36_1 {R : Type} (T : St) (k : Ex → St → Option R) (r : R) (h0 : o_36_1 G_36_1 T k = some r) : evLoopN (evCode sm_36 FU (evFn sm_36 fns FU 0) ir36_b1) (St.norm ir36_v1) FU T k = some r := by
  obtain ⟨p0, p1, p2, p3, rfl, h⟩ := o_36_1_inv h0
  refine evLoopN_L (t := .nil) noO_ok trivial _ _ _ _ ?_
  rw [loop_36_1]
  exact h
theorem OK_36_36_1 {R : Type} (T : St) (k : Ex → St → Option R) (r : R) (h : O_36_36_1 T k = some r) : evLoopN (evCode sm_36 FU (evFn sm_36 fns FU 0) ir36_b1) (St.norm ir36_v1) FU T k = some r := ok_36_1 T k r h
theorem body_36_2 {R : Type} (K0 : St → Option R) (K1 : Ex → St → Option R) (p0 : Int) (p1 : List Int) (p2 : List Int) (p3 : List Int) (p4 : List Int) (p5 : List Int) : evLB (evCodeL sm_36 FU (ovr noO (evFn sm_36 fns FU 0)) .nil ir36_b2) (St.norm ir36_v2) (T_36_2 p0 p1 p2 p3 p4 p5) K0 K1 =
  bif decide (p0 < (64 : Int)) then gd (Sp.p_50 (List.getD p5 (4 : Nat) (0 : Int)) (6 : Int)) (gd (Sp.p_50 (List.getD p5 (4 : Nat) (0 : Int)) (11 : Int)) (gd (Sp.p_50 (List.getD p5 (4 : Nat) (0 : Int)) (25 : Int)) (gd (inB p0 (64 : Nat)) (gd (decide (Int.toNat p0 < (64 : Nat)) && true) (gd (inB p0 (64 : Nat)) (gd (decide (Int.toNat p0 < (64 : Nat)) && true) (gd (Sp.p_50 (List.getD p5 (0 : Nat) (0 : Int)) (2 : Int)) (gd (Sp.p_50 (List.getD p5 (0 : Nat) (0 : Int)) (13 : Int)) (gd (Sp.p_50 (List.getD p5 (0 : Nat) (0 : Int)) (22 : Int)) (K0 (T_36_2 (IntKind.wrap IntKind.i64 (p0 + (1 : Int))) p1 p2 p3 p4 [IntKind.wrap IntKind.u32 (IntKind.wrap IntKind.u32 (IntKind.wrap IntKind.u32 (IntKind.wrap IntKind.u32 (IntKind.wrap IntKind.u32 (List.getD p5 (7 : Nat) (0 : Int) + Sp.xorI IntKind.u32 (Sp.xorI IntKind.u32 (Prod.fst (Sp.v_50 (List.getD p5 (4 : Nat) (0 : Int)) (6 : Int))) (Prod.fst (Sp.v_50 (List.getD p5 (4 : Nat) (0 : Int)) (11 : Int)))) (Prod.fst (Sp.v_50 (List.getD p5 (4 : Nat) (0 : Int)) (25 : Int)))) + Sp.xorI IntKind.u32 (Sp.andI IntKind.u32 (List.getD p5 (4 : Nat) (0 : Int)) (List.getD p5 (5 : Nat) (0 : Int))) (Sp.andI IntKind.u32 (Sp.xorI IntKind.u32 (4294967295 : Int) (List.getD p5 (4 : Nat) (0 : Int))) (List.getD p5 (6 : Nat) (0 : Int)))) + List.getD p4 (Int.toNat p0) (0 : Int)) + List.getD p3 (Int.toNat p0) (0 : Int)) + IntKind.wrap IntKind.u32 (Sp.xorI IntKind.u32 (Sp.xorI IntKind.u32 (Prod.fst (Sp.v_50 (List.getD p5 (0 : Nat) (0 : Int)) (2 : Int))) (Prod.fst (Sp.v_50 (List.getD p5 (0 : Nat) (0 : Int)) (13 : Int)))) (Prod.fst (Sp.v_50 (List.getD p5 (0 : Nat) (0 : Int)) (22 : Int))) + Sp.xorI IntKind.u32 (Sp.xorI IntKind.u32 (Sp.andI IntKind.u32 (List.getD p5 (0 : Nat) (0 : Int)) (List.getD p5 (1 : Nat) (0 : Int))) (Sp.andI IntKind.u32 (List.getD p5 (0 : Nat) (0 : Int)) (List.getD p5 (2 : Nat) (0 : Int)))) (Sp.andI IntKind.u32 (List.getD p5 (1 : Nat) (0 : Int)) (List.getD p5 (2 : Nat) (0 : Int))))), List.getD p5 (0 : Nat) (0 : Int), List.getD p5 (1 : Nat) (0 : Int), List.getD p5 (2 : Nat) (0 : Int), IntKind.wrap IntKind.u32 (List.getD p5 (3 : Nat) (0 : Int) + IntKind.wrap IntKind.u32 (IntKind.wrap IntKind.u32 (IntKind.wrap IntKind.u32 (IntKind.wrap IntKind.u32 (List.getD p5 (7 : Nat) (0 : Int) + Sp.xorI IntKind.u32 (Sp.xorI IntKind.u32 (Prod.fst (Sp.v_50 (List.getD p5 (4 : Nat) (0 : Int)) (6 : Int))) (Prod.fst (Sp.v_50 (List.getD p5 (4 : Nat) (0 : Int)) (11 : Int)))) (Prod.fst (Sp.v_50 (List.getD p5 (4 : Nat) (0 : Int)) (25 : Int)))) + Sp.xorI IntKind.u32 (Sp.andI IntKind.u32 (List.getD p5 (4 : Nat) (0 : Int)) (List.getD p5 (5 : Nat) (0 : Int))) (Sp.andI IntKind.u32 (Sp.xorI IntKind.u32 (4294967295 : Int) (List.getD p5 (4 : Nat) (0 : Int))) (List.getD p5 (6 : Nat) (0 : Int)))) + List.getD p4 (Int.toNat p0) (0 : Int)) + List.getD p3 (Int.toNat p0) (0 : Int))), List.getD p5 (4 : Nat) (0 : Int), List.getD p5 (5 : Nat) (0 : Int), List.getD p5 (6 : Nat) (0 : Int)]))))))))))) else K1 (Ex.exit (4 : Nat)) (X_36_2_0 p1 p2 p5) := by kernel_rfl
theorem Bgd_36_2 {R : Type} {c : Bool} {x : Option R} {y : Option Sp.E_36_2} {k0 : (List Int) → (List Int) → (List Int) → Option R} (h : x = Sp.B_36_2 y k0) : gd c x = Sp.B_36_2 (gd c y) k0 := by cases c; rfl; exact h
theorem Bcond_36_2 {R : Type} {c : Bool} {x x' : Option R} {y y' : Option Sp.E_36_2} {k0 : (List Int) → (List Int) → (List Int) → Option R} (h : x = Sp.B_36_2 y k0) (h' : x' = Sp.B_36_2 y' k0) : (bif c then x else x') = Sp.B_36_2 (bif c then y else y') k0 := by cases c; exact h'; exact h
theorem loop_36_2 {R : Type} (k : Ex → St → Option R) : ∀ (m : Nat) (p0 : Int) (p1 : List Int) (p2 : List Int) (p3 : List Int) (p4 : List Int) (p5 : List Int), evLoopN (evCodeL sm_36 FU (ovr noO (evFn sm_36 fns FU 0)) .nil ir36_b2) (St.norm ir36_v2) m (T_36_2 p0 p1 p2 p3 p4 p5) k = Sp.B_36_2 (Sp.L_36_2 m p0 p1 p2 p3 p4 p5) (fun p1 p2 p5 => k (Ex.exit (4 : Nat)) (X_36_2_0 p1 p2 p5))
  | 0, _, _, _, _, _, _ => rfl
  | m + 1, p0, p1, p2, p3, p4, p5 => by
    rw [evLoopN_succ, body_36_2, Sp.L_36_2]
    repeat' first | apply Bgd_36_2 | apply Bcond_36_2 | exact loop_36_2 k m _ _ _ _ _ _ | rfl
theorem ok_36_2 {R : Type} (T : St) (k : Ex → St → Option R) (r : R) (h0 : o_36_2 G_36_2 T k = some r) : evLoopN (evCode sm_36 FU (evFn sm_36 fns FU 0) ir36_b2) (St.norm ir36_v2) FU T k = some r := by
  obtain ⟨p0, p1, p2, p3, p4, p5, rfl, h⟩ := o_36_2_inv h0
  refine evLoopN_L (t := .nil) noO_ok trivial _ _ _ _ ?_
  rw [loop_36_2]
  exact h
theorem OK_36_36_2 {R : Type} (T : St) (k : Ex → St → Option R) (r : R) (h : O_36_36_2 T k = some r) : evLoopN (evCode sm_36 FU (evFn sm_36 fns FU 0) ir36_b2) (St.norm ir36_v2) FU T k = some r := ok_36_2 T k r h
theorem body_36_3 {R : Type} (K0 : St → Option R) (K1 : Ex → St → Option R) (p0 : Int) (p1 : List Int) (p2 : List Int) (p3 : List Int) : evLB (evCodeL sm_36 FU (ovr noO (evFn sm_36 fns FU 0)) .nil ir36_b3) (St.norm ir36_v3) (T_36_3 p0 p1 p2 p3) K0 K1 =
  bif decide (p0 < (8 : Int)) then gd (inB p0 (8 : Nat)) (gd (decide (Int.toNat p0 < (8 : Nat)) && true) (gd (inB p0 (8 : Nat)) (gd (decide (Int.toNat p0 < (8 : Nat)) && true) (gd (inB p0 (8 : Nat)) (gd (decide (Int.toNat p0 < (8 : Nat)) && true) (K0 (T_36_3 (IntKind.wrap IntKind.i64 (p0 + (1 : Int))) (List.set p1 (Int.toNat p0) (IntKind.wrap IntKind.u32 (List.getD p1 (Int.toNat p0) (0 : Int) + List.getD p3 (Int.toNat p0) (0 : Int)))) p2 p3))))))) else K1 (Ex.exit (6 : Nat)) (X_36_3_0 p1 p2) := by kernel_rfl
theorem Bgd_36_3 {R : Type} {c : Bool} {x : Option R} {y : Option Sp.E_36_3} {k0 : (List Int) → (List Int) → Option R} (h : x = Sp.B_36_3 y k0) : gd c x = Sp.B_36_3 (gd c y) k0 := by cases c; rfl; exact h
theorem Bcond_36_3 {R : Type} {c : Bool} {x x' : Option R} {y y' : Option Sp.E_36_3} {k0 : (List Int) → (List Int) → Option R} (h : x = Sp.B_36_3 y k0) (h' : x' = Sp.B_36_3 y' k0) : (bif c then x else x') = Sp.B_36_3 (bif c then y else y') k0 := by cases c; exact h'; exact h
theorem loop_36_3 {R : Type} (k : Ex → St → Option R) : ∀ (m : Nat) (p0 : Int) (p1 : List Int) (p2 : List Int) (p3 : List Int), evLoopN (evCodeL sm_36 FU (ovr noO (evFn sm_36 fns FU 0)) .nil ir36_b3) (St.norm ir36_v3) m (T_36_3 p0 p1 p2 p3) k = Sp.B_36_3 (Sp.L_36_3 m p0 p1 p2 p3) (fun p1 p2 => k (Ex.exit (6 : Nat)) (X_36_3_0 p1 p2))
  | 0, _, _, _, _ => rfl
  | m + 1, p0, p1, p2, p3 => by
    rw [evLoopN_succ, body_36_3, Sp.L_36_3]
    repeat' first | apply Bgd_36_3 | apply Bcond_36_3 | exact loop_36_3 k m _ _ _ _ | rfl
theorem ok_36_3 {R : Type} (T : St) (k : Ex → St → Option R) (r : R) (h0 : o_36_3 G_36_3 T k = some r) : evLoopN (evCode sm_36 FU (evFn sm_36 fns FU 0) ir36_b3) (St.norm ir36_v3) FU T k = some r := by
  obtain ⟨p0, p1, p2, p3, rfl, h⟩ := o_36_3_inv h0
  refine evLoopN_L (t := .nil) noO_ok trivial _ _ _ _ ?_
  rw [loop_36_3]
  exact h
theorem OK_36_36_3 {R : Type} (T : St) (k : Ex → St → Option R) (r : R) (h : O_36_36_3 T k = some r) : evLoopN (evCode sm_36 FU (evFn sm_36 fns FU 0) ir36_b3) (St.norm ir36_v3) FU T k = some r := ok_36_3 T k r h
def F_36 (a0 : (List Int)) (a1 : (List Int)) : Option ((List Int) × Unit) :=
  Sp.B_36_0 (Sp.L_36_0 (4611686018427387904 : Nat) a1 (0 : Int) a0 (List.replicate (8 : Nat) (0 : Int)) (List.replicate (64 : Nat) (0 : Int))) fun (y11 y12 y13 : List Int) => Sp.B_36_1 (Sp.L_36_1 (4611686018427387904 : Nat) (16 : Int) y11 y12 y13) fun (y14 y15 y16 : List Int) => gd Sp.p_51 (Sp.B_36_2 (Sp.L_36_2 (4611686018427387904 : Nat) (0 : Int) y14 y15 y16 (Prod.fst Sp.v_51) y14) fun (y17 y18 y19 : List Int) => Sp.B_36_3 (Sp.L_36_3 (4611686018427387904 : Nat) (0 : Int) y17 y18 y19) fun (y20 y21 : List Int) => some (y20, PUnit.unit))
theorem fn_36 (a0 : (List Int)) (a1 : (List Int)) : evFnL sm_36 FU (ovr noO (evFn sm_36 fns FU 0)) (ir36_t O_36_36_0 O_36_36_1 O_36_36_2 O_36_36_3) ir36 (ofH [(.arr 8 (.int .u32)), (.slice (.int .u8))] (a0, a1, ())) [] (pureK [(.arr 8 (.int .u32))]) = F_36 a0 a1 := by kernel_rfl
def Sp.p_36 (a0 : (List Int)) (a1 : (List Int)) : Bool := (F_36 a0 a1).isSome
def Sp.v_36 (a0 : (List Int)) (a1 : (List Int)) : (List Int) × Unit := (F_36 a0 a1).getD (dfH [(.arr 8 (.int .u32))])
def s_36 : Summ := shN [(.arr 8 (.int .u32)), (.slice (.int .u8))] [(.arr 8 (.int .u32))] (fun x => Sp.p_36 x.1 x.2.1) (fun x => Sp.v_36 x.1 x.2.1)
theorem pv_36 (a0 : (List Int)) (a1 : (List Int)) {y : (List Int) × Unit} (h : F_36 a0 a1 = some y) : Sp.p_36 a0 a1 = true ∧ Sp.v_36 a0 a1 = y := ⟨by rw [Sp.p_36, h]; rfl, by rw [Sp.v_36, h]; rfl⟩
theorem run_36 (x : HDen [(.arr 8 (.int .u32)), (.slice (.int .u8))]) (y : HDen [(.arr 8 (.int .u32))]) (h : F_36 x.1 x.2.1 = some y) : evFn sm_36 fns FU 1 36 (ofH [(.arr 8 (.int .u32)), (.slice (.int .u8))] x) [] (pureK [(.arr 8 (.int .u32))]) = some y :=
  evFnL_sound (fn := ir36) (t := (ir36_t O_36_36_0 O_36_36_1 O_36_36_2 O_36_36_3)) (o := noO) rfl noO_ok (ir36_tok (fun T k r => OK_36_36_0 T k r) (fun T k r => OK_36_36_1 T k r) (fun T k r => OK_36_36_2 T k r) (fun T k r => OK_36_36_3 T k r)) ((fn_36 _ _).trans h)
end
end Go.Ev
namespace Go.Ev
open Go
set_option maxRecDepth 100000
set_option maxHeartbeats 4000000
set_option linter.unusedVariables false
noncomputable section

def sm_12 : Nat → Option Summ := fun f => bif Nat.beq f 35 then some s_35 else bif Nat.beq f 36 then some s_36 else none
def T_12_0 (p0 : List Int) (p1 : Int) (p2 : List Int) (p3 : List Int) : St := St.mk [CV.junk, CV.junk, CV.ptr (0 : Nat) [], CV.ptr (1 : Nat) [], CV.pure (Ty.slice (Ty.int IntKind.u8)) p0, CV.int IntKind.i64 p1, CV.junk, CV.junk, CV.junk, CV.junk, CV.junk, CV.junk, CV.junk, CV.junk, CV.junk, CV.junk, CV.junk, CV.junk, CV.junk, CV.junk, CV.junk, CV.junk, CV.junk, CV.junk, CV.junk, CV.junk, CV.junk, CV.junk, CV.junk, CV.junk, CV.junk, CV.junk, CV.junk, CV.junk, CV.junk, CV.junk, CV.junk, CV.junk, CV.junk, CV.junk, CV.junk, CV.junk] [Blk.mem (CV.pure (Ty.arr (32 : Nat) (Ty.int IntKind.u8)) p2), Blk.mem (CV.pure (Ty.arr (8 : Nat) (Ty.int IntKind.u32)) p3)] (0 : Nat)
def X_12_0_0 (p2 : List Int) (p3 : List Int) : St := St.mk [CV.junk, CV.junk, CV.ptr (0 : Nat) [], CV.ptr (1 : Nat) [], CV.junk, CV.junk, CV.junk, CV.junk, CV.junk, CV.junk, CV.junk, CV.junk, CV.junk, CV.junk, CV.junk, CV.junk, CV.junk, CV.junk, CV.junk, CV.junk, CV.junk, CV.junk, CV.junk, CV.junk, CV.junk, CV.junk, CV.junk, CV.junk, CV.junk, CV.junk, CV.junk, CV.junk, CV.junk, CV.junk, CV.junk, CV.junk, CV.junk, CV.junk, CV.junk, CV.junk, CV.junk, CV.junk] [Blk.mem (CV.pure (Ty.arr (32 : Nat) (Ty.int IntKind.u8)) p2), Blk.mem (CV.pure (Ty.arr (8 : Nat) (Ty.int IntKind.u32)) p3)] (0 : Nat)
inductive Sp.E_12_0 where
  | e0 (p2 : List Int) (p3 : List Int)
def Sp.B_12_0 {R : Type} (r : Option Sp.E_12_0) (k0 : (List Int) → (List Int) → Option R) : Option R := match r with
  | none => none
  | some (.e0 p2 p3) => k0 p2 p3
def Sp.L_12_0 : Nat → (List Int) → (Int) → (List Int) → (List Int) → Option Sp.E_12_0
  | 0, _, _, _, _ => none
  | m + 1, p0, p1, p2, p3 => bif decide (p1 < (↑(List.length p0) : Int)) then gd (sl3 p1 (IntKind.wrap IntKind.i64 (p1 + (64 : Int))) (↑(List.length p0) : Int)) (gd (Sp.p_36 p3 (List.take (Int.toNat (IntKind.wrap IntKind.i64 (p1 + (64 : Int))) - Int.toNat p1) (List.drop (Int.toNat p1) p0))) (Sp.L_12_0 m p0 (IntKind.wrap IntKind.i64 (p1 + (64 : Int))) p2 (Prod.fst (Sp.v_36 p3 (List.take (Int.toNat (IntKind.wrap IntKind.i64 (p1 + (64 : Int))) - Int.toNat p1) (List.drop (Int.toNat p1) p0)))))) else some (Sp.E_12_0.e0 p2 p3)
def G_12_0 {R : Type} (p0 : List Int) (p1 : Int) (p2 : List Int) (p3 : List Int) (k : Ex → St → Option R) : Option R := Sp.B_12_0 (Sp.L_12_0 FU p0 p1 p2 p3) (fun p2 p3 => k (Ex.exit (0 : Nat)) (X_12_0_0 p2 p3))
def o_12_0 {R : Type} (G : (List Int) → (Int) → (List Int) → (List Int) → (Ex → St → Option R) → Option R) : St → (Ex → St → Option R) → Option R := fun T k => match T.sl.getD 2 .junk, T.sl.getD 3 .junk, T.sl.getD 4 .junk, T.sl.getD 5 .junk, T.hp with
  | CV.ptr (0 : Nat) [], CV.ptr (1 : Nat) [], CV.pure (Ty.slice (Ty.int IntKind.u8)) p0, CV.int IntKind.i64 p1, ((Blk.mem (CV.pure (Ty.arr (32 : Nat) (Ty.int IntKind.u8)) p2)) :: (Blk.mem (CV.pure (Ty.arr (8 : Nat) (Ty.int IntKind.u32)) p3)) :: []) => gd (shapeOK T 42 [2, 3, 4, 5] (0 : Nat)) (G p0 p1 p2 p3 k)
  | _, _, _, _, _ => none
theorem o_12_0_inv {R : Type} {G : (List Int) → (Int) → (List Int) → (List Int) → (Ex → St → Option R) → Option R} {T : St} {k : Ex → St → Option R} {r : R} (h : o_12_0 G T k = some r) : ∃ p0 p1 p2 p3, T = T_12_0 p0 p1 p2 p3 ∧ G p0 p1 p2 p3 k = some r := by
  unfold o_12_0 at h
  split at h
  · obtain ⟨hs, h'⟩ := gd_some h
    refine ⟨_, _, _, _, (st_of (asg := [(2, _), (3, _), (4, _), (5, _)]) hs ⟨by assumption, by assumption, by assumption, by assumption, trivial⟩ (by assumption)).trans ?_, h'⟩
    kernel_rfl
  · cases h
def T_12_1 (p0 : Int) (p1 : List Int) (p2 : List Int) (p3 : List Int) : St := St.mk [CV.junk, CV.junk, CV.ptr (0 : Nat) [], CV.ptr (1 : Nat) [], CV.junk, CV.junk, CV.ptr (2 : Nat) [], CV.int IntKind.i64 p0, CV.junk, CV.junk, CV.junk, CV.junk, CV.junk, CV.junk, CV.junk, CV.junk, CV.junk, CV.junk, CV.junk, CV.junk, CV.junk, CV.junk, CV.junk, CV.junk, CV.junk, CV.junk, CV.junk, CV.junk, CV.junk, CV.junk, CV.junk, CV.junk, CV.junk, CV.junk, CV.junk, CV.junk, CV.junk, CV.junk, CV.junk, CV.junk, CV.junk, CV.junk] [Blk.mem (CV.pure (Ty.arr (32 : Nat) (Ty.int IntKind.u8)) p1), Blk.mem (CV.pure (Ty.arr (8 : Nat) (Ty.int IntKind.u32)) p2), Blk.mem (CV.pure (Ty.arr (32 : Nat) (Ty.int IntKind.u8)) p3)] (0 : Nat)
def X_12_1_0 (p1 : List Int) (p3 : List Int) : St := St.mk [CV.junk, CV.junk, CV.ptr (0 : Nat) [], CV.junk, CV.junk, CV.junk, CV.ptr (1 : Nat) [], CV.junk, CV.junk, CV.junk, CV.junk, CV.junk, CV.junk, CV.junk, CV.junk, CV.junk, CV.junk, CV.junk, CV.junk, CV.junk, CV.junk, CV.junk, CV.junk, CV.junk, CV.junk, CV.junk, CV.junk, CV.junk, CV.junk, CV.junk, CV.junk, CV.junk, CV.junk, CV.junk, CV.junk, CV.junk, CV.junk, CV.junk, CV.junk, CV.junk, CV.junk, CV.junk] [Blk.mem (CV.pure (Ty.arr (32 : Nat) (Ty.int IntKind.u8)) p1), Blk.mem (CV.pure (Ty.arr (32 : Nat) (Ty.int IntKind.u8)) p3)] (0 : Nat)
inductive Sp.E_12_1 where
  | e0 (p1 : List Int) (p3 : List Int)
def Sp.B_12_1 {R : Type} (r : Option Sp.E_12_1) (k0 : (List Int) → (List Int) → Option R) : Option R := match r with
  | none => none
  | some (.e0 p1 p3) => k0 p1 p3
def Sp.L_12_1 : Nat → (Int) → (List Int) → (List Int) → (List Int) → Option Sp.E_12_1
  | 0, _, _, _, _ => none
  | m + 1, p0, p1, p2, p3 => bif decide (p0 < (32 : Int)) then gd (inB (IntKind.wrap IntKind.i64 (Int.tdiv p0 (4 : Int))) (8 : Nat)) (gd (decide (Int.toNat (IntKind.wrap IntKind.i64 (Int.tdiv p0 (4 : Int))) < (8 : Nat)) && true) (gd (decide ((0 : Int) ≤ IntKind.wrap IntKind.u64 (IntKind.wrap IntKind.i64 ((24 : Int) - IntKind.wrap IntKind.i64 (Int.tmod p0 (4 : Int) * (8 : Int)))))) (gd (inB p0 (32 : Nat)) (gd (decide (Int.toNat p0 < (32 : Nat)) && true) (Sp.L_12_1 m (IntKind.wrap IntKind.i64 (p0 + (1 : Int))) p1 p2 (List.set p3 (Int.toNat p0) (IntKind.wrap IntKind.u8 (Int.fdiv (List.getD p2 (Int.toNat (IntKind.wrap IntKind.i64 (Int.tdiv p0 (4 : Int)))) (0 : Int)) ((2 : Int) ^ Nat.min (Int.toNat (IntKind.wrap IntKind.u64 (IntKind.wrap IntKind.i64 ((24 : Int) - IntKind.wrap IntKind.i64 (Int.tmod p0 (4 : Int) * (8 : Int)))))) (32 : Nat)))))))))) else some (Sp.E_12_1.e0 p1 p3)
def G_12_1 {R : Type} (p0 : Int) (p1 : List Int) (p2 : List Int) (p3 : List Int) (k : Ex → St → Option R) : Option R := Sp.B_12_1 (Sp.L_12_1 FU p0 p1 p2 p3) (fun p1 p3 => k (Ex.exit (2 : Nat)) (X_12_1_0 p1 p3))
def o_12_1 {R : Type} (G : (Int) → (List Int) → (List Int) → (List Int) → (Ex → St → Option R) → Option R) : St → (Ex → St → Option R) → Option R := fun T k => match T.sl.getD 2 .junk, T.sl.getD 3 .junk, T.sl.getD 6 .junk, T.sl.getD 7 .junk, T.hp with
  | CV.ptr (0 : Nat) [], CV.ptr (1 : Nat) [], CV.ptr (2 : Nat) [], CV.int IntKind.i64 p0, ((Blk.mem (CV.pure (Ty.arr (32 : Nat) (Ty.int IntKind.u8)) p1)) :: (Blk.mem (CV.pure (Ty.arr (8 : Nat) (Ty.int IntKind.u32)) p2)) :: (Blk.mem (CV.pure (Ty.arr (32 : Nat) (Ty.int IntKind.u8)) p3)) :: []) => gd (shapeOK T 42 [2, 3, 6, 7] (0 : Nat)) (G p0 p1 p2 p3 k)
  | _, _, _, _, _ => none
theorem o_12_1_inv {R : Type} {G : (Int) → (List Int) → (List Int) → (List Int) → (Ex → St → Option R) → Option R} {T : St} {k : Ex → St → Option R} {r : R} (h : o_12_1 G T k = some r) : ∃ p0 p1 p2 p3, T = T_12_1 p0 p1 p2 p3 ∧ G p0 p1 p2 p3 k = some r := by
  unfold o_12_1 at h
  split at h
  · obtain ⟨hs, h'⟩ := gd_some h
    refine ⟨_, _, _, _, (st_of (asg := [(2, _), (3, _), (6, _), (7, _)]) hs ⟨by assumption, by assumption, by assumption, by assumption, trivial⟩ (by assumption)).trans ?_, h'⟩
    kernel_rfl
  · cases h
def O_12_12_0 {R : Type} : St → (Ex → St → Option R) → Option R := fun T k => o_12_0 G_12_0 T k
def O_12_12_1 {R : Type} : St → (Ex → St → Option R) → Option R := fun T k => o_12_1 G_12_1 T k
theorem body_12_0 {R : Type} (K0 : St → Option R) (K1 : Ex → St → Option R) (p0 : List Int) (p1 : Int) (p2 : List Int) (p3 : List Int) : evLB (evCodeL sm_12 FU (ovr noO (evFn sm_12 fns FU 0)) .nil ir12_b0) (St.norm ir12_v0) (T_12_0 p0 p1 p2 p3) K0 K1 =
  bif decide (p1 < (↑(List.length p0) : Int)) then gd (sl3 p1 (IntKind.wrap IntKind.i64 (p1 + (64 : Int))) (↑(List.length p0) : Int)) (gd (Sp.p_36 p3 (List.take (Int.toNat (IntKind.wrap IntKind.i64 (p1 + (64 : Int))) - Int.toNat p1) (List.drop (Int.toNat p1) p0))) (K0 (T_12_0 p0 (IntKind.wrap IntKind.i64 (p1 + (64 : Int))) p2 (Prod.fst (Sp.v_36 p3 (List.take (Int.toNat (IntKind.wrap IntKind.i64 (p1 + (64 : Int))) - Int.toNat p1) (List.drop (Int.toNat p1) p0))))))) else K1 (Ex.exit (0 : Nat)) (X_12_0_0 p2 p3) := by kernel_rfl
theorem Bgd_12_0 {R : Type} {c : Bool} {x : Option R} {y : Option Sp.E_12_0} {k0 : (List Int) → (List Int) → Option R} (h : x = Sp.B_12_0 y k0) : gd c x = Sp.B_12_0 (gd c y) k0 := by cases c; rfl; exact h
theorem Bcond_12_0 {R : Type} {c : Bool} {x x' : Option R} {y y' : Option Sp.E_12_0} {k0 : (List Int) → (List Int) → Option R} (h : x = Sp.B_12_0 y k0) (h' : x' = Sp.B_12_0 y' k0) : (bif c then x else x') = Sp.B_12_0 (bif c then y else y') k0 := by cases c; exact h'; exact h
theorem loop_12_0 {R : Type} (k : Ex → St → Option R) : ∀ (m : Nat) (p0 : List Int) (p1 : Int) (p2 : List Int) (p3 : List Int), evLoopN (evCodeL sm_12 FU (ovr noO (evFn sm_12 fns FU 0)) .nil ir12_b0) (St.norm ir12_v0) m (T_12_0 p0 p1 p2 p3) k = Sp.B_12_0 (Sp.L_12_0 m p0 p1 p2 p3) (fun p2 p3 => k (Ex.exit (0 : Nat)) (X_12_0_0 p2 p3))
  | 0, _, _, _, _ => rfl
  | m + 1, p0, p1, p2, p3 => by
    rw [evLoopN_succ, body_12_0, Sp.L_12_0]
    repeat' first | apply Bgd_12_0 | apply Bcond_12_0 | exact loop_12_0 k m _ _ _ _ | rfl
theorem ok_12_0 {R : Type} (T : St) (k : Ex → St → Option R) (r : R) (h0 : o_12_0 G_12_0 T k = some r) : evLoopN (evCode sm_12 FU (evFn sm_12 fns FU 0) ir12_b0) (St.norm ir12_v0) FU T k = some r := by
  obtain ⟨p0, p1, p2, p3, rfl, h⟩ := o_12_0_inv h0
  refine evLoopN_L (t := .nil) noO_ok trivial _ _ _ _ ?_
  rw [loop_12_0]
  exact h
theorem OK_12_12_0 {R : Type} (T : St) (k : Ex → St → Option R) (r : R) (h : O_12_12_0 T k = some r) : evLoopN (evCode sm_12 FU (evFn sm_12 fns FU 0) ir12_b0) (St.norm ir12_v0) FU T k = some r := ok_12_0 T k r h
theorem body_12_1 {R : Type} (K0 : St → Option R) (K1 : Ex → St → Option R) (p0 : Int) (p1 : List Int) (p2 : List Int) (p3 : List Int) : evLB (evCodeL sm_12 FU (ovr noO (evFn sm_12 fns FU 0)) .nil ir12_b1) (St.norm ir12_v1) (T_12_1 p0 p1 p2 p3) K0 K1 =
  bif decide (p0 < (32 : Int)) then gd (inB (IntKind.wrap IntKind.i64 (Int.tdiv p0 (4 : Int))) (8 : Nat)) (gd (decide (Int.toNat (IntKind.wrap IntKind.i64 (Int.tdiv p0 (4 : Int))) < (8 : Nat)) && true) (gd (decide ((0 : Int) ≤ IntKind.wrap IntKind.u64 (IntKind.wrap IntKind.i64 ((24 : Int) - IntKind.wrap IntKind.i64 (Int.tmod p0 (4 : Int) * (8 : Int)))))) (gd (inB p0 (32 : Nat)) (gd (decide (Int.toNat p0 < (32 : Nat)) && true) (K0 (T_12_1 (IntKind.wrap IntKind.i64 (p0 + (1 : Int))) p1 p2 (List.set p3 (Int.toNat p0) (IntKind.wrap IntKind.u8 (Int.fdiv (List.getD p2 (Int.toNat (IntKind.wrap IntKind.i64 (Int.tdiv p0 (4 : Int)))) (0 : Int)) ((2 : Int) ^ Nat.min (Int.toNat (IntKind.wrap IntKind.u64 (IntKind.wrap IntKind.i64 ((24 : Int) - IntKind.wrap IntKind.i64 (Int.tmod p0 (4 : Int) * (8 : Int)))))) (32 : Nat))))))))))) else K1 (Ex.exit (2 : Nat)) (X_12_1_0 p1 p3) := by kernel_rfl
theorem Bgd_12_1 {R : Type} {c : Bool} {x : Option R} {y : Option Sp.E_12_1} {k0 : (List Int) → (List Int) → Option R} (h : x = Sp.B_12_1 y k0) : gd c x = Sp.B_12_1 (gd c y) k0 := by cases c; rfl; exact h
theorem Bcond_12_1 {R : Type} {c : Bool} {x x' : Option R} {y y' : Option Sp.E_12_1} {k0 : (List Int) → (List Int) → Option R} (h : x = Sp.B_12_1 y k0) (h' : x' = Sp.B_12_1 y' k0) : (bif c then x else x') = Sp.B_12_1 (bif c then y else y') k0 := by cases c; exact h'; exact h
theorem loop_12_1 {R : Type} (k : Ex → St → Option R) : ∀ (m : Nat) (p0 : Int) (p1 : List Int) (p2 : List Int) (p3 : List Int), evLoopN (evCodeL sm_12 FU (ovr noO (evFn sm_12 fns FU 0)) .nil ir12_b1) (St.norm ir12_v1) m (T_12_1 p0 p1 p2 p3) k = Sp.B_12_1 (Sp.L_12_1 m p0 p1 p2 p3) (fun p1 p3 => k (Ex.exit (2 : Nat)) (X_12_1_0 p1 p3))
  | 0, _, _, _, _ => rfl
  | m + 1, p0, p1, p2, p3 => by
    rw [evLoopN_succ, body_12_1, Sp.L_12_1]
    repeat' first | apply Bgd_12_1 | apply Bcond_12_1 | exact loop_12_1 k m _ _ _ _ | rfl
theorem ok_12_1 {R : Type} (T : St) (k : Ex → St → Option R) (r : R) (h0 : o_12_1 G_12_1 T k = some r) : evLoopN (evCode sm_12 FU (evFn sm_12 fns FU 0) ir12_b1) (St.norm ir12_v1) FU T k = some r := by
  obtain ⟨p0, p1, p2, p3, rfl, h⟩ := o_12_1_inv h0
  refine evLoopN_L (t := .nil) noO_ok trivial _ _ _ _ ?_
  rw [loop_12_1]
  exact h
theorem OK_12_12_1 {R : Type} (T : St) (k : Ex → St → Option R) (r : R) (h : O_12_12_1 T k = some r) : evLoopN (evCode sm_12 FU (evFn sm_12 fns FU 0) ir12_b1) (St.norm ir12_v1) FU T k = some r := ok_12_1 T k r h
def F_12 (a0 : (List Int)) : Option ((List Int) × Unit) :=
  gd (Sp.p_35 a0) (Sp.B_12_0 (Sp.L_12_0 (4611686018427387904 : Nat) (Prod.fst (Sp.v_35 a0)) (0 : Int) (List.replicate (32 : Nat) (0 : Int)) [(1779033703 : Int), (3144134277 : Int), (1013904242 : Int), (2773480762 : Int), (1359893119 : Int), (2600822924 : Int), (528734635 : Int), (1541459225 : Int)]) fun (y4 y5 : List Int) => Sp.B_12_1 (Sp.L_12_1 (4611686018427387904 : Nat) (0 : Int) y4 y5 (List.replicate (32 : Nat) (0 : Int))) fun (y6 y7 : List Int) => some (y7, PUnit.unit))
theorem fn_12 (a0 : (List Int)) : evFnL sm_12 FU (ovr noO (evFn sm_12 fns FU 0)) (ir12_t O_12_12_0 O_12_12_1) ir12 (ofH [(.slice (.int .u8))] (a0, ())) [] (pureK [(.arr 32 (.int .u8))]) = F_12 a0 := by kernel_rfl
def Sp.p_12 (a0 : (List Int)) : Bool := (F_12 a0).isSome
def Sp.v_12 (a0 : (List Int)) : (List Int) × Unit := (F_12 a0).getD (dfH [(.arr 32 (.int .u8))])
def s_12 : Summ := shN [(.slice (.int .u8))] [(.arr 32 (.int .u8))] (fun x => Sp.p_12 x.1) (fun x => Sp.v_12 x.1)
theorem pv_12 (a0 : (List Int)) {y : (List Int) × Unit} (h : F_12 a0 = some y) : Sp.p_12 a0 = true ∧ Sp.v_12 a0 = y := ⟨by rw [Sp.p_12, h]; rfl, by rw [Sp.v_12, h]; rfl⟩
theorem run_12 (x : HDen [(.slice (.int .u8))]) (y : HDen [(.arr 32 (.int .u8))]) (h : F_12 x.1 = some y) : evFn sm_12 fns FU 1 12 (ofH [(.slice (.int .u8))] x) [] (pureK [(.arr 32 (.int .u8))]) = some y :=
  evFnL_sound (fn := ir12) (t := (ir12_t O_12_12_0 O_12_12_1)) (o := noO) rfl noO_ok (ir12_tok (fun T k r => OK_12_12_0 T k r) (fun T k r => OK_12_12_1 T k r)) ((fn_12 _).trans h)
end
end Go.Ev
namespace Go.Ev
open Go
set_option maxRecDepth 100000
set_option maxHeartbeats 4000000
set_option linter.unusedVariables false
noncomputable section

def sm_17 : Nat → Option Summ := fun f => bif Nat.beq f 12 then some s_12 else none
def T_17_0 (p0 : Int) (p1 : Int) (p2 : List Int) (p3 : List Int) : St := St.mk [CV.junk, CV.junk, CV.int IntKind.i64 p0, CV.ptr (0 : Nat) [], CV.junk, CV.junk, CV.ptr (1 : Nat) [], CV.int IntKind.i64 p1, CV.junk, CV.junk, CV.junk, CV.junk, CV.junk, CV.junk, CV.junk, CV.junk, CV.junk, CV.junk, CV.junk, CV.junk, CV.junk] [Blk.mem (CV.pure (Ty.arr (32 : Nat) (Ty.int IntKind.u8)) p2), Blk.mem (CV.pure (Ty.arr (32 : Nat) (Ty.int IntKind.u8)) p3)] (0 : Nat)
def X_17_0_0 (p2 : List Int) (p3 : List Int) : St := St.mk [CV.junk, CV.junk, CV.junk, CV.ptr (0 : Nat) [], CV.junk, CV.junk, CV.ptr (1 : Nat) [], CV.junk, CV.junk, CV.junk, CV.junk, CV.junk, CV.junk, CV.junk, CV.junk, CV.junk, CV.junk, CV.junk, CV.junk, CV.junk, CV.junk] [Blk.mem (CV.pure (Ty.arr (32 : Nat) (Ty.int IntKind.u8)) p2), Blk.mem (CV.pure (Ty.arr (32 : Nat) (Ty.int IntKind.u8)) p3)] (0 : Nat)
inductive Sp.E_17_0 where
  | e0 (p2 : List Int) (p3 : List Int)
def Sp.B_17_0 {R : Type} (r : Option Sp.E_17_0) (k0 : (List Int) → (List Int) → Option R) : Option R := match r with
  | none => none
  | some (.e0 p2 p3) => k0 p2 p3
def Sp.L_17_0 : Nat → (Int) → (Int) → (List Int) → (List Int) → Option Sp.E_17_0
  | 0, _, _, _, _ => none
  | m + 1, p0, p1, p2, p3 => bif decide (p1 < p0) then gd (room ((1 : Nat) + List.length (List.take (32 : Nat) (List.drop (0 : Nat) p2))) (1 : Nat)) (gd (Sp.p_12 ([IntKind.wrap IntKind.u8 p1] ++ List.take (32 : Nat) (List.drop (0 : Nat) p2))) (Sp.L_17_0 m p0 (IntKind.wrap IntKind.i64 (p1 + (1 : Int))) (Prod.fst (Sp.v_12 ([IntKind.wrap IntKind.u8 p1] ++ List.take (32 : Nat) (List.drop (0 : Nat) p2)))) p3)) else some (Sp.E_17_0.e0 p2 p3)
def G_17_0 {R : Type} (p0 : Int) (p1 : Int) (p2 : List Int) (p3 : List Int) (k : Ex → St → Option R) : Option R := Sp.B_17_0 (Sp.L_17_0 FU p0 p1 p2 p3) (fun p2 p3 => k (Ex.exit (0 : Nat)) (X_17_0_0 p2 p3))
def o_17_0 {R : Type} (G : (Int) → (Int) → (List Int) → (List Int) → (Ex → St → Option R) → Option R) : St → (Ex → St → Option R) → Option R := fun T k => match T.sl.getD 2 .junk, T.sl.getD 3 .junk, T.sl.getD 6 .junk, T.sl.getD 7 .junk, T.hp with
  | CV.int IntKind.i64 p0, CV.ptr (0 : Nat) [], CV.ptr (1 : Nat) [], CV.int IntKind.i64 p1, ((Blk.mem (CV.pure (Ty.arr (32 : Nat) (Ty.int IntKind.u8)) p2)) :: (Blk.mem (CV.pure (Ty.arr (32 : Nat) (Ty.int IntKind.u8)) p3)) :: []) => gd (shapeOK T 21 [2, 3, 6, 7] (0 : Nat)) (G p0 p1 p2 p3 k)
  | _, _, _, _, _ => none
theorem o_17_0_inv {R : Type} {G : (Int) → (Int) → (List Int) → (List Int) → (Ex → St → Option R) → Option R} {T : St} {k : Ex → St → Option R} {r : R} (h : o_17_0 G T k = some r) : ∃ p0 p1 p2 p3, T = T_17_0 p0 p1 p2 p3 ∧ G p0 p1 p2 p3 k = some r := by
  unfold o_17_0 at h
  split at h
  · obtain ⟨hs, h'⟩ := gd_some h
    refine ⟨_, _, _, _, (st_of (asg := [(2, _), (3, _), (6, _), (7, _)]) hs ⟨by assumption, by assumption, by assumption, by assumption, trivial⟩ (by assumption)).trans ?_, h'⟩
    kernel_rfl
  · cases h
def O_17_17_0 {R : Type} : St → (Ex → St → Option R) → Option R := fun T k => o_17_0 G_17_0 T k
theorem body_17_0 {R : Type} (K0 : St → Option R) (K1 : Ex → St → Option R) (p0 : Int) (p1 : Int) (p2 : List Int) (p3 : List Int) : evLB (evCodeL sm_17 FU (ovr noO (evFn sm_17 fns FU 0)) .nil ir17_b0) (St.norm ir17_v0) (T_17_0 p0 p1 p2 p3) K0 K1 =
  bif decide (p1 < p0) then gd (room ((1 : Nat) + List.length (List.take (32 : Nat) (List.drop (0 : Nat) p2))) (1 : Nat)) (gd (Sp.p_12 ([IntKind.wrap IntKind.u8 p1] ++ List.take (32 : Nat) (List.drop (0 : Nat) p2))) (K0 (T_17_0 p0 (IntKind.wrap IntKind.i64 (p1 + (1 : Int))) (Prod.fst (Sp.v_12 ([IntKind.wrap IntKind.u8 p1] ++ List.take (32 : Nat) (List.drop (0 : Nat) p2)))) p3))) else K1 (Ex.exit (0 : Nat)) (X_17_0_0 p2 p3) := by kernel_rfl
theorem Bgd_17_0 {R : Type} {c : Bool} {x : Option R} {y : Option Sp.E_17_0} {k0 : (List Int) → (List Int) → Option R} (h : x = Sp.B_17_0 y k0) : gd c x = Sp.B_17_0 (gd c y) k0 := by cases c; rfl; exact h
theorem Bcond_17_0 {R : Type} {c : Bool} {x x' : Option R} {y y' : Option Sp.E_17_0} {k0 : (List Int) → (List Int) → Option R} (h : x = Sp.B_17_0 y k0) (h' : x' = Sp.B_17_0 y' k0) : (bif c then x else x') = Sp.B_17_0 (bif c then y else y') k0 := by cases c; exact h'; exact h
theorem loop_17_0 {R : Type} (k : Ex → St → Option R) : ∀ (m : Nat) (p0 : Int) (p1 : Int) (p2 : List Int) (p3 : List Int), evLoopN (evCodeL sm_17 FU (ovr noO (evFn sm_17 fns FU 0)) .nil ir17_b0) (St.norm ir17_v0) m (T_17_0 p0 p1 p2 p3) k = Sp.B_17_0 (Sp.L_17_0 m p0 p1 p2 p3) (fun p2 p3 => k (Ex.exit (0 : Nat)) (X_17_0_0 p2 p3))
  | 0, _, _, _, _ => rfl
  | m + 1, p0, p1, p2, p3 => by
    rw [evLoopN_succ, body_17_0, Sp.L_17_0]
    repeat' first | apply Bgd_17_0 | apply Bcond_17_0 | exact loop_17_0 k m _ _ _ _ | rfl
theorem ok_17_0 {R : Type} (T : St) (k : Ex → St → Option R) (r : R) (h0 : o_17_0 G_17_0 T k = some r) : evLoopN (evCode sm_17 FU (evFn sm_17 fns FU 0) ir17_b0) (St.norm ir17_v0) FU T k = some r := by
  obtain ⟨p0, p1, p2, p3, rfl, h⟩ := o_17_0_inv h0
  refine evLoopN_L (t := .nil) noO_ok trivial _ _ _ _ ?_
  rw [loop_17_0]
  exact h
theorem OK_17_17_0 {R : Type} (T : St) (k : Ex → St → Option R) (r : R) (h : O_17_17_0 T k = some r) : evLoopN (evCode sm_17 FU (evFn sm_17 fns FU 0) ir17_b0) (St.norm ir17_v0) FU T k = some r := ok_17_0 T k r h
def F_17 (a0 : (List Int)) (a1 : Int) (a2 : Int) : Option ((List Int) × Unit) :=
  Sp.B_17_0 (Sp.L_17_0 (4611686018427387904 : Nat) a2 a1 a0 (List.replicate (32 : Nat) (0 : Int))) fun (y2 y3 : List Int) => some (y2, PUnit.unit)
theorem fn_17 (a0 : (List Int)) (a1 : Int) (a2 : Int) : evFnL sm_17 FU (ovr noO (evFn sm_17 fns FU 0)) (ir17_t O_17_17_0) ir17 (ofH [(.arr 32 (.int .u8)), (.int .i64), (.int .i64)] (a0, a1, a2, ())) [] (pureK [(.arr 32 (.int .u8))]) = F_17 a0 a1 a2 := by kernel_rfl
def Sp.p_17 (a0 : (List Int)) (a1 : Int) (a2 : Int) : Bool := (F_17 a0 a1 a2).isSome
def Sp.v_17 (a0 : (List Int)) (a1 : Int) (a2 : Int) : (List Int) × Unit := (F_17 a0 a1 a2).getD (dfH [(.arr 32 (.int .u8))])
def s_17 : Summ := shN [(.arr 32 (.int .u8)), (.int .i64), (.int .i64)] [(.arr 32 (.int .u8))] (fun x => Sp.p_17 x.1 x.2.1 x.2.2.1) (fun x => Sp.v_17 x.1 x.2.1 x.2.2.1)
theorem pv_17 (a0 : (List Int)) (a1 : Int) (a2 : Int) {y : (List Int) × Unit} (h : F_17 a0 a1 a2 = some y) : Sp.p_17 a0 a1 a2 = true ∧ Sp.v_17 a0 a1 a2 = y := ⟨by rw [Sp.p_17, h]; rfl, by rw [Sp.v_17, h]; rfl⟩
theorem run_17 (x : HDen [(.arr 32 (.int .u8)), (.int .i64), (.int .i64)]) (y : HDen [(.arr 32 (.int .u8))]) (h : F_17 x.1 x.2.1 x.2.2.1 = some y) : evFn sm_17 fns FU 1 17 (ofH [(.arr 32 (.int .u8)), (.int .i64), (.int .i64)] x) [] (pureK [(.arr 32 (.int .u8))]) = some y :=
  evFnL_sound (fn := ir17) (t := (ir17_t O_17_17_0)) (o := noO) rfl noO_ok (ir17_tok (fun T k r => OK_17_17_0 T k r)) ((fn_17 _ _ _).trans h)
end
end Go.Ev
namespace Go.Ev
open Go
set_option maxRecDepth 100000
set_option maxHeartbeats 4000000
set_option linter.unusedVariables false
noncomputable section

def sm_26 : Nat → Option Summ := fun f => none


def F_26 (a0 : (Int × ((List (List Int)) × ((List (List Int)) × Unit)))) : Option (Bool × Unit) :=
  bif decide (Prod.fst a0 ≥ (0 : Int)) then bif decide (Prod.fst a0 ≤ (3 : Int)) then bif (↑(List.length (Prod.fst (Prod.snd a0))) : Int) == (67 : Int) then some ((↑(List.length (Prod.fst (Prod.snd (Prod.snd a0)))) : Int) == (2 : Int), PUnit.unit) else some (false, PUnit.unit) else some (false, PUnit.unit) else some (false, PUnit.unit)
theorem fn_26 (a0 : (Int × ((List (List Int)) × ((List (List Int)) × Unit)))) : evFnL sm_26 FU (ovr noO (evFn sm_26 fns FU 0)) .nil ir26 (ofH [(.pair (.int .i64) (.pair (.slice (.arr 32 (.int .u8))) (.pair (.slice (.arr 32 (.int .u8))) .unit)))] (a0, ())) [] (pureK [.bool]) = F_26 a0 := by kernel_rfl
def Sp.p_26 (a0 : (Int × ((List (List Int)) × ((List (List Int)) × Unit)))) : Bool := (F_26 a0).isSome
def Sp.v_26 (a0 : (Int × ((List (List Int)) × ((List (List Int)) × Unit)))) : Bool × Unit := (F_26 a0).getD (dfH [.bool])
def s_26 : Summ := shN [(.pair (.int .i64) (.pair (.slice (.arr 32 (.int .u8))) (.pair (.slice (.arr 32 (.int .u8))) .unit)))] [.bool] (fun x => Sp.p_26 x.1) (fun x => Sp.v_26 x.1)
theorem pv_26 (a0 : (Int × ((List (List Int)) × ((List (List Int)) × Unit)))) {y : Bool × Unit} (h : F_26 a0 = some y) : Sp.p_26 a0 = true ∧ Sp.v_26 a0 = y := ⟨by rw [Sp.p_26, h]; rfl, by rw [Sp.v_26, h]; rfl⟩
theorem run_26 (x : HDen [(.pair (.int .i64) (.pair (.slice (.arr 32 (.int .u8))) (.pair (.slice (.arr 32 (.int .u8))) .unit)))]) (y : HDen [.bool]) (h : F_26 x.1 = some y) : evFn sm_26 fns FU 1 26 (ofH [(.pair (.int .i64) (.pair (.slice (.arr 32 (.int .u8))) (.pair (.slice (.arr 32 (.int .u8))) .unit)))] x) [] (pureK [.bool]) = some y :=
  evFnL_sound (fn := ir26) (t := .nil) (o := noO) rfl noO_ok trivial ((fn_26 _).trans h)
end
end Go.Ev
namespace Go.Ev
open Go
set_option maxRecDepth 100000
set_option maxHeartbeats 4000000
set_option linter.unusedVariables false
noncomputable section

def sm_41 : Nat → Option Summ := fun f => bif Nat.beq f 12 then some s_12 else none
def T_41_0 (p0 : List (List Int)) (p1 : Int) (p2 : List Int) (p3 : List Int) : St := St.mk [CV.pure (Ty.slice (Ty.arr (32 : Nat) (Ty.int IntKind.u8))) p0, CV.junk, CV.ptr (0 : Nat) [], CV.whole (1 : Nat), CV.int IntKind.i64 p1, CV.junk, CV.junk, CV.junk, CV.junk, CV.junk, CV.junk, CV.junk, CV.junk, CV.junk, CV.junk, CV.junk, CV.junk, CV.junk, CV.junk] [Blk.mem (CV.pure (Ty.arr (32 : Nat) (Ty.int IntKind.u8)) p2), Blk.vec (5 : Nat) (Ty.int IntKind.u8) p3] (0 : Nat)
def X_41_0_0 (p2 : List Int) (p3 : List Int) : St := St.mk [CV.junk, CV.junk, CV.ptr (0 : Nat) [], CV.whole (1 : Nat), CV.junk, CV.junk, CV.junk, CV.junk, CV.junk, CV.junk, CV.junk, CV.junk, CV.junk, CV.junk, CV.junk, CV.junk, CV.junk, CV.junk, CV.junk] [Blk.mem (CV.pure (Ty.arr (32 : Nat) (Ty.int IntKind.u8)) p2), Blk.vec (5 : Nat) (Ty.int IntKind.u8) p3] (0 : Nat)
inductive Sp.E_41_0 where
  | e0 (p2 : List Int) (p3 : List Int)
def Sp.B_41_0 {R : Type} (r : Option Sp.E_41_0) (k0 : (List Int) → (List Int) → Option R) : Option R := match r with
  | none => none
  | some (.e0 p2 p3) => k0 p2 p3
def Sp.L_41_0 : Nat → (List (List Int)) → (Int) → (List Int) → (List Int) → Option Sp.E_41_0
  | 0, _, _, _, _ => none
  | m + 1, p0, p1, p2, p3 => bif decide (p1 < (↑(List.length p0) : Int)) then gd (inB p1 (List.length p0)) (gd (room (List.length p3 + List.length (List.take (32 : Nat) (List.drop (0 : Nat) (List.getD p0 (Int.toNat p1) (Ty.dflt (Ty.arr (32 : Nat) (Ty.int IntKind.u8))))))) (1 : Nat)) (Sp.L_41_0 m p0 (IntKind.wrap IntKind.i64 (p1 + (1 : Int))) p2 (p3 ++ List.take (32 : Nat) (List.drop (0 : Nat) (List.getD p0 (Int.toNat p1) (Ty.dflt (Ty.arr (32 : Nat) (Ty.int IntKind.u8)))))))) else some (Sp.E_41_0.e0 p2 p3)
def G_41_0 {R : Type} (p0 : List (List Int)) (p1 : Int) (p2 : List Int) (p3 : List Int) (k : Ex → St → Option R) : Option R := Sp.B_41_0 (Sp.L_41_0 FU p0 p1 p2 p3) (fun p2 p3 => k (Ex.exit (0 : Nat)) (X_41_0_0 p2 p3))
def o_41_0 {R : Type} (G : (List (List Int)) → (Int) → (List Int) → (List Int) → (Ex → St → Option R) → Option R) : St → (Ex → St → Option R) → Option R := fun T k => match T.sl.getD 0 .junk, T.sl.getD 2 .junk, T.sl.getD 3 .junk, T.sl.getD 4 .junk, T.hp with
  | CV.pure (Ty.slice (Ty.arr (32 : Nat) (Ty.int IntKind.u8))) p0, CV.ptr (0 : Nat) [], CV.whole (1 : Nat), CV.int IntKind.i64 p1, ((Blk.mem (CV.pure (Ty.arr (32 : Nat) (Ty.int IntKind.u8)) p2)) :: (Blk.vec (5 : Nat) (Ty.int IntKind.u8) p3) :: []) => gd (shapeOK T 19 [0, 2, 3, 4] (0 : Nat)) (G p0 p1 p2 p3 k)
  | _, _, _, _, _ => none
theorem o_41_0_inv {R : Type} {G : (List (List Int)) → (Int) → (List Int) → (List Int) → (Ex → St → Option R) → Option R} {T : St} {k : Ex → St → Option R} {r : R} (h : o_41_0 G T k = some r) : ∃ p0 p1 p2 p3, T = T_41_0 p0 p1 p2 p3 ∧ G p0 p1 p2 p3 k = some r := by
  unfold o_41_0 at h
  split at h
  · obtain ⟨hs, h'⟩ := gd_some h
    refine ⟨_, _, _, _, (st_of (asg := [(0, _), (2, _), (3, _), (4, _)]) hs ⟨by assumption, by assumption, by assumption, by assumption, trivial⟩ (by assumption)).trans ?_, h'⟩
    kernel_rfl
  · cases h
def O_41_41_0 {R : Type} : St → (Ex → St → Option R) → Option R := fun T k => o_41_0 G_41_0 T k
theorem body_41_0 {R : Type} (K0 : St → Option R) (K1 : Ex → St → Option R) (p0 : List (List Int)) (p1 : Int) (p2 : List Int) (p3 : List Int) : evLB (evCodeL sm_41 FU (ovr noO (evFn sm_41 fns FU 0)) .nil ir41_b0) (St.norm ir41_v0) (T_41_0 p0 p1 p2 p3) K0 K1 =
  bif decide (p1 < (↑(List.length p0) : Int)) then gd (inB p1 (List.length p0)) (gd (room (List.length p3 + List.length (List.take (32 : Nat) (List.drop (0 : Nat) (List.getD p0 (Int.toNat p1) (Ty.dflt (Ty.arr (32 : Nat) (Ty.int IntKind.u8))))))) (1 : Nat)) (K0 (T_41_0 p0 (IntKind.wrap IntKind.i64 (p1 + (1 : Int))) p2 (p3 ++ List.take (32 : Nat) (List.drop (0 : Nat) (List.getD p0 (Int.toNat p1) (Ty.dflt (Ty.arr (32 : Nat) (Ty.int IntKind.u8))))))))) else K1 (Ex.exit (0 : Nat)) (X_41_0_0 p2 p3) := by kernel_rfl
theorem Bgd_41_0 {R : Type} {c : Bool} {x : Option R} {y : Option Sp.E_41_0} {k0 : (List Int) → (List Int) → Option R} (h : x = Sp.B_41_0 y k0) : gd c x = Sp.B_41_0 (gd c y) k0 := by cases c; rfl; exact h
theorem Bcond_41_0 {R : Type} {c : Bool} {x x' : Option R} {y y' : Option Sp.E_41_0} {k0 : (List Int) → (List Int) → Option R} (h : x = Sp.B_41_0 y k0) (h' : x' = Sp.B_41_0 y' k0) : (bif c then x else x') = Sp.B_41_0 (bif c then y else y') k0 := by cases c; exact h'; exact h
theorem loop_41_0 {R : Type} (k : Ex → St → Option R) : ∀ (m : Nat) (p0 : List (List Int)) (p1 : Int) (p2 : List Int) (p3 : List Int), evLoopN (evCodeL sm_41 FU (ovr noO (evFn sm_41 fns FU 0)) .nil ir41_b0) (St.norm ir41_v0) m (T_41_0 p0 p1 p2 p3) k = Sp.B_41_0 (Sp.L_41_0 m p0 p1 p2 p3) (fun p2 p3 => k (Ex.exit (0 : Nat)) (X_41_0_0 p2 p3))
  | 0, _, _, _, _ => rfl
  | m + 1, p0, p1, p2, p3 => by
    rw [evLoopN_succ, body_41_0, Sp.L_41_0]
    repeat' first | apply Bgd_41_0 | apply Bcond_41_0 | exact loop_41_0 k m _ _ _ _ | rfl
theorem ok_41_0 {R : Type} (T : St) (k : Ex → St → Option R) (r : R) (h0 : o_41_0 G_41_0 T k = some r) : evLoopN (evCode sm_41 FU (evFn sm_41 fns FU 0) ir41_b0) (St.norm ir41_v0) FU T k = some r := by
  obtain ⟨p0, p1, p2, p3, rfl, h⟩ := o_41_0_inv h0
  refine evLoopN_L (t := .nil) noO_ok trivial _ _ _ _ ?_
  rw [loop_41_0]
  exact h
theorem OK_41_41_0 {R : Type} (T : St) (k : Ex → St → Option R) (r : R) (h : O_41_41_0 T k = some r) : evLoopN (evCode sm_41 FU (evFn sm_41 fns FU 0) ir41_b0) (St.norm ir41_v0) FU T k = some r := ok_41_0 T k r h
def F_41 (a0 : (List (List Int))) : Option ((List Int) × Unit) :=
  Sp.B_41_0 (Sp.L_41_0 (4611686018427387904 : Nat) a0 (0 : Int) (List.replicate (32 : Nat) (0 : Int)) []) fun (y2 y3 : List Int) => gd (Sp.p_12 y3) (some (Prod.fst (Sp.v_12 y3), PUnit.unit))
theorem fn_41 (a0 : (List (List Int))) : evFnL sm_41 FU (ovr noO (evFn sm_41 fns FU 0)) (ir41_t O_41_41_0) ir41 (ofH [(.slice (.arr 32 (.int .u8)))] (a0, ())) [] (pureK [(.arr 32 (.int .u8))]) = F_41 a0 := by kernel_rfl
def Sp.p_41 (a0 : (List (List Int))) : Bool := (F_41 a0).isSome
def Sp.v_41 (a0 : (List (List Int))) : (List Int) × Unit := (F_41 a0).getD (dfH [(.arr 32 (.int .u8))])
def s_41 : Summ := shN [(.slice (.arr 32 (.int .u8)))] [(.arr 32 (.int .u8))] (fun x => Sp.p_41 x.1) (fun x => Sp.v_41 x.1)
theorem pv_41 (a0 : (List (List Int))) {y : (List Int) × Unit} (h : F_41 a0 = some y) : Sp.p_41 a0 = true ∧ Sp.v_41 a0 = y := ⟨by rw [Sp.p_41, h]; rfl, by rw [Sp.v_41, h]; rfl⟩
theorem run_41 (x : HDen [(.slice (.arr 32 (.int .u8)))]) (y : HDen [(.arr 32 (.int .u8))]) (h : F_41 x.1 = some y) : evFn sm_41 fns FU 1 41 (ofH [(.slice (.arr 32 (.int .u8)))] x) [] (pureK [(.arr 32 (.int .u8))]) = some y :=
  evFnL_sound (fn := ir41) (t := (ir41_t O_41_41_0)) (o := noO) rfl noO_ok (ir41_tok (fun T k r => OK_41_41_0 T k r)) ((fn_41 _).trans h)
end
end Go.Ev
namespace Go.Ev
open Go
set_option maxRecDepth 100000
set_option maxHeartbeats 4000000
set_option linter.unusedVariables false
noncomputable section

def sm_42 : Nat → Option Summ := fun f => bif Nat.beq f 12 then some s_12 else none


def F_42 (a0 : (List Int)) (a1 : (List Int)) : Option ((List Int) × Unit) :=
  gd (room ((1 : Nat) + List.length (List.take (32 : Nat) (List.drop (0 : Nat) a0))) (1 : Nat)) (gd (room (List.length ([(255 : Int)] ++ List.take (32 : Nat) (List.drop (0 : Nat) a0)) + List.length (List.take (32 : Nat) (List.drop (0 : Nat) a1))) (1 : Nat)) (gd (Sp.p_12 ([(255 : Int)] ++ List.take (32 : Nat) (List.drop (0 : Nat) a0) ++ List.take (32 : Nat) (List.drop (0 : Nat) a1))) (some (Prod.fst (Sp.v_12 ([(255 : Int)] ++ List.take (32 : Nat) (List.drop (0 : Nat) a0) ++ List.take (32 : Nat) (List.drop (0 : Nat) a1))), PUnit.unit))))
theorem fn_42 (a0 : (List Int)) (a1 : (List Int)) : evFnL sm_42 FU (ovr noO (evFn sm_42 fns FU 0)) .nil ir42 (ofH [(.arr 32 (.int .u8)), (.arr 32 (.int .u8))] (a0, a1, ())) [] (pureK [(.arr 32 (.int .u8))]) = F_42 a0 a1 := by kernel_rfl
def Sp.p_42 (a0 : (List Int)) (a1 : (List Int)) : Bool := (F_42 a0 a1).isSome
def Sp.v_42 (a0 : (List Int)) (a1 : (List Int)) : (List Int) × Unit := (F_42 a0 a1).getD (dfH [(.arr 32 (.int .u8))])
def s_42 : Summ := shN [(.arr 32 (.int .u8)), (.arr 32 (.int .u8))] [(.arr 32 (.int .u8))] (fun x => Sp.p_42 x.1 x.2.1) (fun x => Sp.v_42 x.1 x.2.1)
theorem pv_42 (a0 : (List Int)) (a1 : (List Int)) {y : (List Int) × Unit} (h : F_42 a0 a1 = some y) : Sp.p_42 a0 a1 = true ∧ Sp.v_42 a0 a1 = y := ⟨by rw [Sp.p_42, h]; rfl, by rw [Sp.v_42, h]; rfl⟩
theorem run_42 (x : HDen [(.arr 32 (.int .u8)), (.arr 32 (.int .u8))]) (y : HDen [(.arr 32 (.int .u8))]) (h : F_42 x.1 x.2.1 = some y) : evFn sm_42 fns FU 1 42 (ofH [(.arr 32 (.int .u8)), (.arr 32 (.int .u8))] x) [] (pureK [(.arr 32 (.int .u8))]) = some y :=
  evFnL_sound (fn := ir42) (t := .nil) (o := noO) rfl noO_ok trivial ((fn_42 _ _).trans h)
end
end Go.Ev
namespace Go.Ev
open Go
set_option maxRecDepth 100000
set_option maxHeartbeats 4000000
set_option linter.unusedVariables false
noncomputable section

def sm_19 : Nat → Option Summ := fun f => bif Nat.beq f 15 then some s_15 else bif Nat.beq f 17 then some s_17 else bif Nat.beq f 26 then some s_26 else bif Nat.beq f 41 then some s_41 else bif Nat.beq f 42 then some s_42 else none
def T_19_0 (p0 : List Int) (p1 : Int) (p2 : List Int) (p3 : Int × List (List Int) × List (List Int) × PUnit) (p4 : List (List Int)) : St := St.mk [CV.junk, CV.junk, CV.junk, CV.ptr (0 : Nat) [], CV.junk, CV.ptr (1 : Nat) [], CV.junk, CV.pure (Ty.slice (Ty.int IntKind.i64)) p0, CV.whole (2 : Nat), CV.int IntKind.i64 p1, CV.junk, CV.junk, CV.junk, CV.junk, CV.junk, CV.junk, CV.junk, CV.junk, CV.junk, CV.junk, CV.junk, CV.junk, CV.junk, CV.junk, CV.junk, CV.junk, CV.junk, CV.junk, CV.junk, CV.junk, CV.junk, CV.junk, CV.junk, CV.junk, CV.junk, CV.junk, CV.junk, CV.junk, CV.junk, CV.junk, CV.junk, CV.junk, CV.junk, CV.junk, CV.junk, CV.junk, CV.junk, CV.junk, CV.junk, CV.junk, CV.junk, CV.junk, CV.junk, CV.junk, CV.junk, CV.junk, CV.junk, CV.junk, CV.junk, CV.junk, CV.junk, CV.junk, CV.junk, CV.junk, CV.junk, CV.junk, CV.junk, CV.junk, CV.junk, CV.junk] [Blk.mem (CV.pure (Ty.arr (32 : Nat) (Ty.int IntKind.u8)) p2), Blk.mem (CV.pure (Ty.pair (Ty.int IntKind.i64) (Ty.pair (Ty.slice (Ty.arr (32 : Nat) (Ty.int IntKind.u8))) (Ty.pair (Ty.slice (Ty.arr (32 : Nat) (Ty.int IntKind.u8))) Ty.unit))) p3), Blk.vec (25 : Nat) (Ty.arr (32 : Nat) (Ty.int IntKind.u8)) p4] (0 : Nat)
def X_19_0_0 (p2 : List Int) (p3 : Int × List (List Int) × List (List Int) × PUnit) (p4 : List (List Int)) : St := St.mk [CV.junk, CV.junk, CV.junk, CV.ptr (0 : Nat) [], CV.junk, CV.ptr (1 : Nat) [], CV.junk, CV.junk, CV.whole (2 : Nat), CV.junk, CV.junk, CV.junk, CV.junk, CV.junk, CV.junk, CV.junk, CV.junk, CV.junk, CV.junk, CV.junk, CV.junk, CV.junk, CV.junk, CV.junk, CV.junk, CV.junk, CV.junk, CV.junk, CV.junk, CV.junk, CV.junk, CV.junk, CV.junk, CV.junk, CV.junk, CV.junk, CV.junk, CV.junk, CV.junk, CV.junk, CV.junk, CV.junk, CV.junk, CV.junk, CV.junk, CV.junk, CV.junk, CV.junk, CV.junk, CV.junk, CV.junk, CV.junk, CV.junk, CV.junk, CV.junk, CV.junk, CV.junk, CV.junk, CV.junk, CV.junk, CV.junk, CV.junk, CV.junk, CV.junk, CV.junk, CV.junk, CV.junk, CV.junk, CV.junk, CV.junk] [Blk.mem (CV.pure (Ty.arr (32 : Nat) (Ty.int IntKind.u8)) p2), Blk.mem (CV.pure (Ty.pair (Ty.int IntKind.i64) (Ty.pair (Ty.slice (Ty.arr (32 : Nat) (Ty.int IntKind.u8))) (Ty.pair (Ty.slice (Ty.arr (32 : Nat) (Ty.int IntKind.u8))) Ty.unit))) p3), Blk.vec (25 : Nat) (Ty.arr (32 : Nat) (Ty.int IntKind.u8)) p4] (0 : Nat)
inductive Sp.E_19_0 where
  | e0 (p2 : List Int) (p3 : Int × List (List Int) × List (List Int) × PUnit) (p4 : List (List Int))
def Sp.B_19_0 {R : Type} (r : Option Sp.E_19_0) (k0 : (List Int) → (Int × List (List Int) × List (List Int) × PUnit) → (List (List Int)) → Option R) : Option R := match r with
  | none => none
  | some (.e0 p2 p3 p4) => k0 p2 p3 p4
def Sp.L_19_0 : Nat → (List Int) → (Int) → (List Int) → (Int × List (List Int) × List (List Int) × PUnit) → (List (List Int)) → Option Sp.E_19_0
  | 0, _, _, _, _, _ => none
  | m + 1, p0, p1, p2, p3, p4 => bif decide (p1 < (67 : Int)) then gd (inB p1 (List.length (Prod.fst (Prod.snd p3)))) (gd (inB p1 (List.length p0)) (gd (Sp.p_17 (List.getD (Prod.fst (Prod.snd p3)) (Int.toNat p1) (Ty.dflt (Ty.arr (32 : Nat) (Ty.int IntKind.u8)))) (List.getD p0 (Int.toNat p1) (0 : Int)) (15 : Int)) (gd (room (List.length p4 + (1 : Nat)) (32 : Nat)) (Sp.L_19_0 m p0 (IntKind.wrap IntKind.i64 (p1 + (1 : Int))) p2 p3 (p4 ++ [Prod.fst (Sp.v_17 (List.getD (Prod.fst (Prod.snd p3)) (Int.toNat p1) (Ty.dflt (Ty.arr (32 : Nat) (Ty.int IntKind.u8)))) (List.getD p0 (Int.toNat p1) (0 : Int)) (15 : Int))]))))) else some (Sp.E_19_0.e0 p2 p3 p4)
def G_19_0 {R : Type} (p0 : List Int) (p1 : Int) (p2 : List Int) (p3 : Int × List (List Int) × List (List Int) × PUnit) (p4 : List (List Int)) (k : Ex → St → Option R) : Option R := Sp.B_19_0 (Sp.L_19_0 FU p0 p1 p2 p3 p4) (fun p2 p3 p4 => k (Ex.exit (0 : Nat)) (X_19_0_0 p2 p3 p4))
def o_19_0 {R : Type} (G : (List Int) → (Int) → (List Int) → (Int × List (List Int) × List (List Int) × PUnit) → (List (List Int)) → (Ex → St → Option R) → Option R) : St → (Ex → St → Option R) → Option R := fun T k => match T.sl.getD 3 .junk, T.sl.getD 5 .junk, T.sl.getD 7 .junk, T.sl.getD 8 .junk, T.sl.getD 9 .junk, T.hp with
  | CV.ptr (0 : Nat) [], CV.ptr (1 : Nat) [], CV.pure (Ty.slice (Ty.int IntKind.i64)) p0, CV.whole (2 : Nat), CV.int IntKind.i64 p1, ((Blk.mem (CV.pure (Ty.arr (32 : Nat) (Ty.int IntKind.u8)) p2)) :: (Blk.mem (CV.pure (Ty.pair (Ty.int IntKind.i64) (Ty.pair (Ty.slice (Ty.arr (32 : Nat) (Ty.int IntKind.u8))) (Ty.pair (Ty.slice (Ty.arr (32 : Nat) (Ty.int IntKind.u8))) Ty.unit))) p3)) :: (Blk.vec (25 : Nat) (Ty.arr (32 : Nat) (Ty.int IntKind.u8)) p4) :: []) => gd (shapeOK T 70 [3, 5, 7, 8, 9] (0 : Nat)) (G p0 p1 p2 p3 p4 k)
  | _, _, _, _, _, _ => none
theorem o_19_0_inv {R : Type} {G : (List Int) → (Int) → (List Int) → (Int × List (List Int) × List (List Int) × PUnit) → (List (List Int)) → (Ex → St → Option R) → Option R} {T : St} {k : Ex → St → Option R} {r : R} (h : o_19_0 G T k = some r) : ∃ p0 p1 p2 p3 p4, T = T_19_0 p0 p1 p2 p3 p4 ∧ G p0 p1 p2 p3 p4 k = some r := by
  unfold o_19_0 at h
  split at h
  · obtain ⟨hs, h'⟩ := gd_some h
    refine ⟨_, _, _, _, _, (st_of (asg := [(3, _), (5, _), (7, _), (8, _), (9, _)]) hs ⟨by assumption, by assumption, by assumption, by assumption, by assumption, trivial⟩ (by assumption)).trans ?_, h'⟩
    kernel_rfl
  · cases h
def T_19_1 (p0 : List Int) (p1 : Int × List (List Int) × List (List Int) × PUnit) (p2 : List Int) : St := St.mk [CV.junk, CV.junk, CV.junk, CV.ptr (0 : Nat) [], CV.junk, CV.ptr (1 : Nat) [], CV.junk, CV.junk, CV.junk, CV.junk, CV.ptr (2 : Nat) [], CV.junk, CV.junk, CV.junk, CV.junk, CV.junk, CV.junk, CV.junk, CV.junk, CV.junk, CV.junk, CV.junk, CV.junk, CV.junk, CV.junk, CV.junk, CV.junk, CV.junk, CV.junk, CV.junk, CV.junk, CV.junk, CV.junk, CV.junk, CV.junk, CV.junk, CV.junk, CV.junk, CV.junk, CV.junk, CV.junk, CV.junk, CV.junk, CV.junk, CV.junk, CV.junk, CV.junk, CV.junk, CV.junk, CV.junk, CV.junk, CV.junk, CV.junk, CV.junk, CV.junk, CV.junk, CV.junk, CV.junk, CV.junk, CV.junk, CV.junk, CV.junk, CV.junk, CV.junk, CV.junk, CV.junk, CV.junk, CV.junk, CV.junk, CV.junk] [Blk.mem (CV.pure (Ty.arr (32 : Nat) (Ty.int IntKind.u8)) p0), Blk.mem (CV.pure (Ty.pair (Ty.int IntKind.i64) (Ty.pair (Ty.slice (Ty.arr (32 : Nat) (Ty.int IntKind.u8))) (Ty.pair (Ty.slice (Ty.arr (32 : Nat) (Ty.int IntKind.u8))) Ty.unit))) p1), Blk.mem (CV.pure (Ty.arr (32 : Nat) (Ty.int IntKind.u8)) p2)] (0 : Nat)
def X_19_1_0 (p0 : List Int) (p1 : Int × List (List Int) × List (List Int) × PUnit) (p2 : List Int) : St := St.mk [CV.junk, CV.junk, CV.junk, CV.junk, CV.junk, CV.junk, CV.bool (Ty.beq (Ty.arr (32 : Nat) (Ty.int IntKind.u8)) (Prod.fst (Sp.v_42 (List.getD (Prod.fst (Prod.snd (Prod.snd p1))) (1 : Nat) (Ty.dflt (Ty.arr (32 : Nat) (Ty.int IntKind.u8)))) p2)) p0), CV.junk, CV.junk, CV.junk, CV.junk, CV.junk, CV.junk, CV.junk, CV.junk, CV.junk, CV.junk, CV.junk, CV.junk, CV.junk, CV.junk, CV.junk, CV.junk, CV.junk, CV.junk, CV.junk, CV.junk, CV.junk, CV.junk, CV.junk, CV.junk, CV.junk, CV.junk, CV.junk, CV.junk, CV.junk, CV.junk, CV.junk, CV.junk, CV.junk, CV.junk, CV.junk, CV.junk, CV.junk, CV.junk, CV.junk, CV.junk, CV.junk, CV.junk, CV.junk, CV.junk, CV.junk, CV.junk, CV.junk, CV.junk, CV.junk, CV.junk, CV.junk, CV.junk, CV.junk, CV.junk, CV.junk, CV.junk, CV.junk, CV.junk, CV.junk, CV.junk, CV.junk, CV.junk, CV.junk] [] (0 : Nat)
def X_19_1_1 (p0 : List Int) (p1 : Int × List (List Int) × List (List Int) × PUnit) (p2 : List Int) : St := St.mk [CV.junk, CV.junk, CV.junk, CV.junk, CV.junk, CV.junk, CV.bool (Ty.beq (Ty.arr (32 : Nat) (Ty.int IntKind.u8)) (Prod.fst (Sp.v_42 p2 (List.getD (Prod.fst (Prod.snd (Prod.snd p1))) (1 : Nat) (Ty.dflt (Ty.arr (32 : Nat) (Ty.int IntKind.u8)))))) p0), CV.junk, CV.junk, CV.junk, CV.junk, CV.junk, CV.junk, CV.junk, CV.junk, CV.junk, CV.junk, CV.junk, CV.junk, CV.junk, CV.junk, CV.junk, CV.junk, CV.junk, CV.junk, CV.junk, CV.junk, CV.junk, CV.junk, CV.junk, CV.junk, CV.junk, CV.junk, CV.junk, CV.junk, CV.junk, CV.junk, CV.junk, CV.junk, CV.junk, CV.junk, CV.junk, CV.junk, CV.junk, CV.junk, CV.junk, CV.junk, CV.junk, CV.junk, CV.junk, CV.junk, CV.junk, CV.junk, CV.junk, CV.junk, CV.junk, CV.junk, CV.junk, CV.junk, CV.junk, CV.junk, CV.junk, CV.junk, CV.junk, CV.junk, CV.junk, CV.junk, CV.junk, CV.junk, CV.junk] [] (0 : Nat)
inductive Sp.E_19_1 where
  | e0 (p0 : List Int) (p1 : Int × List (List Int) × List (List Int) × PUnit) (p2 : List Int)
  | e1 (p0 : List Int) (p1 : Int × List (List Int) × List (List Int) × PUnit) (p2 : List Int)
def Sp.B_19_1 {R : Type} (r : Option Sp.E_19_1) (k0 : (List Int) → (Int × List (List Int) × List (List Int) × PUnit) → (List Int) → Option R) (k1 : (List Int) → (Int × List (List Int) × List (List Int) × PUnit) → (List Int) → Option R) : Option R := match r with
  | none => none
  | some (.e0 p0 p1 p2) => k0 p0 p1 p2
  | some (.e1 p0 p1 p2) => k1 p0 p1 p2
def Sp.J_19_1 (p0 : List Int) (p1 : Int × List (List Int) × List (List Int) × PUnit) (p2 : List Int) : Option Sp.E_19_1 :=
  bif IntKind.wrap IntKind.i64 (Int.tdiv (Prod.fst p1) (2 : Int)) == (1 : Int) then gd (inB (1 : Int) (List.length (Prod.fst (Prod.snd (Prod.snd p1))))) (gd (Sp.p_42 (List.getD (Prod.fst (Prod.snd (Prod.snd p1))) (1 : Nat) (Ty.dflt (Ty.arr (32 : Nat) (Ty.int IntKind.u8)))) p2) (some (Sp.E_19_1.e0 p0 p1 p2))) else gd (inB (1 : Int) (List.length (Prod.fst (Prod.snd (Prod.snd p1))))) (gd (Sp.p_42 p2 (List.getD (Prod.fst (Prod.snd (Prod.snd p1))) (1 : Nat) (Ty.dflt (Ty.arr (32 : Nat) (Ty.int IntKind.u8))))) (some (Sp.E_19_1.e1 p0 p1 p2)))
def G_19_1 {R : Type} (p0 : List Int) (p1 : Int × List (List Int) × List (List Int) × PUnit) (p2 : List Int) (k : Ex → St → Option R) : Option R := Sp.B_19_1 (Sp.J_19_1 p0 p1 p2) (fun p0 p1 p2 => k Ex.ret (X_19_1_0 p0 p1 p2)) (fun p0 p1 p2 => k Ex.ret (X_19_1_1 p0 p1 p2))
def o_19_1 {R : Type} (G : (List Int) → (Int × List (List Int) × List (List Int) × PUnit) → (List Int) → (Ex → St → Option R) → Option R) : St → (Ex → St → Option R) → Option R := fun T k => match T.sl.getD 3 .junk, T.sl.getD 5 .junk, T.sl.getD 10 .junk, T.hp with
  | CV.ptr (0 : Nat) [], CV.ptr (1 : Nat) [], CV.ptr (2 : Nat) [], ((Blk.mem (CV.pure (Ty.arr (32 : Nat) (Ty.int IntKind.u8)) p0)) :: (Blk.mem (CV.pure (Ty.pair (Ty.int IntKind.i64) (Ty.pair (Ty.slice (Ty.arr (32 : Nat) (Ty.int IntKind.u8))) (Ty.pair (Ty.slice (Ty.arr (32 : Nat) (Ty.int IntKind.u8))) Ty.unit))) p1)) :: (Blk.mem (CV.pure (Ty.arr (32 : Nat) (Ty.int IntKind.u8)) p2)) :: []) => gd (shapeOK T 70 [3, 5, 10] (0 : Nat)) (G p0 p1 p2 k)
  | _, _, _, _ => none
theorem o_19_1_inv {R : Type} {G : (List Int) → (Int × List (List Int) × List (List Int) × PUnit) → (List Int) → (Ex → St → Option R) → Option R} {T : St} {k : Ex → St → Option R} {r : R} (h : o_19_1 G T k = some r) : ∃ p0 p1 p2, T = T_19_1 p0 p1 p2 ∧ G p0 p1 p2 k = some r := by
  unfold o_19_1 at h
  split at h
  · obtain ⟨hs, h'⟩ := gd_some h
    refine ⟨_, _, _, (st_of (asg := [(3, _), (5, _), (10, _)]) hs ⟨by assumption, by assumption, by assumption, trivial⟩ (by assumption)).trans ?_, h'⟩
    kernel_rfl
  · cases h
def O_19_19_0 {R : Type} : St → (Ex → St → Option R) → Option R := fun T k => o_19_0 G_19_0 T k
def O_19_19_1 {R : Type} : St → (Ex → St → Option R) → Option R := fun T k => o_19_1 G_19_1 T k
theorem body_19_0 {R : Type} (K0 : St → Option R) (K1 : Ex → St → Option R) (p0 : List Int) (p1 : Int) (p2 : List Int) (p3 : Int × List (List Int) × List (List Int) × PUnit) (p4 : List (List Int)) : evLB (evCodeL sm_19 FU (ovr noO (evFn sm_19 fns FU 0)) .nil ir19_b0) (St.norm ir19_v0) (T_19_0 p0 p1 p2 p3 p4) K0 K1 =
  bif decide (p1 < (67 : Int)) then gd (inB p1 (List.length (Prod.fst (Prod.snd p3)))) (gd (inB p1 (List.length p0)) (gd (Sp.p_17 (List.getD (Prod.fst (Prod.snd p3)) (Int.toNat p1) (Ty.dflt (Ty.arr (32 : Nat) (Ty.int IntKind.u8)))) (List.getD p0 (Int.toNat p1) (0 : Int)) (15 : Int)) (gd (room (List.length p4 + (1 : Nat)) (32 : Nat)) (K0 (T_19_0 p0 (IntKind.wrap IntKind.i64 (p1 + (1 : Int))) p2 p3 (p4 ++ [Prod.fst (Sp.v_17 (List.getD (Prod.fst (Prod.snd p3)) (Int.toNat p1) (Ty.dflt (Ty.arr (32 : Nat) (Ty.int IntKind.u8)))) (List.getD p0 (Int.toNat p1) (0 : Int)) (15 : Int))])))))) else K1 (Ex.exit (0 : Nat)) (X_19_0_0 p2 p3 p4) := by kernel_rfl
theorem Bgd_19_0 {R : Type} {c : Bool} {x : Option R} {y : Option Sp.E_19_0} {k0 : (List Int) → (Int × List (List Int) × List (List Int) × PUnit) → (List (List Int)) → Option R} (h : x = Sp.B_19_0 y k0) : gd c x = Sp.B_19_0 (gd c y) k0 := by cases c; rfl; exact h
theorem Bcond_19_0 {R : Type} {c : Bool} {x x' : Option R} {y y' : Option Sp.E_19_0} {k0 : (List Int) → (Int × List (List Int) × List (List Int) × PUnit) → (List (List Int)) → Option R} (h : x = Sp.B_19_0 y k0) (h' : x' = Sp.B_19_0 y' k0) : (bif c then x else x') = Sp.B_19_0 (bif c then y else y') k0 := by cases c; exact h'; exact h
theorem loop_19_0 {R : Type} (k : Ex → St → Option R) : ∀ (m : Nat) (p0 : List Int) (p1 : Int) (p2 : List Int) (p3 : Int × List (List Int) × List (List Int) × PUnit) (p4 : List (List Int)), evLoopN (evCodeL sm_19 FU (ovr noO (evFn sm_19 fns FU 0)) .nil ir19_b0) (St.norm ir19_v0) m (T_19_0 p0 p1 p2 p3 p4) k = Sp.B_19_0 (Sp.L_19_0 m p0 p1 p2 p3 p4) (fun p2 p3 p4 => k (Ex.exit (0 : Nat)) (X_19_0_0 p2 p3 p4))
  | 0, _, _, _, _, _ => rfl
  | m + 1, p0, p1, p2, p3, p4 => by
    rw [evLoopN_succ, body_19_0, Sp.L_19_0]
    repeat' first | apply Bgd_19_0 | apply Bcond_19_0 | exact loop_19_0 k m _ _ _ _ _ | rfl
theorem ok_19_0 {R : Type} (T : St) (k : Ex → St → Option R) (r : R) (h0 : o_19_0 G_19_0 T k = some r) : evLoopN (evCode sm_19 FU (evFn sm_19 fns FU 0) ir19_b0) (St.norm ir19_v0) FU T k = some r := by
  obtain ⟨p0, p1, p2, p3, p4, rfl, h⟩ := o_19_0_inv h0
  refine evLoopN_L (t := .nil) noO_ok trivial _ _ _ _ ?_
  rw [loop_19_0]
  exact h
theorem OK_19_19_0 {R : Type} (T : St) (k : Ex → St → Option R) (r : R) (h : O_19_19_0 T k = some r) : evLoopN (evCode sm_19 FU (evFn sm_19 fns FU 0) ir19_b0) (St.norm ir19_v0) FU T k = some r := ok_19_0 T k r h
theorem body_19_1 {R : Type} (K1 : Ex → St → Option R) (p0 : List Int) (p1 : Int × List (List Int) × List (List Int) × PUnit) (p2 : List Int) : evJ (evCodeL sm_19 FU (ovr noO (evFn sm_19 fns FU 0)) .nil ir19_b1) (T_19_1 p0 p1 p2) K1 =
  bif IntKind.wrap IntKind.i64 (Int.tdiv (Prod.fst p1) (2 : Int)) == (1 : Int) then gd (inB (1 : Int) (List.length (Prod.fst (Prod.snd (Prod.snd p1))))) (gd (Sp.p_42 (List.getD (Prod.fst (Prod.snd (Prod.snd p1))) (1 : Nat) (Ty.dflt (Ty.arr (32 : Nat) (Ty.int IntKind.u8)))) p2) (K1 Ex.ret (X_19_1_0 p0 p1 p2))) else gd (inB (1 : Int) (List.length (Prod.fst (Prod.snd (Prod.snd p1))))) (gd (Sp.p_42 p2 (List.getD (Prod.fst (Prod.snd (Prod.snd p1))) (1 : Nat) (Ty.dflt (Ty.arr (32 : Nat) (Ty.int IntKind.u8))))) (K1 Ex.ret (X_19_1_1 p0 p1 p2))) := by kernel_rfl
theorem Bgd_19_1 {R : Type} {c : Bool} {x : Option R} {y : Option Sp.E_19_1} {k0 : (List Int) → (Int × List (List Int) × List (List Int) × PUnit) → (List Int) → Option R} {k1 : (List Int) → (Int × List (List Int) × List (List Int) × PUnit) → (List Int) → Option R} (h : x = Sp.B_19_1 y k0 k1) : gd c x = Sp.B_19_1 (gd c y) k0 k1 := by cases c; rfl; exact h
theorem Bcond_19_1 {R : Type} {c : Bool} {x x' : Option R} {y y' : Option Sp.E_19_1} {k0 : (List Int) → (Int × List (List Int) × List (List Int) × PUnit) → (List Int) → Option R} {k1 : (List Int) → (Int × List (List Int) × List (List Int) × PUnit) → (List Int) → Option R} (h : x = Sp.B_19_1 y k0 k1) (h' : x' = Sp.B_19_1 y' k0 k1) : (bif c then x else x') = Sp.B_19_1 (bif c then y else y') k0 k1 := by cases c; exact h'; exact h
theorem loop_19_1 {R : Type} (k : Ex → St → Option R) (p0 : List Int) (p1 : Int × List (List Int) × List (List Int) × PUnit) (p2 : List Int) : evJ (evCodeL sm_19 FU (ovr noO (evFn sm_19 fns FU 0)) .nil ir19_b1) (T_19_1 p0 p1 p2) k = Sp.B_19_1 (Sp.J_19_1 p0 p1 p2) (fun p0 p1 p2 => k Ex.ret (X_19_1_0 p0 p1 p2)) (fun p0 p1 p2 => k Ex.ret (X_19_1_1 p0 p1 p2)) := by
  rw [body_19_1, Sp.J_19_1]
  repeat' first | apply Bgd_19_1 | apply Bcond_19_1 | rfl
theorem ok_19_1 {R : Type} (T : St) (k : Ex → St → Option R) (r : R) (h0 : o_19_1 G_19_1 T k = some r) : evCode sm_19 FU (evFn sm_19 fns FU 0) ir19_b1 T k = some r := by
  obtain ⟨p0, p1, p2, rfl, h⟩ := o_19_1_inv h0
  refine bodyL_sound (t := .nil) noO_ok trivial ((loop_19_1 k _ _ _).trans h)
theorem OK_19_19_1 {R : Type} (T : St) (k : Ex → St → Option R) (r : R) (h : O_19_19_1 T k = some r) : evCode sm_19 FU (evFn sm_19 fns FU 0) ir19_b1 T k = some r := ok_19_1 T k r h
def F_19 (a0 : (List Int)) (a1 : (List Int)) (a2 : (Int × ((List (List Int)) × ((List (List Int)) × Unit)))) : Option (Bool × Unit) :=
  gd (Sp.p_26 a2) (bif !Prod.fst (Sp.v_26 a2) then some (false, PUnit.unit) else gd (Sp.p_15 a1) (Sp.B_19_0 (Sp.L_19_0 (4611686018427387904 : Nat) (Prod.fst (Sp.v_15 a1)) (0 : Int) a0 a2 []) fun (y15 : List Int) (y16 : Int × List (List Int) × List (List Int) × PUnit) (y17 : List (List Int)) => gd (Sp.p_41 y17) (bif Int.tmod (Prod.fst y16) (2 : Int) == (1 : Int) then gd (inB (0 : Int) (List.length (Prod.fst (Prod.snd (Prod.snd y16))))) (gd (Sp.p_42 (List.getD (Prod.fst (Prod.snd (Prod.snd y16))) (0 : Nat) (Ty.dflt (Ty.arr (32 : Nat) (Ty.int IntKind.u8)))) (Prod.fst (Sp.v_41 y17))) (Sp.B_19_1 (Sp.J_19_1 y15 y16 (Prod.fst (Sp.v_42 (List.getD (Prod.fst (Prod.snd (Prod.snd y16))) (0 : Nat) (Ty.dflt (Ty.arr (32 : Nat) (Ty.int IntKind.u8)))) (Prod.fst (Sp.v_41 y17))))) (fun (y18 : List Int) (y19 : Int × List (List Int) × List (List Int) × PUnit) (y20 : List Int) => some (Ty.beq (Ty.arr (32 : Nat) (Ty.int IntKind.u8)) (Prod.fst (Sp.v_42 (List.getD (Prod.fst (Prod.snd (Prod.snd y19))) (1 : Nat) (Ty.dflt (Ty.arr (32 : Nat) (Ty.int IntKind.u8)))) y20)) y18, PUnit.unit)) fun (y21 : List Int) (y22 : Int × List (List Int) × List (List Int) × PUnit) (y23 : List Int) => some (Ty.beq (Ty.arr (32 : Nat) (Ty.int IntKind.u8)) (Prod.fst (Sp.v_42 y23 (List.getD (Prod.fst (Prod.snd (Prod.snd y22))) (1 : Nat) (Ty.dflt (Ty.arr (32 : Nat) (Ty.int IntKind.u8)))))) y21, PUnit.unit))) else gd (inB (0 : Int) (List.length (Prod.fst (Prod.snd (Prod.snd y16))))) (gd (Sp.p_42 (Prod.fst (Sp.v_41 y17)) (List.getD (Prod.fst (Prod.snd (Prod.snd y16))) (0 : Nat) (Ty.dflt (Ty.arr (32 : Nat) (Ty.int IntKind.u8))))) (Sp.B_19_1 (Sp.J_19_1 y15 y16 (Prod.fst (Sp.v_42 (Prod.fst (Sp.v_41 y17)) (List.getD (Prod.fst (Prod.snd (Prod.snd y16))) (0 : Nat) (Ty.dflt (Ty.arr (32 : Nat) (Ty.int IntKind.u8))))))) (fun (y24 : List Int) (y25 : Int × List (List Int) × List (List Int) × PUnit) (y26 : List Int) => some (Ty.beq (Ty.arr (32 : Nat) (Ty.int IntKind.u8)) (Prod.fst (Sp.v_42 (List.getD (Prod.fst (Prod.snd (Prod.snd y25))) (1 : Nat) (Ty.dflt (Ty.arr (32 : Nat) (Ty.int IntKind.u8)))) y26)) y24, PUnit.unit)) fun (y27 : List Int) (y28 : Int × List (List Int) × List (List Int) × PUnit) (y29 : List Int) => some (Ty.beq (Ty.arr (32 : Nat) (Ty.int IntKind.u8)) (Prod.fst (Sp.v_42 y29 (List.getD (Prod.fst (Prod.snd (Prod.snd y28))) (1 : Nat) (Ty.dflt (Ty.arr (32 : Nat) (Ty.int IntKind.u8)))))) y27, PUnit.unit))))))
theorem fn_19 (a0 : (List Int)) (a1 : (List Int)) (a2 : (Int × ((List (List Int)) × ((List (List Int)) × Unit)))) : evFnL sm_19 FU (ovr noO (evFn sm_19 fns FU 0)) (ir19_t O_19_19_0 O_19_19_1) ir19 (ofH [(.arr 32 (.int .u8)), (.arr 32 (.int .u8)), (.pair (.int .i64) (.pair (.slice (.arr 32 (.int .u8))) (.pair (.slice (.arr 32 (.int .u8))) .unit)))] (a0, a1, a2, ())) [] (pureK [.bool]) = F_19 a0 a1 a2 := by kernel_rfl
def Sp.p_19 (a0 : (List Int)) (a1 : (List Int)) (a2 : (Int × ((List (List Int)) × ((List (List Int)) × Unit)))) : Bool := (F_19 a0 a1 a2).isSome
def Sp.v_19 (a0 : (List Int)) (a1 : (List Int)) (a2 : (Int × ((List (List Int)) × ((List (List Int)) × Unit)))) : Bool × Unit := (F_19 a0 a1 a2).getD (dfH [.bool])
def s_19 : Summ := shN [(.arr 32 (.int .u8)), (.arr 32 (.int .u8)), (.pair (.int .i64) (.pair (.slice (.arr 32 (.int .u8))) (.pair (.slice (.arr 32 (.int .u8))) .unit)))] [.bool] (fun x => Sp.p_19 x.1 x.2.1 x.2.2.1) (fun x => Sp.v_19 x.1 x.2.1 x.2.2.1)
theorem pv_19 (a0 : (List Int)) (a1 : (List Int)) (a2 : (Int × ((List (List Int)) × ((List (List Int)) × Unit)))) {y : Bool × Unit} (h : F_19 a0 a1 a2 = some y) : Sp.p_19 a0 a1 a2 = true ∧ Sp.v_19 a0 a1 a2 = y := ⟨by rw [Sp.p_19, h]; rfl, by rw [Sp.v_19, h]; rfl⟩
theorem run_19 (x : HDen [(.arr 32 (.int .u8)), (.arr 32 (.int .u8)), (.pair (.int .i64) (.pair (.slice (.arr 32 (.int .u8))) (.pair (.slice (.arr 32 (.int .u8))) .unit)))]) (y : HDen [.bool]) (h : F_19 x.1 x.2.1 x.2.2.1 = some y) : evFn sm_19 fns FU 1 19 (ofH [(.arr 32 (.int .u8)), (.arr 32 (.int .u8)), (.pair (.int .i64) (.pair (.slice (.arr 32 (.int .u8))) (.pair (.slice (.arr 32 (.int .u8))) .unit)))] x) [] (pureK [.bool]) = some y :=
  evFnL_sound (fn := ir19) (t := (ir19_t O_19_19_0 O_19_19_1)) (o := noO) rfl noO_ok (ir19_tok (fun T k r => OK_19_19_0 T k r) (fun T k r => OK_19_19_1 T k r)) ((fn_19 _ _ _).trans h)
end
end Go.Ev
namespace Go.Ev
open Go
set_option maxRecDepth 100000
set_option maxHeartbeats 4000000
set_option linter.unusedVariables false
noncomputable section

def sm_6 : Nat → Option Summ := fun f => bif Nat.beq f 10 then some s_10 else bif Nat.beq f 18 then some s_18 else bif Nat.beq f 19 then some s_19 else none


def F_6 (a0 : (List Int)) (a1 : (List Int)) (a2 : (Int × ((List (List Int)) × ((List (List Int)) × Unit)))) : Option (Bool) :=
  gd Sp.p_10 (bif !Prod.fst Sp.v_10 then some false else bif decide ((↑(List.length (Prod.fst (Prod.snd a2))) : Int) > (100 : Int)) then some true else bif decide ((↑(List.length (Prod.fst (Prod.snd (Prod.snd a2)))) : Int) > (100 : Int)) then some true else gd (Sp.p_18 a0 a1 a2) (gd (Sp.p_19 a0 a1 a2) (some (Prod.fst (Sp.v_18 a0 a1 a2) == Prod.fst (Sp.v_19 a0 a1 a2)))))
theorem fn_6 (a0 : (List Int)) (a1 : (List Int)) (a2 : (Int × ((List (List Int)) × ((List (List Int)) × Unit)))) : evFnL sm_6 FU (ovr noO (evFn sm_6 fns FU 0)) .nil ir6 (ofH [(.arr 32 (.int .u8)), (.arr 32 (.int .u8)), (.pair (.int .i64) (.pair (.slice (.arr 32 (.int .u8))) (.pair (.slice (.arr 32 (.int .u8))) .unit)))] (a0, a1, a2, ())) [] bk = F_6 a0 a1 a2 := by kernel_rfl
theorem run_6 (a0 : (List Int)) (a1 : (List Int)) (a2 : (Int × ((List (List Int)) × ((List (List Int)) × Unit)))) {b : Bool} (h : F_6 a0 a1 a2 = some b) : evFn sm_6 fns FU 1 6 (ofH [(.arr 32 (.int .u8)), (.arr 32 (.int .u8)), (.pair (.int .i64) (.pair (.slice (.arr 32 (.int .u8))) (.pair (.slice (.arr 32 (.int .u8))) .unit)))] (a0, a1, a2, ())) [] bk = some b :=
  evFnL_sound (fn := ir6) (t := .nil) (o := noO) rfl noO_ok trivial ((fn_6 _ _ _).trans h)
end
end Go.Ev
namespace Go.Proofs
open Go.Shelf
end Go.Proofs
namespace Go.Ev
open Go Go.Proofs Go.RowKit
set_option maxRecDepth 100000
set_option maxHeartbeats 4000000
def smB : Nat → Bool := fun f => [10, 11, 12, 13, 14, 15, 16, 17, 18, 19, 20, 21, 22, 23, 24, 25, 26, 27, 28, 29, 30, 31, 32, 35, 36, 37, 38, 39, 40, 41, 42, 43, 44, 45, 46, 47, 48, 49, 50, 51, 52].contains f
theorem hm0 : Try.prog.follows .mixedOrders = true := by kernel_rfl
theorem key3 : fnKey Try.prog smB 3 = ir3.key := by kernel_rfl
theorem key4 : fnKey Try.prog smB 4 = ir4.key := by kernel_rfl
theorem key5 : fnKey Try.prog smB 5 = ir5.key := by kernel_rfl
theorem key6 : fnKey Try.prog smB 6 = ir6.key := by kernel_rfl
theorem key7 : fnKey Try.prog smB 7 = ir7.key := by kernel_rfl
theorem key8 : fnKey Try.prog smB 8 = ir8.key := by kernel_rfl
theorem key9 : fnKey Try.prog smB 9 = ir9.key := by kernel_rfl
theorem key10 : fnKey Try.prog smB 10 = ir10.key := by kernel_rfl
theorem key11 : fnKey Try.prog smB 11 = ir11.key := by kernel_rfl
theorem key12 : fnKey Try.prog smB 12 = ir12.key := by kernel_rfl
theorem key13 : fnKey Try.prog smB 13 = ir13.key := by kernel_rfl
theorem key14 : fnKey Try.prog smB 14 = ir14.key := by kernel_rfl
theorem key15 : fnKey Try.prog smB 15 = ir15.key := by kernel_rfl
theorem key16 : fnKey Try.prog smB 16 = ir16.key := by kernel_rfl
theorem key17 : fnKey Try.prog smB 17 = ir17.key := by kernel_rfl
theorem key18 : fnKey Try.prog smB 18 = ir18.key := by kernel_rfl
theorem key19 : fnKey Try.prog smB 19 = ir19.key := by kernel_rfl
theorem key20 : fnKey Try.prog smB 20 = ir20.key := by kernel_rfl
theorem key21 : fnKey Try.prog smB 21 = ir21.key := by kernel_rfl
theorem key22 : fnKey Try.prog smB 22 = ir22.key := by kernel_rfl
theorem key23 : fnKey Try.prog smB 23 = ir23.key := by kernel_rfl
theorem key24 : fnKey Try.prog smB 24 = ir24.key := by kernel_rfl
theorem key25 : fnKey Try.prog smB 25 = ir25.key := by kernel_rfl
theorem key26 : fnKey Try.prog smB 26 = ir26.key := by kernel_rfl
theorem key27 : fnKey Try.prog smB 27 = ir27.key := by kernel_rfl
theorem key28 : fnKey Try.prog smB 28 = ir28.key := by kernel_rfl
theorem key29 : fnKey Try.prog smB 29 = ir29.key := by kernel_rfl
theorem key30 : fnKey Try.prog smB 30 = ir30.key := by kernel_rfl
theorem key31 : fnKey Try.prog smB 31 = ir31.key := by kernel_rfl
theorem key32 : fnKey Try.prog smB 32 = ir32.key := by kernel_rfl
theorem key33 : fnKey Try.prog smB 33 = ir33.key := by kernel_rfl
theorem key34 : fnKey Try.prog smB 34 = ir34.key := by kernel_rfl
theorem key35 : fnKey Try.prog smB 35 = ir35.key := by kernel_rfl
theorem key36 : fnKey Try.prog smB 36 = ir36.key := by kernel_rfl
theorem key37 : fnKey Try.prog smB 37 = ir37.key := by kernel_rfl
theorem key38 : fnKey Try.prog smB 38 = ir38.key := by kernel_rfl
theorem key39 : fnKey Try.prog smB 39 = ir39.key := by kernel_rfl
theorem key40 : fnKey Try.prog smB 40 = ir40.key := by kernel_rfl
theorem key41 : fnKey Try.prog smB 41 = ir41.key := by kernel_rfl
theorem key42 : fnKey Try.prog smB 42 = ir42.key := by kernel_rfl
theorem key43 : fnKey Try.prog smB 43 = ir43.key := by kernel_rfl
theorem key44 : fnKey Try.prog smB 44 = ir44.key := by kernel_rfl
theorem key45 : fnKey Try.prog smB 45 = ir45.key := by kernel_rfl
theorem key46 : fnKey Try.prog smB 46 = ir46.key := by kernel_rfl
theorem key47 : fnKey Try.prog smB 47 = ir47.key := by kernel_rfl
theorem key48 : fnKey Try.prog smB 48 = ir48.key := by kernel_rfl
theorem key49 : fnKey Try.prog smB 49 = ir49.key := by kernel_rfl
theorem key50 : fnKey Try.prog smB 50 = ir50.key := by kernel_rfl
theorem key51 : fnKey Try.prog smB 51 = ir51.key := by kernel_rfl
theorem key52 : fnKey Try.prog smB 52 = ir52.key := by kernel_rfl
theorem fns_ok : FnsOK Try.prog smB fns := by
  intro f fn h
  unfold fns at h
  split at h
  · simp only [Option.some.injEq] at h; subst h; exact key3
  · simp only [Option.some.injEq] at h; subst h; exact key4
  · simp only [Option.some.injEq] at h; subst h; exact key5
  · simp only [Option.some.injEq] at h; subst h; exact key6
  · simp only [Option.some.injEq] at h; subst h; exact key7
  · simp only [Option.some.injEq] at h; subst h; exact key8
  · simp only [Option.some.injEq] at h; subst h; exact key9
  · simp only [Option.some.injEq] at h; subst h; exact key10
  · simp only [Option.some.injEq] at h; subst h; exact key11
  · simp only [Option.some.injEq] at h; subst h; exact key12
  · simp only [Option.some.injEq] at h; subst h; exact key13
  · simp only [Option.some.injEq] at h; subst h; exact key14
  · simp only [Option.some.injEq] at h; subst h; exact key15
  · simp only [Option.some.injEq] at h; subst h; exact key16
  · simp only [Option.some.injEq] at h; subst h; exact key17
  · simp only [Option.some.injEq] at h; subst h; exact key18
  · simp only [Option.some.injEq] at h; subst h; exact key19
  · simp only [Option.some.injEq] at h; subst h; exact key20
  · simp only [Option.some.injEq] at h; subst h; exact key21
  · simp only [Option.some.injEq] at h; subst h; exact key22
  · simp only [Option.some.injEq] at h; subst h; exact key23
  · simp only [Option.some.injEq] at h; subst h; exact key24
  · simp only [Option.some.injEq] at h; subst h; exact key25
  · simp only [Option.some.injEq] at h; subst h; exact key26
  · simp only [Option.some.injEq] at h; subst h; exact key27
  · simp only [Option.some.injEq] at h; subst h; exact key28
  · simp only [Option.some.injEq] at h; subst h; exact key29
  · simp only [Option.some.injEq] at h; subst h; exact key30
  · simp only [Option.some.injEq] at h; subst h; exact key31
  · simp only [Option.some.injEq] at h; subst h; exact key32
  · simp only [Option.some.injEq] at h; subst h; exact key33
  · simp only [Option.some.injEq] at h; subst h; exact key34
  · simp only [Option.some.injEq] at h; subst h; exact key35
  · simp only [Option.some.injEq] at h; subst h; exact key36
  · simp only [Option.some.injEq] at h; subst h; exact key37
  · simp only [Option.some.injEq] at h; subst h; exact key38
  · simp only [Option.some.injEq] at h; subst h; exact key39
  · simp only [Option.some.injEq] at h; subst h; exact key40
  · simp only [Option.some.injEq] at h; subst h; exact key41
  · simp only [Option.some.injEq] at h; subst h; exact key42
  · simp only [Option.some.injEq] at h; subst h; exact key43
  · simp only [Option.some.injEq] at h; subst h; exact key44
  · simp only [Option.some.injEq] at h; subst h; exact key45
  · simp only [Option.some.injEq] at h; subst h; exact key46
  · simp only [Option.some.injEq] at h; subst h; exact key47
  · simp only [Option.some.injEq] at h; subst h; exact key48
  · simp only [Option.some.injEq] at h; subst h; exact key49
  · simp only [Option.some.injEq] at h; subst h; exact key50
  · simp only [Option.some.injEq] at h; subst h; exact key51
  · simp only [Option.some.injEq] at h; subst h; exact key52
  · cases h
theorem smok_32 : ∀ f s, sm_32 f = some s → SummOK Try.prog f s := by
  intro f s h
  unfold sm_32 at h
  cases h
theorem call_32 {R : Type} (n base : Nat) : CallOK Try.prog base (evFn (R := R) sm_32 fns FU n) := ev_sound hm0 smok_32 (fun f s h => (smok_32 f s h).2.1) fns_ok n
theorem sok_32 : SummOK Try.prog 32 s_32 := summ_shN (by decide) (fun _ => rfl) (fun _ => rfl) (call_32 1) (by kernel_rfl) run_32
theorem smok_47 : ∀ f s, sm_47 f = some s → SummOK Try.prog f s := by
  intro f s h
  unfold sm_47 at h
  cases h
theorem call_47 {R : Type} (n base : Nat) : CallOK Try.prog base (evFn (R := R) sm_47 fns FU n) := ev_sound hm0 smok_47 (fun f s h => (smok_47 f s h).2.1) fns_ok n
theorem sok_47 : SummOK Try.prog 47 s_47 := summ_shN (by decide) (fun _ => rfl) (fun _ => rfl) (call_47 1) (by kernel_rfl) run_47
theorem smok_52 : ∀ f s, sm_52 f = some s → SummOK Try.prog f s := by
  intro f s h
  unfold sm_52 at h
  cases h
theorem call_52 {R : Type} (n base : Nat) : CallOK Try.prog base (evFn (R := R) sm_52 fns FU n) := ev_sound hm0 smok_52 (fun f s h => (smok_52 f s h).2.1) fns_ok n
theorem sok_52 : SummOK Try.prog 52 s_52 := summ_shN (by decide) (fun _ => rfl) (fun _ => rfl) (call_52 1) (by kernel_rfl) run_52
theorem smok_49 : ∀ f s, sm_49 f = some s → SummOK Try.prog f s := by
  intro f s h
  unfold sm_49 at h
  by_cases h52 : f = 52
  · subst h52
    injection h with h
    subst h
    exact sok_52
  rw [nbeq_ne h52, cond_false] at h
  cases h
theorem call_49 {R : Type} (n base : Nat) : CallOK Try.prog base (evFn (R := R) sm_49 fns FU n) := ev_sound hm0 smok_49 (fun f s h => (smok_49 f s h).2.1) fns_ok n
theorem sok_49 : SummOK Try.prog 49 s_49 := summ_shN (by decide) (fun _ => rfl) (fun _ => rfl) (call_49 1) (by kernel_rfl) run_49
theorem smok_11 : ∀ f s, sm_11 f = some s → SummOK Try.prog f s := by
  intro f s h
  unfold sm_11 at h
  by_cases h32 : f = 32
  · subst h32
    injection h with h
    subst h
    exact sok_32
  rw [nbeq_ne h32, cond_false] at h
  by_cases h47 : f = 47
  · subst h47
    injection h with h
    subst h
    exact sok_47
  rw [nbeq_ne h47, cond_false] at h
  by_cases h49 : f = 49
  · subst h49
    injection h with h
    subst h
    exact sok_49
  rw [nbeq_ne h49, cond_false] at h
  cases h
theorem call_11 {R : Type} (n base : Nat) : CallOK Try.prog base (evFn (R := R) sm_11 fns FU n) := ev_sound hm0 smok_11 (fun f s h => (smok_11 f s h).2.1) fns_ok n
theorem sok_11 : SummOK Try.prog 11 s_11 := summ_shN (by decide) (fun _ => rfl) (fun _ => rfl) (call_11 2) (by kernel_rfl) run_11
theorem smok_13 : ∀ f s, sm_13 f = some s → SummOK Try.prog f s := by
  intro f s h
  unfold sm_13 at h
  cases h
theorem call_13 {R : Type} (n base : Nat) : CallOK Try.prog base (evFn (R := R) sm_13 fns FU n) := ev_sound hm0 smok_13 (fun f s h => (smok_13 f s h).2.1) fns_ok n
theorem sok_13 : SummOK Try.prog 13 s_13 := summ_sh (fun _ => rfl) (fun _ => rfl) (call_13 1) (by kernel_rfl) run_13
theorem smok_10 : ∀ f s, sm_10 f = some s → SummOK Try.prog f s := by
  intro f s h
  unfold sm_10 at h
  by_cases h11 : f = 11
  · subst h11
    injection h with h
    subst h
    exact sok_11
  rw [nbeq_ne h11, cond_false] at h
  by_cases h13 : f = 13
  · subst h13
    injection h with h
    subst h
    exact sok_13
  rw [nbeq_ne h13, cond_false] at h
  cases h
theorem call_10 {R : Type} (n base : Nat) : CallOK Try.prog base (evFn (R := R) sm_10 fns FU n) := ev_sound hm0 smok_10 (fun f s h => (smok_10 f s h).2.1) fns_ok n
theorem sok_10 : SummOK Try.prog 10 s_10 := summ_shN (by decide) (fun _ => rfl) (fun _ => rfl) (call_10 1) (by kernel_rfl) run_10
theorem smok_37 : ∀ f s, sm_37 f = some s → SummOK Try.prog f s := by
  intro f s h
  unfold sm_37 at h
  by_cases h11 : f = 11
  · subst h11
    injection h with h
    subst h
    exact sok_11
  rw [nbeq_ne h11, cond_false] at h
  cases h
theorem call_37 {R : Type} (n base : Nat) : CallOK Try.prog base (evFn (R := R) sm_37 fns FU n) := ev_sound hm0 smok_37 (fun f s h => (smok_37 f s h).2.1) fns_ok n
theorem sok_37 : SummOK Try.prog 37 s_37 := summ_shN (by decide) (fun _ => rfl) (fun _ => rfl) (call_37 1) (by kernel_rfl) run_37
theorem smok_38 : ∀ f s, sm_38 f = some s → SummOK Try.prog f s := by
  intro f s h
  unfold sm_38 at h
  cases h
theorem call_38 {R : Type} (n base : Nat) : CallOK Try.prog base (evFn (R := R) sm_38 fns FU n) := ev_sound hm0 smok_38 (fun f s h => (smok_38 f s h).2.1) fns_ok n
theorem sok_38 : SummOK Try.prog 38 s_38 := summ_shN (by decide) (fun _ => rfl) (fun _ => rfl) (call_38 1) (by kernel_rfl) run_38
theorem smok_39 : ∀ f s, sm_39 f = some s → SummOK Try.prog f s := by
  intro f s h
  unfold sm_39 at h
  by_cases h11 : f = 11
  · subst h11
    injection h with h
    subst h
    exact sok_11
  rw [nbeq_ne h11, cond_false] at h
  cases h
theorem call_39 {R : Type} (n base : Nat) : CallOK Try.prog base (evFn (R := R) sm_39 fns FU n) := ev_sound hm0 smok_39 (fun f s h => (smok_39 f s h).2.1) fns_ok n
theorem sok_39 : SummOK Try.prog 39 s_39 := summ_shN (by decide) (fun _ => rfl) (fun _ => rfl) (call_39 1) (by kernel_rfl) run_39
theorem smok_40 : ∀ f s, sm_40 f = some s → SummOK Try.prog f s := by
  intro f s h
  unfold sm_40 at h
  by_cases h11 : f = 11
  · subst h11
    injection h with h
    subst h
    exact sok_11
  rw [nbeq_ne h11, cond_false] at h
  cases h
theorem call_40 {R : Type} (n base : Nat) : CallOK Try.prog base (evFn (R := R) sm_40 fns FU n) := ev_sound hm0 smok_40 (fun f s h => (smok_40 f s h).2.1) fns_ok n
theorem sok_40 : SummOK Try.prog 40 s_40 := summ_shN (by decide) (fun _ => rfl) (fun _ => rfl) (call_40 1) (by kernel_rfl) run_40
theorem smok_18 : ∀ f s, sm_18 f = some s → SummOK Try.prog f s := by
  intro f s h
  unfold sm_18 at h
  by_cases h13 : f = 13
  · subst h13
    injection h with h
    subst h
    exact sok_13
  rw [nbeq_ne h13, cond_false] at h
  by_cases h37 : f = 37
  · subst h37
    injection h with h
    subst h
    exact sok_37
  rw [nbeq_ne h37, cond_false] at h
  by_cases h38 : f = 38
  · subst h38
    injection h with h
    subst h
    exact sok_38
  rw [nbeq_ne h38, cond_false] at h
  by_cases h39 : f = 39
  · subst h39
    injection h with h
    subst h
    exact sok_39
  rw [nbeq_ne h39, cond_false] at h
  by_cases h40 : f = 40
  · subst h40
    injection h with h
    subst h
    exact sok_40
  rw [nbeq_ne h40, cond_false] at h
  cases h
theorem call_18 {R : Type} (n base : Nat) : CallOK Try.prog base (evFn (R := R) sm_18 fns FU n) := ev_sound hm0 smok_18 (fun f s h => (smok_18 f s h).2.1) fns_ok n
theorem sok_18 : SummOK Try.prog 18 s_18 := summ_shN (by decide) (fun _ => rfl) (fun _ => rfl) (call_18 1) (by kernel_rfl) run_18
theorem smok_15 : ∀ f s, sm_15 f = some s → SummOK Try.prog f s := by
  intro f s h
  unfold sm_15 at h
  cases h
theorem call_15 {R : Type} (n base : Nat) : CallOK Try.prog base (evFn (R := R) sm_15 fns FU n) := ev_sound hm0 smok_15 (fun f s h => (smok_15 f s h).2.1) fns_ok n
theorem sok_15 : SummOK Try.prog 15 s_15 := summ_sh (fun _ => rfl) (fun _ => rfl) (call_15 1) (by kernel_rfl) run_15
theorem smok_35 : ∀ f s, sm_35 f = some s → SummOK Try.prog f s := by
  intro f s h
  unfold sm_35 at h
  cases h
theorem call_35 {R : Type} (n base : Nat) : CallOK Try.prog base (evFn (R := R) sm_35 fns FU n) := ev_sound hm0 smok_35 (fun f s h => (smok_35 f s h).2.1) fns_ok n
theorem sok_35 : SummOK Try.prog 35 s_35 := summ_sh (fun _ => rfl) (fun _ => rfl) (call_35 1) (by kernel_rfl) run_35
theorem smok_50 : ∀ f s, sm_50 f = some s → SummOK Try.prog f s := by
  intro f s h
  unfold sm_50 at h
  cases h
theorem call_50 {R : Type} (n base : Nat) : CallOK Try.prog base (evFn (R := R) sm_50 fns FU n) := ev_sound hm0 smok_50 (fun f s h => (smok_50 f s h).2.1) fns_ok n
theorem sok_50 : SummOK Try.prog 50 s_50 := summ_shN (by decide) (fun _ => rfl) (fun _ => rfl) (call_50 1) (by kernel_rfl) run_50
theorem smok_51 : ∀ f s, sm_51 f = some s → SummOK Try.prog f s := by
  intro f s h
  unfold sm_51 at h
  cases h
theorem call_51 {R : Type} (n base : Nat) : CallOK Try.prog base (evFn (R := R) sm_51 fns FU n) := ev_sound hm0 smok_51 (fun f s h => (smok_51 f s h).2.1) fns_ok n
theorem sok_51 : SummOK Try.prog 51 s_51 := summ_shN (by decide) (fun _ => rfl) (fun _ => rfl) (call_51 1) (by kernel_rfl) run_51
theorem smok_36 : ∀ f s, sm_36 f = some s → SummOK Try.prog f s := by
  intro f s h
  unfold sm_36 at h
  by_cases h50 : f = 50
  · subst h50
    injection h with h
    subst h
    exact sok_50
  rw [nbeq_ne h50, cond_false] at h
  by_cases h51 : f = 51
  · subst h51
    injection h with h
    subst h
    exact sok_51
  rw [nbeq_ne h51, cond_false] at h
  cases h
theorem call_36 {R : Type} (n base : Nat) : CallOK Try.prog base (evFn (R := R) sm_36 fns FU n) := ev_sound hm0 smok_36 (fun f s h => (smok_36 f s h).2.1) fns_ok n
theorem sok_36 : SummOK Try.prog 36 s_36 := summ_shN (by decide) (fun _ => rfl) (fun _ => rfl) (call_36 1) (by kernel_rfl) run_36
theorem smok_12 : ∀ f s, sm_12 f = some s → SummOK Try.prog f s := by
  intro f s h
  unfold sm_12 at h
  by_cases h35 : f = 35
  · subst h35
    injection h with h
    subst h
    exact sok_35
  rw [nbeq_ne h35, cond_false] at h
  by_cases h36 : f = 36
  · subst h36
    injection h with h
    subst h
    exact sok_36
  rw [nbeq_ne h36, cond_false] at h
  cases h
theorem call_12 {R : Type} (n base : Nat) : CallOK Try.prog base (evFn (R := R) sm_12 fns FU n) := ev_sound hm0 smok_12 (fun f s h => (smok_12 f s h).2.1) fns_ok n
theorem sok_12 : SummOK Try.prog 12 s_12 := summ_shN (by decide) (fun _ => rfl) (fun _ => rfl) (call_12 1) (by kernel_rfl) run_12
theorem smok_17 : ∀ f s, sm_17 f = some s → SummOK Try.prog f s := by
  intro f s h
  unfold sm_17 at h
  by_cases h12 : f = 12
  · subst h12
    injection h with h
    subst h
    exact sok_12
  rw [nbeq_ne h12, cond_false] at h
  cases h
theorem call_17 {R : Type} (n base : Nat) : CallOK Try.prog base (evFn (R := R) sm_17 fns FU n) := ev_sound hm0 smok_17 (fun f s h => (smok_17 f s h).2.1) fns_ok n
theorem sok_17 : SummOK Try.prog 17 s_17 := summ_shN (by decide) (fun _ => rfl) (fun _ => rfl) (call_17 1) (by kernel_rfl) run_17
theorem smok_26 : ∀ f s, sm_26 f = some s → SummOK Try.prog f s := by
  intro f s h
  unfold sm_26 at h
  cases h
theorem call_26 {R : Type} (n base : Nat) : CallOK Try.prog base (evFn (R := R) sm_26 fns FU n) := ev_sound hm0 smok_26 (fun f s h => (smok_26 f s h).2.1) fns_ok n
theorem sok_26 : SummOK Try.prog 26 s_26 := summ_shN (by decide) (fun _ => rfl) (fun _ => rfl) (call_26 1) (by kernel_rfl) run_26
theorem smok_41 : ∀ f s, sm_41 f = some s → SummOK Try.prog f s := by
  intro f s h
  unfold sm_41 at h
  by_cases h12 : f = 12
  · subst h12
    injection h with h
    subst h
    exact sok_12
  rw [nbeq_ne h12, cond_false] at h
  cases h
theorem call_41 {R : Type} (n base : Nat) : CallOK Try.prog base (evFn (R := R) sm_41 fns FU n) := ev_sound hm0 smok_41 (fun f s h => (smok_41 f s h).2.1) fns_ok n
theorem sok_41 : SummOK Try.prog 41 s_41 := summ_shN (by decide) (fun _ => rfl) (fun _ => rfl) (call_41 1) (by kernel_rfl) run_41
theorem smok_42 : ∀ f s, sm_42 f = some s → SummOK Try.prog f s := by
  intro f s h
  unfold sm_42 at h
  by_cases h12 : f = 12
  · subst h12
    injection h with h
    subst h
    exact sok_12
  rw [nbeq_ne h12, cond_false] at h
  cases h
theorem call_42 {R : Type} (n base : Nat) : CallOK Try.prog base (evFn (R := R) sm_42 fns FU n) := ev_sound hm0 smok_42 (fun f s h => (smok_42 f s h).2.1) fns_ok n
theorem sok_42 : SummOK Try.prog 42 s_42 := summ_shN (by decide) (fun _ => rfl) (fun _ => rfl) (call_42 1) (by kernel_rfl) run_42
theorem smok_19 : ∀ f s, sm_19 f = some s → SummOK Try.prog f s := by
  intro f s h
  unfold sm_19 at h
  by_cases h15 : f = 15
  · subst h15
    injection h with h
    subst h
    exact sok_15
  rw [nbeq_ne h15, cond_false] at h
  by_cases h17 : f = 17
  · subst h17
    injection h with h
    subst h
    exact sok_17
  rw [nbeq_ne h17, cond_false] at h
  by_cases h26 : f = 26
  · subst h26
    injection h with h
    subst h
    exact sok_26
  rw [nbeq_ne h26, cond_false] at h
  by_cases h41 : f = 41
  · subst h41
    injection h with h
    subst h
    exact sok_41
  rw [nbeq_ne h41, cond_false] at h
  by_cases h42 : f = 42
  · subst h42
    injection h with h
    subst h
    exact sok_42
  rw [nbeq_ne h42, cond_false] at h
  cases h
theorem call_19 {R : Type} (n base : Nat) : CallOK Try.prog base (evFn (R := R) sm_19 fns FU n) := ev_sound hm0 smok_19 (fun f s h => (smok_19 f s h).2.1) fns_ok n
theorem sok_19 : SummOK Try.prog 19 s_19 := summ_shN (by decide) (fun _ => rfl) (fun _ => rfl) (call_19 1) (by kernel_rfl) run_19
theorem smok_6 : ∀ f s, sm_6 f = some s → SummOK Try.prog f s := by
  intro f s h
  unfold sm_6 at h
  by_cases h10 : f = 10
  · subst h10
    injection h with h
    subst h
    exact sok_10
  rw [nbeq_ne h10, cond_false] at h
  by_cases h18 : f = 18
  · subst h18
    injection h with h
    subst h
    exact sok_18
  rw [nbeq_ne h18, cond_false] at h
  by_cases h19 : f = 19
  · subst h19
    injection h with h
    subst h
    exact sok_19
  rw [nbeq_ne h19, cond_false] at h
  cases h
theorem call_6 {R : Type} (n base : Nat) : CallOK Try.prog base (evFn (R := R) sm_6 fns FU n) := ev_sound hm0 smok_6 (fun f s h => (smok_6 f s h).2.1) fns_ok n
end Go.Ev
