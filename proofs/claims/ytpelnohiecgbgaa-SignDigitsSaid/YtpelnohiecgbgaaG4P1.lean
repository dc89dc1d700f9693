/- Helpers: functions of the program as Lean functions, and what they compute. No condition. -/
import Derived.Test.YtpelnohiecgbgaaEvPart1
import Derived.Test.YtpelnohiecgbgaaEvPart2
import Derived.Test.YtpelnohiecgbgaaG4P0
import Derived.Test.YtpelnohiecgbgaaProg
set_option maxRecDepth 10000
set_option linter.unusedVariables false
set_option linter.unusedSimpArgs false
namespace Go.Ev
open Go
set_option maxRecDepth 100000
set_option maxHeartbeats 4000000
set_option linter.unusedVariables false
noncomputable section

def sm_11 : Nat → Option Summ := fun f => bif Nat.beq f 32 then some s_32 else bif Nat.beq f 47 then some s_47 else bif Nat.beq f 49 then some s_49 else none
def T_11_33_0_0 (p0 : List Int) (p1 : Int) (p2 : List Int) (p3 : List Int) (p4 : List Int) (p5 : List Int) : St := St.mk [CV.ptr (1 : Nat) [], CV.ptr (2 : Nat) [], CV.pure (Ty.slice (Ty.int IntKind.u8)) p0, CV.junk, CV.junk, CV.junk, CV.ptr (3 : Nat) [], CV.junk, CV.junk, CV.junk, CV.junk, CV.junk, CV.junk, CV.junk, CV.junk, CV.junk, CV.junk, CV.junk, CV.junk, CV.junk, CV.int IntKind.i64 p1, CV.junk, CV.junk, CV.junk, CV.junk, CV.junk, CV.junk, CV.junk, CV.junk, CV.junk, CV.junk, CV.junk, CV.junk, CV.junk, CV.junk, CV.junk, CV.junk, CV.junk, CV.junk, CV.junk, CV.junk, CV.junk, CV.junk, CV.junk, CV.junk, CV.junk, CV.junk, CV.junk, CV.junk, CV.junk, CV.junk, CV.junk, CV.junk, CV.junk, CV.junk, CV.junk, CV.junk, CV.junk, CV.junk, CV.junk, CV.junk, CV.junk, CV.junk, CV.junk, CV.junk, CV.junk, CV.junk, CV.junk, CV.junk, CV.junk, CV.junk, CV.junk, CV.junk, CV.junk, CV.junk, CV.junk, CV.junk, CV.junk, CV.junk, CV.junk, CV.junk, CV.junk, CV.junk, CV.junk, CV.junk, CV.junk, CV.junk, CV.junk, CV.junk, CV.junk, CV.junk, CV.junk, CV.junk, CV.junk, CV.junk, CV.junk, CV.junk, CV.junk, CV.junk, CV.junk, CV.junk, CV.junk, CV.junk, CV.junk, CV.junk, CV.junk, CV.junk, CV.junk, CV.junk, CV.junk, CV.junk, CV.junk, CV.junk, CV.junk, CV.junk, CV.junk, CV.junk, CV.junk, CV.junk, CV.junk, CV.junk, CV.junk, CV.junk, CV.junk, CV.junk, CV.junk, CV.junk, CV.junk, CV.junk, CV.junk, CV.junk, CV.junk, CV.junk, CV.junk, CV.junk, CV.junk, CV.junk, CV.junk, CV.junk, CV.junk, CV.junk, CV.junk, CV.junk, CV.junk, CV.junk, CV.junk, CV.junk, CV.junk, CV.junk, CV.junk, CV.junk, CV.junk, CV.junk, CV.junk, CV.junk, CV.junk, CV.junk, CV.junk, CV.junk, CV.junk, CV.junk, CV.junk, CV.junk, CV.junk, CV.junk, CV.junk, CV.junk, CV.junk, CV.junk, CV.junk, CV.junk, CV.junk, CV.junk, CV.junk, CV.junk, CV.junk] [Blk.mem (CV.pure (Ty.arr (32 : Nat) (Ty.int IntKind.u8)) p2), Blk.mem (CV.pure (Ty.arr (8 : Nat) (Ty.int IntKind.u32)) p3), Blk.mem (CV.pure (Ty.arr (64 : Nat) (Ty.int IntKind.u32)) p4), Blk.mem (CV.pure (Ty.arr (64 : Nat) (Ty.int IntKind.u32)) p5)] (3 : Nat)
def X_11_33_0_0_0 (p2 : List Int) (p3 : List Int) (p4 : List Int) (p5 : List Int) : St := St.mk [CV.ptr (1 : Nat) [], CV.ptr (2 : Nat) [], CV.junk, CV.junk, CV.junk, CV.junk, CV.ptr (3 : Nat) [], CV.junk, CV.junk, CV.junk, CV.junk, CV.junk, CV.junk, CV.junk, CV.junk, CV.junk, CV.junk, CV.junk, CV.junk, CV.junk, CV.junk, CV.junk, CV.junk, CV.junk, CV.junk, CV.junk, CV.junk, CV.junk, CV.junk, CV.junk, CV.junk, CV.junk, CV.junk, CV.junk, CV.junk, CV.junk, CV.junk, CV.junk, CV.junk, CV.junk, CV.junk, CV.junk, CV.junk, CV.junk, CV.junk, CV.junk, CV.junk, CV.junk, CV.junk, CV.junk, CV.junk, CV.junk, CV.junk, CV.junk, CV.junk, CV.junk, CV.junk, CV.junk, CV.junk, CV.junk, CV.junk, CV.junk, CV.junk, CV.junk, CV.junk, CV.junk, CV.junk, CV.junk, CV.junk, CV.junk, CV.junk, CV.junk, CV.junk, CV.junk, CV.junk, CV.junk, CV.junk, CV.junk, CV.junk, CV.junk, CV.junk, CV.junk, CV.junk, CV.junk, CV.junk, CV.junk, CV.junk, CV.junk, CV.junk, CV.junk, CV.junk, CV.junk, CV.junk, CV.junk, CV.junk, CV.junk, CV.junk, CV.junk, CV.junk, CV.junk, CV.junk, CV.junk, CV.junk, CV.junk, CV.junk, CV.junk, CV.junk, CV.junk, CV.junk, CV.junk, CV.junk, CV.junk, CV.junk, CV.junk, CV.junk, CV.junk, CV.junk, CV.junk, CV.junk, CV.junk, CV.junk, CV.junk, CV.junk, CV.junk, CV.junk, CV.junk, CV.junk, CV.junk, CV.junk, CV.junk, CV.junk, CV.junk, CV.junk, CV.junk, CV.junk, CV.junk, CV.junk, CV.junk, CV.junk, CV.junk, CV.junk, CV.junk, CV.junk, CV.junk, CV.junk, CV.junk, CV.junk, CV.junk, CV.junk, CV.junk, CV.junk, CV.junk, CV.junk, CV.junk, CV.junk, CV.junk, CV.junk, CV.junk, CV.junk, CV.junk, CV.junk, CV.junk, CV.junk, CV.junk, CV.junk, CV.junk, CV.junk, CV.junk, CV.junk, CV.junk, CV.junk, CV.junk, CV.junk, CV.junk, CV.junk, CV.junk] [Blk.mem (CV.pure (Ty.arr (32 : Nat) (Ty.int IntKind.u8)) p2), Blk.mem (CV.pure (Ty.arr (8 : Nat) (Ty.int IntKind.u32)) p3), Blk.mem (CV.pure (Ty.arr (64 : Nat) (Ty.int IntKind.u32)) p4), Blk.mem (CV.pure (Ty.arr (64 : Nat) (Ty.int IntKind.u32)) p5)] (3 : Nat)
inductive Sp.E_11_33_0_0 where
  | e0 (p2 : List Int) (p3 : List Int) (p4 : List Int) (p5 : List Int)
def Sp.B_11_33_0_0 {R : Type} (r : Option Sp.E_11_33_0_0) (k0 : (List Int) → (List Int) → (List Int) → (List Int) → Option R) : Option R := match r with
  | none => none
  | some (.e0 p2 p3 p4 p5) => k0 p2 p3 p4 p5
def Sp.L_11_33_0_0 : Nat → (List Int) → (Int) → (List Int) → (List Int) → (List Int) → (List Int) → Option Sp.E_11_33_0_0
  | 0, _, _, _, _, _, _ => none
  | m + 1, p0, p1, p2, p3, p4, p5 => bif decide (p1 < (16 : Int)) then gd (sl3 (IntKind.wrap IntKind.i64 ((4 : Int) * p1)) (↑(List.length p0) : Int) (↑(List.length p0) : Int)) (gd (Sp.p_47 (List.drop (Int.toNat (IntKind.wrap IntKind.i64 ((4 : Int) * p1))) p0)) (gd (inB p1 (64 : Nat)) (gd (decide (Int.toNat p1 < (64 : Nat)) && true) (Sp.L_11_33_0_0 m p0 (IntKind.wrap IntKind.i64 (p1 + (1 : Int))) p2 p3 p4 (List.set p5 (Int.toNat p1) (Prod.fst (Sp.v_47 (List.drop (Int.toNat (IntKind.wrap IntKind.i64 ((4 : Int) * p1))) p0)))))))) else some (Sp.E_11_33_0_0.e0 p2 p3 p4 p5)
def G_11_33_0_0 {R : Type} (p0 : List Int) (p1 : Int) (p2 : List Int) (p3 : List Int) (p4 : List Int) (p5 : List Int) (k : Ex → St → Option R) : Option R := Sp.B_11_33_0_0 (Sp.L_11_33_0_0 FU p0 p1 p2 p3 p4 p5) (fun p2 p3 p4 p5 => k (Ex.exit (0 : Nat)) (X_11_33_0_0_0 p2 p3 p4 p5))
def m_11_33_0_0 : St → Bool := fun T => match T.sl.getD 0 .junk, T.sl.getD 1 .junk, T.sl.getD 2 .junk, T.sl.getD 6 .junk, T.sl.getD 20 .junk, T.hp with
  | CV.ptr (1 : Nat) [], CV.ptr (2 : Nat) [], CV.pure (Ty.slice (Ty.int IntKind.u8)) p0, CV.ptr (3 : Nat) [], CV.int IntKind.i64 p1, ((Blk.mem (CV.pure (Ty.arr (32 : Nat) (Ty.int IntKind.u8)) p2)) :: (Blk.mem (CV.pure (Ty.arr (8 : Nat) (Ty.int IntKind.u32)) p3)) :: (Blk.mem (CV.pure (Ty.arr (64 : Nat) (Ty.int IntKind.u32)) p4)) :: (Blk.mem (CV.pure (Ty.arr (64 : Nat) (Ty.int IntKind.u32)) p5)) :: []) => shapeOK T 176 [0, 1, 2, 6, 20] (3 : Nat)
  | _, _, _, _, _, _ => false
def o_11_33_0_0 {R : Type} (G : (List Int) → (Int) → (List Int) → (List Int) → (List Int) → (List Int) → (Ex → St → Option R) → Option R) : St → (Ex → St → Option R) → Option R := fun T k => match T.sl.getD 0 .junk, T.sl.getD 1 .junk, T.sl.getD 2 .junk, T.sl.getD 6 .junk, T.sl.getD 20 .junk, T.hp with
  | CV.ptr (1 : Nat) [], CV.ptr (2 : Nat) [], CV.pure (Ty.slice (Ty.int IntKind.u8)) p0, CV.ptr (3 : Nat) [], CV.int IntKind.i64 p1, ((Blk.mem (CV.pure (Ty.arr (32 : Nat) (Ty.int IntKind.u8)) p2)) :: (Blk.mem (CV.pure (Ty.arr (8 : Nat) (Ty.int IntKind.u32)) p3)) :: (Blk.mem (CV.pure (Ty.arr (64 : Nat) (Ty.int IntKind.u32)) p4)) :: (Blk.mem (CV.pure (Ty.arr (64 : Nat) (Ty.int IntKind.u32)) p5)) :: []) => gd (shapeOK T 176 [0, 1, 2, 6, 20] (3 : Nat)) (G p0 p1 p2 p3 p4 p5 k)
  | _, _, _, _, _, _ => none
theorem o_11_33_0_0_inv {R : Type} {G : (List Int) → (Int) → (List Int) → (List Int) → (List Int) → (List Int) → (Ex → St → Option R) → Option R} {T : St} {k : Ex → St → Option R} {r : R} (h : o_11_33_0_0 G T k = some r) : ∃ p0 p1 p2 p3 p4 p5, T = T_11_33_0_0 p0 p1 p2 p3 p4 p5 ∧ G p0 p1 p2 p3 p4 p5 k = some r := by
  unfold o_11_33_0_0 at h
  split at h
  · obtain ⟨hs, h'⟩ := gd_some h
    refine ⟨_, _, _, _, _, _, (st_of (asg := [(0, _), (1, _), (2, _), (6, _), (20, _)]) hs ⟨by assumption, by assumption, by assumption, by assumption, by assumption, trivial⟩ (by assumption)).trans ?_, h'⟩
    kernel_rfl
  · cases h
def T_11_33_1_0 (p0 : Int) (p1 : List Int) (p2 : List Int) (p3 : List Int) (p4 : List Int) : St := St.mk [CV.ptr (1 : Nat) [], CV.ptr (2 : Nat) [], CV.junk, CV.junk, CV.junk, CV.junk, CV.ptr (3 : Nat) [], CV.junk, CV.int IntKind.i64 p0, CV.junk, CV.junk, CV.junk, CV.junk, CV.junk, CV.junk, CV.junk, CV.junk, CV.junk, CV.junk, CV.junk, CV.junk, CV.junk, CV.junk, CV.junk, CV.junk, CV.junk, CV.junk, CV.junk, CV.junk, CV.junk, CV.junk, CV.junk, CV.junk, CV.junk, CV.junk, CV.junk, CV.junk, CV.junk, CV.junk, CV.junk, CV.junk, CV.junk, CV.junk, CV.junk, CV.junk, CV.junk, CV.junk, CV.junk, CV.junk, CV.junk, CV.junk, CV.junk, CV.junk, CV.junk, CV.junk, CV.junk, CV.junk, CV.junk, CV.junk, CV.junk, CV.junk, CV.junk, CV.junk, CV.junk, CV.junk, CV.junk, CV.junk, CV.junk, CV.junk, CV.junk, CV.junk, CV.junk, CV.junk, CV.junk, CV.junk, CV.junk, CV.junk, CV.junk, CV.junk, CV.junk, CV.junk, CV.junk, CV.junk, CV.junk, CV.junk, CV.junk, CV.junk, CV.junk, CV.junk, CV.junk, CV.junk, CV.junk, CV.junk, CV.junk, CV.junk, CV.junk, CV.junk, CV.junk, CV.junk, CV.junk, CV.junk, CV.junk, CV.junk, CV.junk, CV.junk, CV.junk, CV.junk, CV.junk, CV.junk, CV.junk, CV.junk, CV.junk, CV.junk, CV.junk, CV.junk, CV.junk, CV.junk, CV.junk, CV.junk, CV.junk, CV.junk, CV.junk, CV.junk, CV.junk, CV.junk, CV.junk, CV.junk, CV.junk, CV.junk, CV.junk, CV.junk, CV.junk, CV.junk, CV.junk, CV.junk, CV.junk, CV.junk, CV.junk, CV.junk, CV.junk, CV.junk, CV.junk, CV.junk, CV.junk, CV.junk, CV.junk, CV.junk, CV.junk, CV.junk, CV.junk, CV.junk, CV.junk, CV.junk, CV.junk, CV.junk, CV.junk, CV.junk, CV.junk, CV.junk, CV.junk, CV.junk, CV.junk, CV.junk, CV.junk, CV.junk, CV.junk, CV.junk, CV.junk, CV.junk, CV.junk, CV.junk, CV.junk, CV.junk, CV.junk, CV.junk, CV.junk] [Blk.mem (CV.pure (Ty.arr (32 : Nat) (Ty.int IntKind.u8)) p1), Blk.mem (CV.pure (Ty.arr (8 : Nat) (Ty.int IntKind.u32)) p2), Blk.mem (CV.pure (Ty.arr (64 : Nat) (Ty.int IntKind.u32)) p3), Blk.mem (CV.pure (Ty.arr (64 : Nat) (Ty.int IntKind.u32)) p4)] (3 : Nat)
def X_11_33_1_0_0 (p1 : List Int) (p2 : List Int) (p3 : List Int) (p4 : List Int) : St := St.mk [CV.ptr (1 : Nat) [], CV.ptr (2 : Nat) [], CV.junk, CV.junk, CV.junk, CV.junk, CV.ptr (3 : Nat) [], CV.junk, CV.junk, CV.junk, CV.junk, CV.junk, CV.junk, CV.junk, CV.junk, CV.junk, CV.junk, CV.junk, CV.junk, CV.junk, CV.junk, CV.junk, CV.junk, CV.junk, CV.junk, CV.junk, CV.junk, CV.junk, CV.junk, CV.junk, CV.junk, CV.junk, CV.junk, CV.junk, CV.junk, CV.junk, CV.junk, CV.junk, CV.junk, CV.junk, CV.junk, CV.junk, CV.junk, CV.junk, CV.junk, CV.junk, CV.junk, CV.junk, CV.junk, CV.junk, CV.junk, CV.junk, CV.junk, CV.junk, CV.junk, CV.junk, CV.junk, CV.junk, CV.junk, CV.junk, CV.junk, CV.junk, CV.junk, CV.junk, CV.junk, CV.junk, CV.junk, CV.junk, CV.junk, CV.junk, CV.junk, CV.junk, CV.junk, CV.junk, CV.junk, CV.junk, CV.junk, CV.junk, CV.junk, CV.junk, CV.junk, CV.junk, CV.junk, CV.junk, CV.junk, CV.junk, CV.junk, CV.junk, CV.junk, CV.junk, CV.junk, CV.junk, CV.junk, CV.junk, CV.junk, CV.junk, CV.junk, CV.junk, CV.junk, CV.junk, CV.junk, CV.junk, CV.junk, CV.junk, CV.junk, CV.junk, CV.junk, CV.junk, CV.junk, CV.junk, CV.junk, CV.junk, CV.junk, CV.junk, CV.junk, CV.junk, CV.junk, CV.junk, CV.junk, CV.junk, CV.junk, CV.junk, CV.junk, CV.junk, CV.junk, CV.junk, CV.junk, CV.junk, CV.junk, CV.junk, CV.junk, CV.junk, CV.junk, CV.junk, CV.junk, CV.junk, CV.junk, CV.junk, CV.junk, CV.junk, CV.junk, CV.junk, CV.junk, CV.junk, CV.junk, CV.junk, CV.junk, CV.junk, CV.junk, CV.junk, CV.junk, CV.junk, CV.junk, CV.junk, CV.junk, CV.junk, CV.junk, CV.junk, CV.junk, CV.junk, CV.junk, CV.junk, CV.junk, CV.junk, CV.junk, CV.junk, CV.junk, CV.junk, CV.junk, CV.junk, CV.junk, CV.junk, CV.junk, CV.junk, CV.junk, CV.junk] [Blk.mem (CV.pure (Ty.arr (32 : Nat) (Ty.int IntKind.u8)) p1), Blk.mem (CV.pure (Ty.arr (8 : Nat) (Ty.int IntKind.u32)) p2), Blk.mem (CV.pure (Ty.arr (64 : Nat) (Ty.int IntKind.u32)) p3), Blk.mem (CV.pure (Ty.arr (64 : Nat) (Ty.int IntKind.u32)) p4)] (3 : Nat)
inductive Sp.E_11_33_1_0 where
  | e0 (p1 : List Int) (p2 : List Int) (p3 : List Int) (p4 : List Int)
def Sp.B_11_33_1_0 {R : Type} (r : Option Sp.E_11_33_1_0) (k0 : (List Int) → (List Int) → (List Int) → (List Int) → Option R) : Option R := match r with
  | none => none
  | some (.e0 p1 p2 p3 p4) => k0 p1 p2 p3 p4
def Sp.L_11_33_1_0 : Nat → (Int) → (List Int) → (List Int) → (List Int) → (List Int) → Option Sp.E_11_33_1_0
  | 0, _, _, _, _, _ => none
  | m + 1, p0, p1, p2, p3, p4 => bif decide (p0 < (64 : Int)) then gd (inB (IntKind.wrap IntKind.i64 (p0 - (15 : Int))) (64 : Nat)) (gd (decide (Int.toNat (IntKind.wrap IntKind.i64 (p0 - (15 : Int))) < (64 : Nat)) && true) (gd (inB (IntKind.wrap IntKind.i64 (p0 - (2 : Int))) (64 : Nat)) (gd (decide (Int.toNat (IntKind.wrap IntKind.i64 (p0 - (2 : Int))) < (64 : Nat)) && true) (gd (Sp.p_49 (List.getD p4 (Int.toNat (IntKind.wrap IntKind.i64 (p0 - (15 : Int)))) (0 : Int)) (7 : Int)) (gd (Sp.p_49 (List.getD p4 (Int.toNat (IntKind.wrap IntKind.i64 (p0 - (15 : Int)))) (0 : Int)) (18 : Int)) (gd (Sp.p_49 (List.getD p4 (Int.toNat (IntKind.wrap IntKind.i64 (p0 - (2 : Int)))) (0 : Int)) (17 : Int)) (gd (Sp.p_49 (List.getD p4 (Int.toNat (IntKind.wrap IntKind.i64 (p0 - (2 : Int)))) (0 : Int)) (19 : Int)) (gd (inB (IntKind.wrap IntKind.i64 (p0 - (7 : Int))) (64 : Nat)) (gd (decide (Int.toNat (IntKind.wrap IntKind.i64 (p0 - (7 : Int))) < (64 : Nat)) && true) (gd (inB (IntKind.wrap IntKind.i64 (p0 - (16 : Int))) (64 : Nat)) (gd (decide (Int.toNat (IntKind.wrap IntKind.i64 (p0 - (16 : Int))) < (64 : Nat)) && true) (gd (inB p0 (64 : Nat)) (gd (decide (Int.toNat p0 < (64 : Nat)) && true) (Sp.L_11_33_1_0 m (IntKind.wrap IntKind.i64 (p0 + (1 : Int))) p1 p2 p3 (List.set p4 (Int.toNat p0) (IntKind.wrap IntKind.u32 (IntKind.wrap IntKind.u32 (IntKind.wrap IntKind.u32 (Sp.xorI IntKind.u32 (Sp.xorI IntKind.u32 (Prod.fst (Sp.v_49 (List.getD p4 (Int.toNat (IntKind.wrap IntKind.i64 (p0 - (2 : Int)))) (0 : Int)) (17 : Int))) (Prod.fst (Sp.v_49 (List.getD p4 (Int.toNat (IntKind.wrap IntKind.i64 (p0 - (2 : Int)))) (0 : Int)) (19 : Int)))) (Int.fdiv (List.getD p4 (Int.toNat (IntKind.wrap IntKind.i64 (p0 - (2 : Int)))) (0 : Int)) (1024 : Int)) + List.getD p4 (Int.toNat (IntKind.wrap IntKind.i64 (p0 - (7 : Int)))) (0 : Int)) + Sp.xorI IntKind.u32 (Sp.xorI IntKind.u32 (Prod.fst (Sp.v_49 (List.getD p4 (Int.toNat (IntKind.wrap IntKind.i64 (p0 - (15 : Int)))) (0 : Int)) (7 : Int))) (Prod.fst (Sp.v_49 (List.getD p4 (Int.toNat (IntKind.wrap IntKind.i64 (p0 - (15 : Int)))) (0 : Int)) (18 : Int)))) (Int.fdiv (List.getD p4 (Int.toNat (IntKind.wrap IntKind.i64 (p0 - (15 : Int)))) (0 : Int)) (8 : Int))) + List.getD p4 (Int.toNat (IntKind.wrap IntKind.i64 (p0 - (16 : Int)))) (0 : Int)))))))))))))))))) else some (Sp.E_11_33_1_0.e0 p1 p2 p3 p4)
def G_11_33_1_0 {R : Type} (p0 : Int) (p1 : List Int) (p2 : List Int) (p3 : List Int) (p4 : List Int) (k : Ex → St → Option R) : Option R := Sp.B_11_33_1_0 (Sp.L_11_33_1_0 FU p0 p1 p2 p3 p4) (fun p1 p2 p3 p4 => k (Ex.exit (2 : Nat)) (X_11_33_1_0_0 p1 p2 p3 p4))
def m_11_33_1_0 : St → Bool := fun T => match T.sl.getD 0 .junk, T.sl.getD 1 .junk, T.sl.getD 6 .junk, T.sl.getD 8 .junk, T.hp with
  | CV.ptr (1 : Nat) [], CV.ptr (2 : Nat) [], CV.ptr (3 : Nat) [], CV.int IntKind.i64 p0, ((Blk.mem (CV.pure (Ty.arr (32 : Nat) (Ty.int IntKind.u8)) p1)) :: (Blk.mem (CV.pure (Ty.arr (8 : Nat) (Ty.int IntKind.u32)) p2)) :: (Blk.mem (CV.pure (Ty.arr (64 : Nat) (Ty.int IntKind.u32)) p3)) :: (Blk.mem (CV.pure (Ty.arr (64 : Nat) (Ty.int IntKind.u32)) p4)) :: []) => shapeOK T 176 [0, 1, 6, 8] (3 : Nat)
  | _, _, _, _, _ => false
def o_11_33_1_0 {R : Type} (G : (Int) → (List Int) → (List Int) → (List Int) → (List Int) → (Ex → St → Option R) → Option R) : St → (Ex → St → Option R) → Option R := fun T k => match T.sl.getD 0 .junk, T.sl.getD 1 .junk, T.sl.getD 6 .junk, T.sl.getD 8 .junk, T.hp with
  | CV.ptr (1 : Nat) [], CV.ptr (2 : Nat) [], CV.ptr (3 : Nat) [], CV.int IntKind.i64 p0, ((Blk.mem (CV.pure (Ty.arr (32 : Nat) (Ty.int IntKind.u8)) p1)) :: (Blk.mem (CV.pure (Ty.arr (8 : Nat) (Ty.int IntKind.u32)) p2)) :: (Blk.mem (CV.pure (Ty.arr (64 : Nat) (Ty.int IntKind.u32)) p3)) :: (Blk.mem (CV.pure (Ty.arr (64 : Nat) (Ty.int IntKind.u32)) p4)) :: []) => gd (shapeOK T 176 [0, 1, 6, 8] (3 : Nat)) (G p0 p1 p2 p3 p4 k)
  | _, _, _, _, _ => none
theorem o_11_33_1_0_inv {R : Type} {G : (Int) → (List Int) → (List Int) → (List Int) → (List Int) → (Ex → St → Option R) → Option R} {T : St} {k : Ex → St → Option R} {r : R} (h : o_11_33_1_0 G T k = some r) : ∃ p0 p1 p2 p3 p4, T = T_11_33_1_0 p0 p1 p2 p3 p4 ∧ G p0 p1 p2 p3 p4 k = some r := by
  unfold o_11_33_1_0 at h
  split at h
  · obtain ⟨hs, h'⟩ := gd_some h
    refine ⟨_, _, _, _, _, (st_of (asg := [(0, _), (1, _), (6, _), (8, _)]) hs ⟨by assumption, by assumption, by assumption, by assumption, trivial⟩ (by assumption)).trans ?_, h'⟩
    kernel_rfl
  · cases h
def T_11_33_2_0 (p0 : Int) (p1 : List Int) (p2 : List Int) (p3 : List Int) (p4 : List Int) (p5 : List Int) : St := St.mk [CV.ptr (1 : Nat) [], CV.ptr (2 : Nat) [], CV.junk, CV.junk, CV.junk, CV.junk, CV.ptr (3 : Nat) [], CV.junk, CV.junk, CV.junk, CV.junk, CV.junk, CV.junk, CV.ptr (4 : Nat) [], CV.junk, CV.junk, CV.junk, CV.junk, CV.junk, CV.junk, CV.junk, CV.junk, CV.junk, CV.junk, CV.junk, CV.junk, CV.junk, CV.junk, CV.junk, CV.junk, CV.junk, CV.junk, CV.junk, CV.junk, CV.junk, CV.junk, CV.junk, CV.junk, CV.junk, CV.junk, CV.junk, CV.junk, CV.junk, CV.junk, CV.junk, CV.junk, CV.junk, CV.junk, CV.junk, CV.junk, CV.junk, CV.junk, CV.junk, CV.junk, CV.junk, CV.junk, CV.junk, CV.junk, CV.junk, CV.junk, CV.junk, CV.junk, CV.junk, CV.junk, CV.junk, CV.junk, CV.junk, CV.junk, CV.junk, CV.junk, CV.junk, CV.junk, CV.junk, CV.junk, CV.junk, CV.junk, CV.junk, CV.int IntKind.i64 p0, CV.junk, CV.junk, CV.junk, CV.junk, CV.junk, CV.junk, CV.junk, CV.junk, CV.junk, CV.junk, CV.junk, CV.junk, CV.junk, CV.junk, CV.junk, CV.junk, CV.junk, CV.junk, CV.junk, CV.junk, CV.junk, CV.junk, CV.junk, CV.junk, CV.junk, CV.junk, CV.junk, CV.junk, CV.junk, CV.junk, CV.junk, CV.junk, CV.junk, CV.junk, CV.junk, CV.junk, CV.junk, CV.junk, CV.junk, CV.junk, CV.junk, CV.junk, CV.junk, CV.junk, CV.junk, CV.junk, CV.junk, CV.junk, CV.junk, CV.junk, CV.junk, CV.junk, CV.junk, CV.junk, CV.junk, CV.junk, CV.junk, CV.junk, CV.junk, CV.junk, CV.junk, CV.junk, CV.junk, CV.junk, CV.junk, CV.junk, CV.junk, CV.junk, CV.junk, CV.junk, CV.junk, CV.junk, CV.junk, CV.junk, CV.junk, CV.junk, CV.junk, CV.junk, CV.junk, CV.junk, CV.junk, CV.junk, CV.junk, CV.junk, CV.junk, CV.junk, CV.junk, CV.junk, CV.junk, CV.junk, CV.junk, CV.junk, CV.junk, CV.junk, CV.junk, CV.junk, CV.junk, CV.junk] [Blk.mem (CV.pure (Ty.arr (32 : Nat) (Ty.int IntKind.u8)) p1), Blk.mem (CV.pure (Ty.arr (8 : Nat) (Ty.int IntKind.u32)) p2), Blk.mem (CV.pure (Ty.arr (64 : Nat) (Ty.int IntKind.u32)) p3), Blk.mem (CV.pure (Ty.arr (64 : Nat) (Ty.int IntKind.u32)) p4), Blk.mem (CV.pure (Ty.arr (8 : Nat) (Ty.int IntKind.u32)) p5)] (3 : Nat)
def X_11_33_2_0_0 (p1 : List Int) (p2 : List Int) (p3 : List Int) (p5 : List Int) : St := St.mk [CV.ptr (1 : Nat) [], CV.junk, CV.junk, CV.junk, CV.junk, CV.junk, CV.junk, CV.junk, CV.junk, CV.junk, CV.junk, CV.junk, CV.junk, CV.ptr (3 : Nat) [], CV.junk, CV.junk, CV.junk, CV.junk, CV.junk, CV.junk, CV.junk, CV.junk, CV.junk, CV.junk, CV.junk, CV.junk, CV.junk, CV.junk, CV.junk, CV.junk, CV.junk, CV.junk, CV.junk, CV.junk, CV.junk, CV.junk, CV.junk, CV.junk, CV.junk, CV.junk, CV.junk, CV.junk, CV.junk, CV.junk, CV.junk, CV.junk, CV.junk, CV.junk, CV.junk, CV.junk, CV.junk, CV.junk, CV.junk, CV.junk, CV.junk, CV.junk, CV.junk, CV.junk, CV.junk, CV.junk, CV.junk, CV.junk, CV.junk, CV.junk, CV.junk, CV.junk, CV.junk, CV.junk, CV.junk, CV.junk, CV.junk, CV.junk, CV.junk, CV.junk, CV.junk, CV.junk, CV.junk, CV.junk, CV.junk, CV.junk, CV.junk, CV.junk, CV.junk, CV.junk, CV.junk, CV.junk, CV.junk, CV.junk, CV.junk, CV.junk, CV.junk, CV.junk, CV.junk, CV.junk, CV.junk, CV.junk, CV.junk, CV.junk, CV.junk, CV.junk, CV.junk, CV.junk, CV.junk, CV.junk, CV.junk, CV.junk, CV.junk, CV.junk, CV.junk, CV.junk, CV.junk, CV.junk, CV.junk, CV.junk, CV.junk, CV.junk, CV.junk, CV.junk, CV.junk, CV.junk, CV.junk, CV.junk, CV.junk, CV.junk, CV.junk, CV.junk, CV.junk, CV.junk, CV.junk, CV.junk, CV.junk, CV.junk, CV.junk, CV.junk, CV.junk, CV.junk, CV.junk, CV.junk, CV.junk, CV.junk, CV.junk, CV.junk, CV.junk, CV.junk, CV.junk, CV.junk, CV.junk, CV.junk, CV.junk, CV.junk, CV.junk, CV.junk, CV.junk, CV.junk, CV.junk, CV.junk, CV.junk, CV.junk, CV.junk, CV.junk, CV.junk, CV.junk, CV.junk, CV.junk, CV.junk, CV.junk, CV.junk, CV.junk, CV.junk, CV.junk, CV.junk, CV.junk, CV.junk, CV.junk, CV.junk, CV.junk] [Blk.mem (CV.pure (Ty.arr (32 : Nat) (Ty.int IntKind.u8)) p1), Blk.mem (CV.pure (Ty.arr (8 : Nat) (Ty.int IntKind.u32)) p2), Blk.mem (CV.pure (Ty.arr (64 : Nat) (Ty.int IntKind.u32)) p3), Blk.mem (CV.pure (Ty.arr (8 : Nat) (Ty.int IntKind.u32)) p5)] (3 : Nat)
inductive Sp.E_11_33_2_0 where
  | e0 (p1 : List Int) (p2 : List Int) (p3 : List Int) (p5 : List Int)
def Sp.B_11_33_2_0 {R : Type} (r : Option Sp.E_11_33_2_0) (k0 : (List Int) → (List Int) → (List Int) → (List Int) → Option R) : Option R := match r with
  | none => none
  | some (.e0 p1 p2 p3 p5) => k0 p1 p2 p3 p5
def Sp.L_11_33_2_0 : Nat → (Int) → (List Int) → (List Int) → (List Int) → (List Int) → (List Int) → Option Sp.E_11_33_2_0
  | 0, _, _, _, _, _, _ => none
  | m + 1, p0, p1, p2, p3, p4, p5 => bif decide (p0 < (64 : Int)) then gd (Sp.p_49 (List.getD p5 (4 : Nat) (0 : Int)) (6 : Int)) (gd (Sp.p_49 (List.getD p5 (4 : Nat) (0 : Int)) (11 : Int)) (gd (Sp.p_49 (List.getD p5 (4 : Nat) (0 : Int)) (25 : Int)) (gd (inB p0 (64 : Nat)) (gd (decide (Int.toNat p0 < (64 : Nat)) && true) (gd (inB p0 (64 : Nat)) (gd (decide (Int.toNat p0 < (64 : Nat)) && true) (gd (Sp.p_49 (List.getD p5 (0 : Nat) (0 : Int)) (2 : Int)) (gd (Sp.p_49 (List.getD p5 (0 : Nat) (0 : Int)) (13 : Int)) (gd (Sp.p_49 (List.getD p5 (0 : Nat) (0 : Int)) (22 : Int)) (Sp.L_11_33_2_0 m (IntKind.wrap IntKind.i64 (p0 + (1 : Int))) p1 p2 p3 p4 [IntKind.wrap IntKind.u32 (IntKind.wrap IntKind.u32 (IntKind.wrap IntKind.u32 (IntKind.wrap IntKind.u32 (IntKind.wrap IntKind.u32 (List.getD p5 (7 : Nat) (0 : Int) + Sp.xorI IntKind.u32 (Sp.xorI IntKind.u32 (Prod.fst (Sp.v_49 (List.getD p5 (4 : Nat) (0 : Int)) (6 : Int))) (Prod.fst (Sp.v_49 (List.getD p5 (4 : Nat) (0 : Int)) (11 : Int)))) (Prod.fst (Sp.v_49 (List.getD p5 (4 : Nat) (0 : Int)) (25 : Int)))) + Sp.xorI IntKind.u32 (Sp.andI IntKind.u32 (List.getD p5 (4 : Nat) (0 : Int)) (List.getD p5 (5 : Nat) (0 : Int))) (Sp.andI IntKind.u32 (Sp.xorI IntKind.u32 (4294967295 : Int) (List.getD p5 (4 : Nat) (0 : Int))) (List.getD p5 (6 : Nat) (0 : Int)))) + List.getD p3 (Int.toNat p0) (0 : Int)) + List.getD p4 (Int.toNat p0) (0 : Int)) + IntKind.wrap IntKind.u32 (Sp.xorI IntKind.u32 (Sp.xorI IntKind.u32 (Prod.fst (Sp.v_49 (List.getD p5 (0 : Nat) (0 : Int)) (2 : Int))) (Prod.fst (Sp.v_49 (List.getD p5 (0 : Nat) (0 : Int)) (13 : Int)))) (Prod.fst (Sp.v_49 (List.getD p5 (0 : Nat) (0 : Int)) (22 : Int))) + Sp.xorI IntKind.u32 (Sp.xorI IntKind.u32 (Sp.andI IntKind.u32 (List.getD p5 (0 : Nat) (0 : Int)) (List.getD p5 (1 : Nat) (0 : Int))) (Sp.andI IntKind.u32 (List.getD p5 (0 : Nat) (0 : Int)) (List.getD p5 (2 : Nat) (0 : Int)))) (Sp.andI IntKind.u32 (List.getD p5 (1 : Nat) (0 : Int)) (List.getD p5 (2 : Nat) (0 : Int))))), List.getD p5 (0 : Nat) (0 : Int), List.getD p5 (1 : Nat) (0 : Int), List.getD p5 (2 : Nat) (0 : Int), IntKind.wrap IntKind.u32 (List.getD p5 (3 : Nat) (0 : Int) + IntKind.wrap IntKind.u32 (IntKind.wrap IntKind.u32 (IntKind.wrap IntKind.u32 (IntKind.wrap IntKind.u32 (List.getD p5 (7 : Nat) (0 : Int) + Sp.xorI IntKind.u32 (Sp.xorI IntKind.u32 (Prod.fst (Sp.v_49 (List.getD p5 (4 : Nat) (0 : Int)) (6 : Int))) (Prod.fst (Sp.v_49 (List.getD p5 (4 : Nat) (0 : Int)) (11 : Int)))) (Prod.fst (Sp.v_49 (List.getD p5 (4 : Nat) (0 : Int)) (25 : Int)))) + Sp.xorI IntKind.u32 (Sp.andI IntKind.u32 (List.getD p5 (4 : Nat) (0 : Int)) (List.getD p5 (5 : Nat) (0 : Int))) (Sp.andI IntKind.u32 (Sp.xorI IntKind.u32 (4294967295 : Int) (List.getD p5 (4 : Nat) (0 : Int))) (List.getD p5 (6 : Nat) (0 : Int)))) + List.getD p3 (Int.toNat p0) (0 : Int)) + List.getD p4 (Int.toNat p0) (0 : Int))), List.getD p5 (4 : Nat) (0 : Int), List.getD p5 (5 : Nat) (0 : Int), List.getD p5 (6 : Nat) (0 : Int)])))))))))) else some (Sp.E_11_33_2_0.e0 p1 p2 p3 p5)
def G_11_33_2_0 {R : Type} (p0 : Int) (p1 : List Int) (p2 : List Int) (p3 : List Int) (p4 : List Int) (p5 : List Int) (k : Ex → St → Option R) : Option R := Sp.B_11_33_2_0 (Sp.L_11_33_2_0 FU p0 p1 p2 p3 p4 p5) (fun p1 p2 p3 p5 => k (Ex.exit (4 : Nat)) (X_11_33_2_0_0 p1 p2 p3 p5))
def m_11_33_2_0 : St → Bool := fun T => match T.sl.getD 0 .junk, T.sl.getD 1 .junk, T.sl.getD 6 .junk, T.sl.getD 13 .junk, T.sl.getD 77 .junk, T.hp with
  | CV.ptr (1 : Nat) [], CV.ptr (2 : Nat) [], CV.ptr (3 : Nat) [], CV.ptr (4 : Nat) [], CV.int IntKind.i64 p0, ((Blk.mem (CV.pure (Ty.arr (32 : Nat) (Ty.int IntKind.u8)) p1)) :: (Blk.mem (CV.pure (Ty.arr (8 : Nat) (Ty.int IntKind.u32)) p2)) :: (Blk.mem (CV.pure (Ty.arr (64 : Nat) (Ty.int IntKind.u32)) p3)) :: (Blk.mem (CV.pure (Ty.arr (64 : Nat) (Ty.int IntKind.u32)) p4)) :: (Blk.mem (CV.pure (Ty.arr (8 : Nat) (Ty.int IntKind.u32)) p5)) :: []) => shapeOK T 176 [0, 1, 6, 13, 77] (3 : Nat)
  | _, _, _, _, _, _ => false
def o_11_33_2_0 {R : Type} (G : (Int) → (List Int) → (List Int) → (List Int) → (List Int) → (List Int) → (Ex → St → Option R) → Option R) : St → (Ex → St → Option R) → Option R := fun T k => match T.sl.getD 0 .junk, T.sl.getD 1 .junk, T.sl.getD 6 .junk, T.sl.getD 13 .junk, T.sl.getD 77 .junk, T.hp with
  | CV.ptr (1 : Nat) [], CV.ptr (2 : Nat) [], CV.ptr (3 : Nat) [], CV.ptr (4 : Nat) [], CV.int IntKind.i64 p0, ((Blk.mem (CV.pure (Ty.arr (32 : Nat) (Ty.int IntKind.u8)) p1)) :: (Blk.mem (CV.pure (Ty.arr (8 : Nat) (Ty.int IntKind.u32)) p2)) :: (Blk.mem (CV.pure (Ty.arr (64 : Nat) (Ty.int IntKind.u32)) p3)) :: (Blk.mem (CV.pure (Ty.arr (64 : Nat) (Ty.int IntKind.u32)) p4)) :: (Blk.mem (CV.pure (Ty.arr (8 : Nat) (Ty.int IntKind.u32)) p5)) :: []) => gd (shapeOK T 176 [0, 1, 6, 13, 77] (3 : Nat)) (G p0 p1 p2 p3 p4 p5 k)
  | _, _, _, _, _, _ => none
theorem o_11_33_2_0_inv {R : Type} {G : (Int) → (List Int) → (List Int) → (List Int) → (List Int) → (List Int) → (Ex → St → Option R) → Option R} {T : St} {k : Ex → St → Option R} {r : R} (h : o_11_33_2_0 G T k = some r) : ∃ p0 p1 p2 p3 p4 p5, T = T_11_33_2_0 p0 p1 p2 p3 p4 p5 ∧ G p0 p1 p2 p3 p4 p5 k = some r := by
  unfold o_11_33_2_0 at h
  split at h
  · obtain ⟨hs, h'⟩ := gd_some h
    refine ⟨_, _, _, _, _, _, (st_of (asg := [(0, _), (1, _), (6, _), (13, _), (77, _)]) hs ⟨by assumption, by assumption, by assumption, by assumption, by assumption, trivial⟩ (by assumption)).trans ?_, h'⟩
    kernel_rfl
  · cases h
def T_11_33_3_0 (p0 : Int) (p1 : List Int) (p2 : List Int) (p3 : List Int) (p4 : List Int) : St := St.mk [CV.ptr (1 : Nat) [], CV.junk, CV.junk, CV.junk, CV.junk, CV.junk, CV.junk, CV.junk, CV.junk, CV.junk, CV.junk, CV.junk, CV.junk, CV.ptr (3 : Nat) [], CV.junk, CV.junk, CV.junk, CV.junk, CV.junk, CV.junk, CV.junk, CV.junk, CV.junk, CV.junk, CV.junk, CV.junk, CV.junk, CV.junk, CV.junk, CV.junk, CV.junk, CV.junk, CV.junk, CV.junk, CV.junk, CV.junk, CV.junk, CV.junk, CV.junk, CV.junk, CV.junk, CV.junk, CV.junk, CV.junk, CV.junk, CV.junk, CV.junk, CV.junk, CV.junk, CV.junk, CV.junk, CV.junk, CV.junk, CV.junk, CV.junk, CV.junk, CV.junk, CV.junk, CV.junk, CV.junk, CV.junk, CV.junk, CV.junk, CV.junk, CV.junk, CV.junk, CV.junk, CV.junk, CV.junk, CV.junk, CV.junk, CV.junk, CV.junk, CV.junk, CV.junk, CV.junk, CV.junk, CV.junk, CV.junk, CV.junk, CV.junk, CV.junk, CV.junk, CV.junk, CV.junk, CV.junk, CV.junk, CV.junk, CV.junk, CV.junk, CV.junk, CV.junk, CV.junk, CV.junk, CV.junk, CV.junk, CV.junk, CV.junk, CV.junk, CV.junk, CV.junk, CV.junk, CV.junk, CV.junk, CV.junk, CV.junk, CV.junk, CV.junk, CV.junk, CV.junk, CV.junk, CV.junk, CV.junk, CV.junk, CV.junk, CV.junk, CV.junk, CV.junk, CV.junk, CV.junk, CV.junk, CV.junk, CV.junk, CV.junk, CV.junk, CV.junk, CV.junk, CV.junk, CV.junk, CV.junk, CV.junk, CV.junk, CV.junk, CV.junk, CV.junk, CV.junk, CV.junk, CV.junk, CV.junk, CV.junk, CV.junk, CV.junk, CV.junk, CV.junk, CV.junk, CV.junk, CV.junk, CV.junk, CV.junk, CV.junk, CV.junk, CV.junk, CV.junk, CV.junk, CV.junk, CV.junk, CV.junk, CV.junk, CV.junk, CV.junk, CV.junk, CV.int IntKind.i64 p0, CV.junk, CV.junk, CV.junk, CV.junk, CV.junk, CV.junk, CV.junk, CV.junk, CV.junk, CV.junk, CV.junk, CV.junk, CV.junk, CV.junk] [Blk.mem (CV.pure (Ty.arr (32 : Nat) (Ty.int IntKind.u8)) p1), Blk.mem (CV.pure (Ty.arr (8 : Nat) (Ty.int IntKind.u32)) p2), Blk.mem (CV.pure (Ty.arr (64 : Nat) (Ty.int IntKind.u32)) p3), Blk.mem (CV.pure (Ty.arr (8 : Nat) (Ty.int IntKind.u32)) p4)] (3 : Nat)
def X_11_33_3_0_0 (p1 : List Int) (p2 : List Int) (p3 : List Int) : St := St.mk [CV.junk, CV.junk, CV.junk, CV.junk, CV.junk, CV.junk, CV.junk, CV.junk, CV.junk, CV.junk, CV.junk, CV.junk, CV.junk, CV.junk, CV.junk, CV.junk, CV.junk, CV.junk, CV.junk, CV.junk, CV.junk, CV.junk, CV.junk, CV.junk, CV.junk, CV.junk, CV.junk, CV.junk, CV.junk, CV.junk, CV.junk, CV.junk, CV.junk, CV.junk, CV.junk, CV.junk, CV.junk, CV.junk, CV.junk, CV.junk, CV.junk, CV.junk, CV.junk, CV.junk, CV.junk, CV.junk, CV.junk, CV.junk, CV.junk, CV.junk, CV.junk, CV.junk, CV.junk, CV.junk, CV.junk, CV.junk, CV.junk, CV.junk, CV.junk, CV.junk, CV.junk, CV.junk, CV.junk, CV.junk, CV.junk, CV.junk, CV.junk, CV.junk, CV.junk, CV.junk, CV.junk, CV.junk, CV.junk, CV.junk, CV.junk, CV.junk, CV.junk, CV.junk, CV.junk, CV.junk, CV.junk, CV.junk, CV.junk, CV.junk, CV.junk, CV.junk, CV.junk, CV.junk, CV.junk, CV.junk, CV.junk, CV.junk, CV.junk, CV.junk, CV.junk, CV.junk, CV.junk, CV.junk, CV.junk, CV.junk, CV.junk, CV.junk, CV.junk, CV.junk, CV.junk, CV.junk, CV.junk, CV.junk, CV.junk, CV.junk, CV.junk, CV.junk, CV.junk, CV.junk, CV.junk, CV.junk, CV.junk, CV.junk, CV.junk, CV.junk, CV.junk, CV.junk, CV.junk, CV.junk, CV.junk, CV.junk, CV.junk, CV.junk, CV.junk, CV.junk, CV.junk, CV.junk, CV.junk, CV.junk, CV.junk, CV.junk, CV.junk, CV.junk, CV.junk, CV.junk, CV.junk, CV.junk, CV.junk, CV.junk, CV.junk, CV.junk, CV.junk, CV.junk, CV.junk, CV.junk, CV.junk, CV.junk, CV.junk, CV.junk, CV.junk, CV.junk, CV.junk, CV.junk, CV.junk, CV.junk, CV.junk, CV.junk, CV.junk, CV.junk, CV.junk, CV.junk, CV.junk, CV.junk, CV.junk, CV.junk, CV.junk, CV.junk, CV.junk, CV.junk, CV.junk, CV.junk] [Blk.mem (CV.pure (Ty.arr (32 : Nat) (Ty.int IntKind.u8)) p1), Blk.mem (CV.pure (Ty.arr (8 : Nat) (Ty.int IntKind.u32)) p2), Blk.mem (CV.pure (Ty.arr (64 : Nat) (Ty.int IntKind.u32)) p3)] (3 : Nat)
inductive Sp.E_11_33_3_0 where
  | e0 (p1 : List Int) (p2 : List Int) (p3 : List Int)
def Sp.B_11_33_3_0 {R : Type} (r : Option Sp.E_11_33_3_0) (k0 : (List Int) → (List Int) → (List Int) → Option R) : Option R := match r with
  | none => none
  | some (.e0 p1 p2 p3) => k0 p1 p2 p3
def Sp.L_11_33_3_0 : Nat → (Int) → (List Int) → (List Int) → (List Int) → (List Int) → Option Sp.E_11_33_3_0
  | 0, _, _, _, _, _ => none
  | m + 1, p0, p1, p2, p3, p4 => bif decide (p0 < (8 : Int)) then gd (inB p0 (8 : Nat)) (gd (decide (Int.toNat p0 < (8 : Nat)) && true) (gd (inB p0 (8 : Nat)) (gd (decide (Int.toNat p0 < (8 : Nat)) && true) (gd (inB p0 (8 : Nat)) (gd (decide (Int.toNat p0 < (8 : Nat)) && true) (Sp.L_11_33_3_0 m (IntKind.wrap IntKind.i64 (p0 + (1 : Int))) p1 (List.set p2 (Int.toNat p0) (IntKind.wrap IntKind.u32 (List.getD p2 (Int.toNat p0) (0 : Int) + List.getD p4 (Int.toNat p0) (0 : Int)))) p3 p4)))))) else some (Sp.E_11_33_3_0.e0 p1 p2 p3)
def G_11_33_3_0 {R : Type} (p0 : Int) (p1 : List Int) (p2 : List Int) (p3 : List Int) (p4 : List Int) (k : Ex → St → Option R) : Option R := Sp.B_11_33_3_0 (Sp.L_11_33_3_0 FU p0 p1 p2 p3 p4) (fun p1 p2 p3 => k (Ex.exit (6 : Nat)) (X_11_33_3_0_0 p1 p2 p3))
def m_11_33_3_0 : St → Bool := fun T => match T.sl.getD 0 .junk, T.sl.getD 13 .junk, T.sl.getD 161 .junk, T.hp with
  | CV.ptr (1 : Nat) [], CV.ptr (3 : Nat) [], CV.int IntKind.i64 p0, ((Blk.mem (CV.pure (Ty.arr (32 : Nat) (Ty.int IntKind.u8)) p1)) :: (Blk.mem (CV.pure (Ty.arr (8 : Nat) (Ty.int IntKind.u32)) p2)) :: (Blk.mem (CV.pure (Ty.arr (64 : Nat) (Ty.int IntKind.u32)) p3)) :: (Blk.mem (CV.pure (Ty.arr (8 : Nat) (Ty.int IntKind.u32)) p4)) :: []) => shapeOK T 176 [0, 13, 161] (3 : Nat)
  | _, _, _, _ => false
def o_11_33_3_0 {R : Type} (G : (Int) → (List Int) → (List Int) → (List Int) → (List Int) → (Ex → St → Option R) → Option R) : St → (Ex → St → Option R) → Option R := fun T k => match T.sl.getD 0 .junk, T.sl.getD 13 .junk, T.sl.getD 161 .junk, T.hp with
  | CV.ptr (1 : Nat) [], CV.ptr (3 : Nat) [], CV.int IntKind.i64 p0, ((Blk.mem (CV.pure (Ty.arr (32 : Nat) (Ty.int IntKind.u8)) p1)) :: (Blk.mem (CV.pure (Ty.arr (8 : Nat) (Ty.int IntKind.u32)) p2)) :: (Blk.mem (CV.pure (Ty.arr (64 : Nat) (Ty.int IntKind.u32)) p3)) :: (Blk.mem (CV.pure (Ty.arr (8 : Nat) (Ty.int IntKind.u32)) p4)) :: []) => gd (shapeOK T 176 [0, 13, 161] (3 : Nat)) (G p0 p1 p2 p3 p4 k)
  | _, _, _, _ => none
theorem o_11_33_3_0_inv {R : Type} {G : (Int) → (List Int) → (List Int) → (List Int) → (List Int) → (Ex → St → Option R) → Option R} {T : St} {k : Ex → St → Option R} {r : R} (h : o_11_33_3_0 G T k = some r) : ∃ p0 p1 p2 p3 p4, T = T_11_33_3_0 p0 p1 p2 p3 p4 ∧ G p0 p1 p2 p3 p4 k = some r := by
  unfold o_11_33_3_0 at h
  split at h
  · obtain ⟨hs, h'⟩ := gd_some h
    refine ⟨_, _, _, _, _, (st_of (asg := [(0, _), (13, _), (161, _)]) hs ⟨by assumption, by assumption, by assumption, trivial⟩ (by assumption)).trans ?_, h'⟩
    kernel_rfl
  · cases h
def T_11_0 (p0 : List Int) (p1 : List Int) (p2 : List Int) (p3 : List Int) (p4 : List Int) : St := St.mk [CV.pure (Ty.slice (Ty.int IntKind.u8)) p0, CV.junk, CV.ptr (0 : Nat) [], CV.ptr (1 : Nat) [], CV.ptr (2 : Nat) [], CV.pure (Ty.slice (Ty.int IntKind.u8)) p1, CV.junk, CV.junk, CV.junk, CV.junk, CV.junk, CV.junk, CV.junk, CV.junk, CV.junk, CV.junk, CV.junk, CV.junk, CV.junk, CV.junk, CV.junk, CV.junk, CV.junk, CV.junk, CV.junk, CV.junk, CV.junk, CV.junk, CV.junk, CV.junk, CV.junk, CV.junk, CV.junk, CV.junk, CV.junk, CV.junk, CV.junk, CV.junk, CV.junk, CV.junk, CV.junk, CV.junk, CV.junk, CV.junk, CV.junk, CV.junk, CV.junk, CV.junk, CV.junk, CV.junk, CV.junk, CV.junk, CV.junk, CV.junk, CV.junk, CV.junk, CV.junk, CV.junk, CV.junk, CV.junk, CV.junk, CV.junk, CV.junk, CV.junk, CV.junk, CV.junk, CV.junk, CV.junk, CV.junk, CV.junk, CV.junk, CV.junk] [Blk.mem (CV.pure (Ty.arr (32 : Nat) (Ty.int IntKind.u8)) p2), Blk.mem (CV.pure (Ty.arr (8 : Nat) (Ty.int IntKind.u32)) p3), Blk.mem (CV.pure (Ty.arr (64 : Nat) (Ty.int IntKind.u32)) p4)] (0 : Nat)
def X_11_0_0 (p0 : List Int) (p1 : List Int) (p2 : List Int) (p3 : List Int) (p4 : List Int) : St := St.mk [CV.pure (Ty.slice (Ty.int IntKind.u8)) p0, CV.junk, CV.ptr (0 : Nat) [], CV.ptr (1 : Nat) [], CV.ptr (2 : Nat) [], CV.pure (Ty.slice (Ty.int IntKind.u8)) p1, CV.junk, CV.junk, CV.junk, CV.junk, CV.junk, CV.junk, CV.junk, CV.junk, CV.junk, CV.junk, CV.junk, CV.junk, CV.junk, CV.junk, CV.junk, CV.junk, CV.junk, CV.junk, CV.junk, CV.junk, CV.junk, CV.junk, CV.junk, CV.junk, CV.junk, CV.junk, CV.junk, CV.junk, CV.junk, CV.junk, CV.junk, CV.junk, CV.junk, CV.junk, CV.junk, CV.junk, CV.junk, CV.junk, CV.junk, CV.junk, CV.junk, CV.junk, CV.junk, CV.junk, CV.junk, CV.junk, CV.junk, CV.junk, CV.junk, CV.junk, CV.junk, CV.junk, CV.junk, CV.junk, CV.junk, CV.junk, CV.junk, CV.junk, CV.junk, CV.junk, CV.junk, CV.junk, CV.junk, CV.junk, CV.junk, CV.junk] [Blk.mem (CV.pure (Ty.arr (32 : Nat) (Ty.int IntKind.u8)) p2), Blk.mem (CV.pure (Ty.arr (8 : Nat) (Ty.int IntKind.u32)) p3), Blk.mem (CV.pure (Ty.arr (64 : Nat) (Ty.int IntKind.u32)) p4)] (0 : Nat)
inductive Sp.E_11_0 where
  | e0 (p0 : List Int) (p1 : List Int) (p2 : List Int) (p3 : List Int) (p4 : List Int)
def Sp.B_11_0 {R : Type} (r : Option Sp.E_11_0) (k0 : (List Int) → (List Int) → (List Int) → (List Int) → (List Int) → Option R) : Option R := match r with
  | none => none
  | some (.e0 p0 p1 p2 p3 p4) => k0 p0 p1 p2 p3 p4
def Sp.L_11_0 : Nat → (List Int) → (List Int) → (List Int) → (List Int) → (List Int) → Option Sp.E_11_0
  | 0, _, _, _, _, _ => none
  | m + 1, p0, p1, p2, p3, p4 => bif decide ((↑(List.length p1) : Int) ≥ (64 : Int)) then gd (sl3 (0 : Int) (64 : Int) (↑(List.length p1) : Int)) (Sp.B_11_33_0_0 (Sp.L_11_33_0_0 (4611686018427387904 : Nat) (List.take (64 : Nat) (List.drop (0 : Nat) p1)) (0 : Int) p2 p3 p4 (List.replicate (64 : Nat) (0 : Int))) fun (y19 y20 y21 y22 : List Int) => Sp.B_11_33_1_0 (Sp.L_11_33_1_0 (4611686018427387904 : Nat) (16 : Int) y19 y20 y21 y22) fun (y23 y24 y25 y26 : List Int) => Sp.B_11_33_2_0 (Sp.L_11_33_2_0 (4611686018427387904 : Nat) (0 : Int) y23 y24 y25 y26 y24) fun (y27 y28 y29 y30 : List Int) => Sp.B_11_33_3_0 (Sp.L_11_33_3_0 (4611686018427387904 : Nat) (0 : Int) y27 y28 y29 y30) fun (y31 y32 y33 : List Int) => gd (sl3 (64 : Int) (↑(List.length p1) : Int) (↑(List.length p1) : Int)) (Sp.L_11_0 m p0 (List.drop (64 : Nat) p1) y31 y32 y33)) else some (Sp.E_11_0.e0 p0 p1 p2 p3 p4)
def G_11_0 {R : Type} (p0 : List Int) (p1 : List Int) (p2 : List Int) (p3 : List Int) (p4 : List Int) (k : Ex → St → Option R) : Option R := Sp.B_11_0 (Sp.L_11_0 FU p0 p1 p2 p3 p4) (fun p0 p1 p2 p3 p4 => k (Ex.exit (0 : Nat)) (X_11_0_0 p0 p1 p2 p3 p4))
def o_11_0 {R : Type} (G : (List Int) → (List Int) → (List Int) → (List Int) → (List Int) → (Ex → St → Option R) → Option R) : St → (Ex → St → Option R) → Option R := fun T k => match T.sl.getD 0 .junk, T.sl.getD 2 .junk, T.sl.getD 3 .junk, T.sl.getD 4 .junk, T.sl.getD 5 .junk, T.hp with
  | CV.pure (Ty.slice (Ty.int IntKind.u8)) p0, CV.ptr (0 : Nat) [], CV.ptr (1 : Nat) [], CV.ptr (2 : Nat) [], CV.pure (Ty.slice (Ty.int IntKind.u8)) p1, ((Blk.mem (CV.pure (Ty.arr (32 : Nat) (Ty.int IntKind.u8)) p2)) :: (Blk.mem (CV.pure (Ty.arr (8 : Nat) (Ty.int IntKind.u32)) p3)) :: (Blk.mem (CV.pure (Ty.arr (64 : Nat) (Ty.int IntKind.u32)) p4)) :: []) => gd (shapeOK T 72 [0, 2, 3, 4, 5] (0 : Nat)) (G p0 p1 p2 p3 p4 k)
  | _, _, _, _, _, _ => none
theorem o_11_0_inv {R : Type} {G : (List Int) → (List Int) → (List Int) → (List Int) → (List Int) → (Ex → St → Option R) → Option R} {T : St} {k : Ex → St → Option R} {r : R} (h : o_11_0 G T k = some r) : ∃ p0 p1 p2 p3 p4, T = T_11_0 p0 p1 p2 p3 p4 ∧ G p0 p1 p2 p3 p4 k = some r := by
  unfold o_11_0 at h
  split at h
  · obtain ⟨hs, h'⟩ := gd_some h
    refine ⟨_, _, _, _, _, (st_of (asg := [(0, _), (2, _), (3, _), (4, _), (5, _)]) hs ⟨by assumption, by assumption, by assumption, by assumption, by assumption, trivial⟩ (by assumption)).trans ?_, h'⟩
    kernel_rfl
  · cases h
def T_11_33_0_1 (p0 : Nat) (p1 : Nat) (p2 : Nat) (p3 : Int) (p4 : List Int) (p5 : List Int) (p6 : List Int) (p7 : List Int) (p8 : List Int) : St := St.mk [CV.ptr (1 : Nat) [], CV.ptr (2 : Nat) [], CV.sub (3 : Nat) [] (1 : Nat) p0 p1 (some p2), CV.junk, CV.junk, CV.junk, CV.ptr (4 : Nat) [], CV.junk, CV.junk, CV.junk, CV.junk, CV.junk, CV.junk, CV.junk, CV.junk, CV.junk, CV.junk, CV.junk, CV.junk, CV.junk, CV.int IntKind.i64 p3, CV.junk, CV.junk, CV.junk, CV.junk, CV.junk, CV.junk, CV.junk, CV.junk, CV.junk, CV.junk, CV.junk, CV.junk, CV.junk, CV.junk, CV.junk, CV.junk, CV.junk, CV.junk, CV.junk, CV.junk, CV.junk, CV.junk, CV.junk, CV.junk, CV.junk, CV.junk, CV.junk, CV.junk, CV.junk, CV.junk, CV.junk, CV.junk, CV.junk, CV.junk, CV.junk, CV.junk, CV.junk, CV.junk, CV.junk, CV.junk, CV.junk, CV.junk, CV.junk, CV.junk, CV.junk, CV.junk, CV.junk, CV.junk, CV.junk, CV.junk, CV.junk, CV.junk, CV.junk, CV.junk, CV.junk, CV.junk, CV.junk, CV.junk, CV.junk, CV.junk, CV.junk, CV.junk, CV.junk, CV.junk, CV.junk, CV.junk, CV.junk, CV.junk, CV.junk, CV.junk, CV.junk, CV.junk, CV.junk, CV.junk, CV.junk, CV.junk, CV.junk, CV.junk, CV.junk, CV.junk, CV.junk, CV.junk, CV.junk, CV.junk, CV.junk, CV.junk, CV.junk, CV.junk, CV.junk, CV.junk, CV.junk, CV.junk, CV.junk, CV.junk, CV.junk, CV.junk, CV.junk, CV.junk, CV.junk, CV.junk, CV.junk, CV.junk, CV.junk, CV.junk, CV.junk, CV.junk, CV.junk, CV.junk, CV.junk, CV.junk, CV.junk, CV.junk, CV.junk, CV.junk, CV.junk, CV.junk, CV.junk, CV.junk, CV.junk, CV.junk, CV.junk, CV.junk, CV.junk, CV.junk, CV.junk, CV.junk, CV.junk, CV.junk, CV.junk, CV.junk, CV.junk, CV.junk, CV.junk, CV.junk, CV.junk, CV.junk, CV.junk, CV.junk, CV.junk, CV.junk, CV.junk, CV.junk, CV.junk, CV.junk, CV.junk, CV.junk, CV.junk, CV.junk, CV.junk, CV.junk, CV.junk, CV.junk, CV.junk, CV.junk, CV.junk] [Blk.mem (CV.pure (Ty.arr (32 : Nat) (Ty.int IntKind.u8)) p4), Blk.mem (CV.pure (Ty.arr (8 : Nat) (Ty.int IntKind.u32)) p5), Blk.mem (CV.pure (Ty.arr (64 : Nat) (Ty.int IntKind.u32)) p6), Blk.mem (CV.pure (Ty.arr (128 : Nat) (Ty.int IntKind.u8)) p7), Blk.mem (CV.pure (Ty.arr (64 : Nat) (Ty.int IntKind.u32)) p8)] (4 : Nat)
def X_11_33_0_1_0 (p4 : List Int) (p5 : List Int) (p6 : List Int) (p7 : List Int) (p8 : List Int) : St := St.mk [CV.ptr (1 : Nat) [], CV.ptr (2 : Nat) [], CV.junk, CV.junk, CV.junk, CV.junk, CV.ptr (4 : Nat) [], CV.junk, CV.junk, CV.junk, CV.junk, CV.junk, CV.junk, CV.junk, CV.junk, CV.junk, CV.junk, CV.junk, CV.junk, CV.junk, CV.junk, CV.junk, CV.junk, CV.junk, CV.junk, CV.junk, CV.junk, CV.junk, CV.junk, CV.junk, CV.junk, CV.junk, CV.junk, CV.junk, CV.junk, CV.junk, CV.junk, CV.junk, CV.junk, CV.junk, CV.junk, CV.junk, CV.junk, CV.junk, CV.junk, CV.junk, CV.junk, CV.junk, CV.junk, CV.junk, CV.junk, CV.junk, CV.junk, CV.junk, CV.junk, CV.junk, CV.junk, CV.junk, CV.junk, CV.junk, CV.junk, CV.junk, CV.junk, CV.junk, CV.junk, CV.junk, CV.junk, CV.junk, CV.junk, CV.junk, CV.junk, CV.junk, CV.junk, CV.junk, CV.junk, CV.junk, CV.junk, CV.junk, CV.junk, CV.junk, CV.junk, CV.junk, CV.junk, CV.junk, CV.junk, CV.junk, CV.junk, CV.junk, CV.junk, CV.junk, CV.junk, CV.junk, CV.junk, CV.junk, CV.junk, CV.junk, CV.junk, CV.junk, CV.junk, CV.junk, CV.junk, CV.junk, CV.junk, CV.junk, CV.junk, CV.junk, CV.junk, CV.junk, CV.junk, CV.junk, CV.junk, CV.junk, CV.junk, CV.junk, CV.junk, CV.junk, CV.junk, CV.junk, CV.junk, CV.junk, CV.junk, CV.junk, CV.junk, CV.junk, CV.junk, CV.junk, CV.junk, CV.junk, CV.junk, CV.junk, CV.junk, CV.junk, CV.junk, CV.junk, CV.junk, CV.junk, CV.junk, CV.junk, CV.junk, CV.junk, CV.junk, CV.junk, CV.junk, CV.junk, CV.junk, CV.junk, CV.junk, CV.junk, CV.junk, CV.junk, CV.junk, CV.junk, CV.junk, CV.junk, CV.junk, CV.junk, CV.junk, CV.junk, CV.junk, CV.junk, CV.junk, CV.junk, CV.junk, CV.junk, CV.junk, CV.junk, CV.junk, CV.junk, CV.junk, CV.junk, CV.junk, CV.junk, CV.junk, CV.junk, CV.junk, CV.junk] [Blk.mem (CV.pure (Ty.arr (32 : Nat) (Ty.int IntKind.u8)) p4), Blk.mem (CV.pure (Ty.arr (8 : Nat) (Ty.int IntKind.u32)) p5), Blk.mem (CV.pure (Ty.arr (64 : Nat) (Ty.int IntKind.u32)) p6), Blk.mem (CV.pure (Ty.arr (128 : Nat) (Ty.int IntKind.u8)) p7), Blk.mem (CV.pure (Ty.arr (64 : Nat) (Ty.int IntKind.u32)) p8)] (4 : Nat)
inductive Sp.E_11_33_0_1 where
  | e0 (p4 : List Int) (p5 : List Int) (p6 : List Int) (p7 : List Int) (p8 : List Int)
def Sp.B_11_33_0_1 {R : Type} (r : Option Sp.E_11_33_0_1) (k0 : (List Int) → (List Int) → (List Int) → (List Int) → (List Int) → Option R) : Option R := match r with
  | none => none
  | some (.e0 p4 p5 p6 p7 p8) => k0 p4 p5 p6 p7 p8
def Sp.L_11_33_0_1 : Nat → (Nat) → (Nat) → (Nat) → (Int) → (List Int) → (List Int) → (List Int) → (List Int) → (List Int) → Option Sp.E_11_33_0_1
  | 0, _, _, _, _, _, _, _, _, _ => none
  | m + 1, p0, p1, p2, p3, p4, p5, p6, p7, p8 => bif decide (p3 < (16 : Int)) then gd (sl3 (IntKind.wrap IntKind.i64 ((4 : Int) * p3)) (↑p1 : Int) (↑p1 : Int)) (gd (decide (p0 + Int.toNat (IntKind.wrap IntKind.i64 ((4 : Int) * p3)) + (Int.toNat (↑p1 : Int) - Int.toNat (IntKind.wrap IntKind.i64 ((4 : Int) * p3))) ≤ (128 : Nat)) && true && Sp.p_47 (List.take (Int.toNat (↑p1 : Int) - Int.toNat (IntKind.wrap IntKind.i64 ((4 : Int) * p3))) (List.drop (p0 + Int.toNat (IntKind.wrap IntKind.i64 ((4 : Int) * p3))) p7))) (gd (inB p3 (64 : Nat)) (gd (decide (Int.toNat p3 < (64 : Nat)) && true) (Sp.L_11_33_0_1 m p0 p1 p2 (IntKind.wrap IntKind.i64 (p3 + (1 : Int))) p4 p5 p6 p7 (List.set p8 (Int.toNat p3) (Prod.fst (Sp.v_47 (List.take (Int.toNat (↑p1 : Int) - Int.toNat (IntKind.wrap IntKind.i64 ((4 : Int) * p3))) (List.drop (p0 + Int.toNat (IntKind.wrap IntKind.i64 ((4 : Int) * p3))) p7))))))))) else some (Sp.E_11_33_0_1.e0 p4 p5 p6 p7 p8)
def G_11_33_0_1 {R : Type} (p0 : Nat) (p1 : Nat) (p2 : Nat) (p3 : Int) (p4 : List Int) (p5 : List Int) (p6 : List Int) (p7 : List Int) (p8 : List Int) (k : Ex → St → Option R) : Option R := Sp.B_11_33_0_1 (Sp.L_11_33_0_1 FU p0 p1 p2 p3 p4 p5 p6 p7 p8) (fun p4 p5 p6 p7 p8 => k (Ex.exit (0 : Nat)) (X_11_33_0_1_0 p4 p5 p6 p7 p8))
def m_11_33_0_1 : St → Bool := fun T => match T.sl.getD 0 .junk, T.sl.getD 1 .junk, T.sl.getD 2 .junk, T.sl.getD 6 .junk, T.sl.getD 20 .junk, T.hp with
  | CV.ptr (1 : Nat) [], CV.ptr (2 : Nat) [], CV.sub (3 : Nat) [] (1 : Nat) p0 p1 (some p2), CV.ptr (4 : Nat) [], CV.int IntKind.i64 p3, ((Blk.mem (CV.pure (Ty.arr (32 : Nat) (Ty.int IntKind.u8)) p4)) :: (Blk.mem (CV.pure (Ty.arr (8 : Nat) (Ty.int IntKind.u32)) p5)) :: (Blk.mem (CV.pure (Ty.arr (64 : Nat) (Ty.int IntKind.u32)) p6)) :: (Blk.mem (CV.pure (Ty.arr (128 : Nat) (Ty.int IntKind.u8)) p7)) :: (Blk.mem (CV.pure (Ty.arr (64 : Nat) (Ty.int IntKind.u32)) p8)) :: []) => shapeOK T 176 [0, 1, 2, 6, 20] (4 : Nat)
  | _, _, _, _, _, _ => false
def o_11_33_0_1 {R : Type} (G : (Nat) → (Nat) → (Nat) → (Int) → (List Int) → (List Int) → (List Int) → (List Int) → (List Int) → (Ex → St → Option R) → Option R) : St → (Ex → St → Option R) → Option R := fun T k => match T.sl.getD 0 .junk, T.sl.getD 1 .junk, T.sl.getD 2 .junk, T.sl.getD 6 .junk, T.sl.getD 20 .junk, T.hp with
  | CV.ptr (1 : Nat) [], CV.ptr (2 : Nat) [], CV.sub (3 : Nat) [] (1 : Nat) p0 p1 (some p2), CV.ptr (4 : Nat) [], CV.int IntKind.i64 p3, ((Blk.mem (CV.pure (Ty.arr (32 : Nat) (Ty.int IntKind.u8)) p4)) :: (Blk.mem (CV.pure (Ty.arr (8 : Nat) (Ty.int IntKind.u32)) p5)) :: (Blk.mem (CV.pure (Ty.arr (64 : Nat) (Ty.int IntKind.u32)) p6)) :: (Blk.mem (CV.pure (Ty.arr (128 : Nat) (Ty.int IntKind.u8)) p7)) :: (Blk.mem (CV.pure (Ty.arr (64 : Nat) (Ty.int IntKind.u32)) p8)) :: []) => gd (shapeOK T 176 [0, 1, 2, 6, 20] (4 : Nat)) (G p0 p1 p2 p3 p4 p5 p6 p7 p8 k)
  | _, _, _, _, _, _ => none
theorem o_11_33_0_1_inv {R : Type} {G : (Nat) → (Nat) → (Nat) → (Int) → (List Int) → (List Int) → (List Int) → (List Int) → (List Int) → (Ex → St → Option R) → Option R} {T : St} {k : Ex → St → Option R} {r : R} (h : o_11_33_0_1 G T k = some r) : ∃ p0 p1 p2 p3 p4 p5 p6 p7 p8, T = T_11_33_0_1 p0 p1 p2 p3 p4 p5 p6 p7 p8 ∧ G p0 p1 p2 p3 p4 p5 p6 p7 p8 k = some r := by
  unfold o_11_33_0_1 at h
  split at h
  · obtain ⟨hs, h'⟩ := gd_some h
    refine ⟨_, _, _, _, _, _, _, _, _, (st_of (asg := [(0, _), (1, _), (2, _), (6, _), (20, _)]) hs ⟨by assumption, by assumption, by assumption, by assumption, by assumption, trivial⟩ (by assumption)).trans ?_, h'⟩
    kernel_rfl
  · cases h
def T_11_33_1_1 (p0 : Int) (p1 : List Int) (p2 : List Int) (p3 : List Int) (p4 : List Int) (p5 : List Int) : St := St.mk [CV.ptr (1 : Nat) [], CV.ptr (2 : Nat) [], CV.junk, CV.junk, CV.junk, CV.junk, CV.ptr (4 : Nat) [], CV.junk, CV.int IntKind.i64 p0, CV.junk, CV.junk, CV.junk, CV.junk, CV.junk, CV.junk, CV.junk, CV.junk, CV.junk, CV.junk, CV.junk, CV.junk, CV.junk, CV.junk, CV.junk, CV.junk, CV.junk, CV.junk, CV.junk, CV.junk, CV.junk, CV.junk, CV.junk, CV.junk, CV.junk, CV.junk, CV.junk, CV.junk, CV.junk, CV.junk, CV.junk, CV.junk, CV.junk, CV.junk, CV.junk, CV.junk, CV.junk, CV.junk, CV.junk, CV.junk, CV.junk, CV.junk, CV.junk, CV.junk, CV.junk, CV.junk, CV.junk, CV.junk, CV.junk, CV.junk, CV.junk, CV.junk, CV.junk, CV.junk, CV.junk, CV.junk, CV.junk, CV.junk, CV.junk, CV.junk, CV.junk, CV.junk, CV.junk, CV.junk, CV.junk, CV.junk, CV.junk, CV.junk, CV.junk, CV.junk, CV.junk, CV.junk, CV.junk, CV.junk, CV.junk, CV.junk, CV.junk, CV.junk, CV.junk, CV.junk, CV.junk, CV.junk, CV.junk, CV.junk, CV.junk, CV.junk, CV.junk, CV.junk, CV.junk, CV.junk, CV.junk, CV.junk, CV.junk, CV.junk, CV.junk, CV.junk, CV.junk, CV.junk, CV.junk, CV.junk, CV.junk, CV.junk, CV.junk, CV.junk, CV.junk, CV.junk, CV.junk, CV.junk, CV.junk, CV.junk, CV.junk, CV.junk, CV.junk, CV.junk, CV.junk, CV.junk, CV.junk, CV.junk, CV.junk, CV.junk, CV.junk, CV.junk, CV.junk, CV.junk, CV.junk, CV.junk, CV.junk, CV.junk, CV.junk, CV.junk, CV.junk, CV.junk, CV.junk, CV.junk, CV.junk, CV.junk, CV.junk, CV.junk, CV.junk, CV.junk, CV.junk, CV.junk, CV.junk, CV.junk, CV.junk, CV.junk, CV.junk, CV.junk, CV.junk, CV.junk, CV.junk, CV.junk, CV.junk, CV.junk, CV.junk, CV.junk, CV.junk, CV.junk, CV.junk, CV.junk, CV.junk, CV.junk, CV.junk, CV.junk, CV.junk, CV.junk, CV.junk] [Blk.mem (CV.pure (Ty.arr (32 : Nat) (Ty.int IntKind.u8)) p1), Blk.mem (CV.pure (Ty.arr (8 : Nat) (Ty.int IntKind.u32)) p2), Blk.mem (CV.pure (Ty.arr (64 : Nat) (Ty.int IntKind.u32)) p3), Blk.mem (CV.pure (Ty.arr (128 : Nat) (Ty.int IntKind.u8)) p4), Blk.mem (CV.pure (Ty.arr (64 : Nat) (Ty.int IntKind.u32)) p5)] (4 : Nat)
def X_11_33_1_1_0 (p1 : List Int) (p2 : List Int) (p3 : List Int) (p4 : List Int) (p5 : List Int) : St := St.mk [CV.ptr (1 : Nat) [], CV.ptr (2 : Nat) [], CV.junk, CV.junk, CV.junk, CV.junk, CV.ptr (4 : Nat) [], CV.junk, CV.junk, CV.junk, CV.junk, CV.junk, CV.junk, CV.junk, CV.junk, CV.junk, CV.junk, CV.junk, CV.junk, CV.junk, CV.junk, CV.junk, CV.junk, CV.junk, CV.junk, CV.junk, CV.junk, CV.junk, CV.junk, CV.junk, CV.junk, CV.junk, CV.junk, CV.junk, CV.junk, CV.junk, CV.junk, CV.junk, CV.junk, CV.junk, CV.junk, CV.junk, CV.junk, CV.junk, CV.junk, CV.junk, CV.junk, CV.junk, CV.junk, CV.junk, CV.junk, CV.junk, CV.junk, CV.junk, CV.junk, CV.junk, CV.junk, CV.junk, CV.junk, CV.junk, CV.junk, CV.junk, CV.junk, CV.junk, CV.junk, CV.junk, CV.junk, CV.junk, CV.junk, CV.junk, CV.junk, CV.junk, CV.junk, CV.junk, CV.junk, CV.junk, CV.junk, CV.junk, CV.junk, CV.junk, CV.junk, CV.junk, CV.junk, CV.junk, CV.junk, CV.junk, CV.junk, CV.junk, CV.junk, CV.junk, CV.junk, CV.junk, CV.junk, CV.junk, CV.junk, CV.junk, CV.junk, CV.junk, CV.junk, CV.junk, CV.junk, CV.junk, CV.junk, CV.junk, CV.junk, CV.junk, CV.junk, CV.junk, CV.junk, CV.junk, CV.junk, CV.junk, CV.junk, CV.junk, CV.junk, CV.junk, CV.junk, CV.junk, CV.junk, CV.junk, CV.junk, CV.junk, CV.junk, CV.junk, CV.junk, CV.junk, CV.junk, CV.junk, CV.junk, CV.junk, CV.junk, CV.junk, CV.junk, CV.junk, CV.junk, CV.junk, CV.junk, CV.junk, CV.junk, CV.junk, CV.junk, CV.junk, CV.junk, CV.junk, CV.junk, CV.junk, CV.junk, CV.junk, CV.junk, CV.junk, CV.junk, CV.junk, CV.junk, CV.junk, CV.junk, CV.junk, CV.junk, CV.junk, CV.junk, CV.junk, CV.junk, CV.junk, CV.junk, CV.junk, CV.junk, CV.junk, CV.junk, CV.junk, CV.junk, CV.junk, CV.junk, CV.junk, CV.junk, CV.junk, CV.junk, CV.junk] [Blk.mem (CV.pure (Ty.arr (32 : Nat) (Ty.int IntKind.u8)) p1), Blk.mem (CV.pure (Ty.arr (8 : Nat) (Ty.int IntKind.u32)) p2), Blk.mem (CV.pure (Ty.arr (64 : Nat) (Ty.int IntKind.u32)) p3), Blk.mem (CV.pure (Ty.arr (128 : Nat) (Ty.int IntKind.u8)) p4), Blk.mem (CV.pure (Ty.arr (64 : Nat) (Ty.int IntKind.u32)) p5)] (4 : Nat)
inductive Sp.E_11_33_1_1 where
  | e0 (p1 : List Int) (p2 : List Int) (p3 : List Int) (p4 : List Int) (p5 : List Int)
def Sp.B_11_33_1_1 {R : Type} (r : Option Sp.E_11_33_1_1) (k0 : (List Int) → (List Int) → (List Int) → (List Int) → (List Int) → Option R) : Option R := match r with
  | none => none
  | some (.e0 p1 p2 p3 p4 p5) => k0 p1 p2 p3 p4 p5
def Sp.L_11_33_1_1 : Nat → (Int) → (List Int) → (List Int) → (List Int) → (List Int) → (List Int) → Option Sp.E_11_33_1_1
  | 0, _, _, _, _, _, _ => none
  | m + 1, p0, p1, p2, p3, p4, p5 => bif decide (p0 < (64 : Int)) then gd (inB (IntKind.wrap IntKind.i64 (p0 - (15 : Int))) (64 : Nat)) (gd (decide (Int.toNat (IntKind.wrap IntKind.i64 (p0 - (15 : Int))) < (64 : Nat)) && true) (gd (inB (IntKind.wrap IntKind.i64 (p0 - (2 : Int))) (64 : Nat)) (gd (decide (Int.toNat (IntKind.wrap IntKind.i64 (p0 - (2 : Int))) < (64 : Nat)) && true) (gd (Sp.p_49 (List.getD p5 (Int.toNat (IntKind.wrap IntKind.i64 (p0 - (15 : Int)))) (0 : Int)) (7 : Int)) (gd (Sp.p_49 (List.getD p5 (Int.toNat (IntKind.wrap IntKind.i64 (p0 - (15 : Int)))) (0 : Int)) (18 : Int)) (gd (Sp.p_49 (List.getD p5 (Int.toNat (IntKind.wrap IntKind.i64 (p0 - (2 : Int)))) (0 : Int)) (17 : Int)) (gd (Sp.p_49 (List.getD p5 (Int.toNat (IntKind.wrap IntKind.i64 (p0 - (2 : Int)))) (0 : Int)) (19 : Int)) (gd (inB (IntKind.wrap IntKind.i64 (p0 - (7 : Int))) (64 : Nat)) (gd (decide (Int.toNat (IntKind.wrap IntKind.i64 (p0 - (7 : Int))) < (64 : Nat)) && true) (gd (inB (IntKind.wrap IntKind.i64 (p0 - (16 : Int))) (64 : Nat)) (gd (decide (Int.toNat (IntKind.wrap IntKind.i64 (p0 - (16 : Int))) < (64 : Nat)) && true) (gd (inB p0 (64 : Nat)) (gd (decide (Int.toNat p0 < (64 : Nat)) && true) (Sp.L_11_33_1_1 m (IntKind.wrap IntKind.i64 (p0 + (1 : Int))) p1 p2 p3 p4 (List.set p5 (Int.toNat p0) (IntKind.wrap IntKind.u32 (IntKind.wrap IntKind.u32 (IntKind.wrap IntKind.u32 (Sp.xorI IntKind.u32 (Sp.xorI IntKind.u32 (Prod.fst (Sp.v_49 (List.getD p5 (Int.toNat (IntKind.wrap IntKind.i64 (p0 - (2 : Int)))) (0 : Int)) (17 : Int))) (Prod.fst (Sp.v_49 (List.getD p5 (Int.toNat (IntKind.wrap IntKind.i64 (p0 - (2 : Int)))) (0 : Int)) (19 : Int)))) (Int.fdiv (List.getD p5 (Int.toNat (IntKind.wrap IntKind.i64 (p0 - (2 : Int)))) (0 : Int)) (1024 : Int)) + List.getD p5 (Int.toNat (IntKind.wrap IntKind.i64 (p0 - (7 : Int)))) (0 : Int)) + Sp.xorI IntKind.u32 (Sp.xorI IntKind.u32 (Prod.fst (Sp.v_49 (List.getD p5 (Int.toNat (IntKind.wrap IntKind.i64 (p0 - (15 : Int)))) (0 : Int)) (7 : Int))) (Prod.fst (Sp.v_49 (List.getD p5 (Int.toNat (IntKind.wrap IntKind.i64 (p0 - (15 : Int)))) (0 : Int)) (18 : Int)))) (Int.fdiv (List.getD p5 (Int.toNat (IntKind.wrap IntKind.i64 (p0 - (15 : Int)))) (0 : Int)) (8 : Int))) + List.getD p5 (Int.toNat (IntKind.wrap IntKind.i64 (p0 - (16 : Int)))) (0 : Int)))))))))))))))))) else some (Sp.E_11_33_1_1.e0 p1 p2 p3 p4 p5)
def G_11_33_1_1 {R : Type} (p0 : Int) (p1 : List Int) (p2 : List Int) (p3 : List Int) (p4 : List Int) (p5 : List Int) (k : Ex → St → Option R) : Option R := Sp.B_11_33_1_1 (Sp.L_11_33_1_1 FU p0 p1 p2 p3 p4 p5) (fun p1 p2 p3 p4 p5 => k (Ex.exit (2 : Nat)) (X_11_33_1_1_0 p1 p2 p3 p4 p5))
def m_11_33_1_1 : St → Bool := fun T => match T.sl.getD 0 .junk, T.sl.getD 1 .junk, T.sl.getD 6 .junk, T.sl.getD 8 .junk, T.hp with
  | CV.ptr (1 : Nat) [], CV.ptr (2 : Nat) [], CV.ptr (4 : Nat) [], CV.int IntKind.i64 p0, ((Blk.mem (CV.pure (Ty.arr (32 : Nat) (Ty.int IntKind.u8)) p1)) :: (Blk.mem (CV.pure (Ty.arr (8 : Nat) (Ty.int IntKind.u32)) p2)) :: (Blk.mem (CV.pure (Ty.arr (64 : Nat) (Ty.int IntKind.u32)) p3)) :: (Blk.mem (CV.pure (Ty.arr (128 : Nat) (Ty.int IntKind.u8)) p4)) :: (Blk.mem (CV.pure (Ty.arr (64 : Nat) (Ty.int IntKind.u32)) p5)) :: []) => shapeOK T 176 [0, 1, 6, 8] (4 : Nat)
  | _, _, _, _, _ => false
def o_11_33_1_1 {R : Type} (G : (Int) → (List Int) → (List Int) → (List Int) → (List Int) → (List Int) → (Ex → St → Option R) → Option R) : St → (Ex → St → Option R) → Option R := fun T k => match T.sl.getD 0 .junk, T.sl.getD 1 .junk, T.sl.getD 6 .junk, T.sl.getD 8 .junk, T.hp with
  | CV.ptr (1 : Nat) [], CV.ptr (2 : Nat) [], CV.ptr (4 : Nat) [], CV.int IntKind.i64 p0, ((Blk.mem (CV.pure (Ty.arr (32 : Nat) (Ty.int IntKind.u8)) p1)) :: (Blk.mem (CV.pure (Ty.arr (8 : Nat) (Ty.int IntKind.u32)) p2)) :: (Blk.mem (CV.pure (Ty.arr (64 : Nat) (Ty.int IntKind.u32)) p3)) :: (Blk.mem (CV.pure (Ty.arr (128 : Nat) (Ty.int IntKind.u8)) p4)) :: (Blk.mem (CV.pure (Ty.arr (64 : Nat) (Ty.int IntKind.u32)) p5)) :: []) => gd (shapeOK T 176 [0, 1, 6, 8] (4 : Nat)) (G p0 p1 p2 p3 p4 p5 k)
  | _, _, _, _, _ => none
theorem o_11_33_1_1_inv {R : Type} {G : (Int) → (List Int) → (List Int) → (List Int) → (List Int) → (List Int) → (Ex → St → Option R) → Option R} {T : St} {k : Ex → St → Option R} {r : R} (h : o_11_33_1_1 G T k = some r) : ∃ p0 p1 p2 p3 p4 p5, T = T_11_33_1_1 p0 p1 p2 p3 p4 p5 ∧ G p0 p1 p2 p3 p4 p5 k = some r := by
  unfold o_11_33_1_1 at h
  split at h
  · obtain ⟨hs, h'⟩ := gd_some h
    refine ⟨_, _, _, _, _, _, (st_of (asg := [(0, _), (1, _), (6, _), (8, _)]) hs ⟨by assumption, by assumption, by assumption, by assumption, trivial⟩ (by assumption)).trans ?_, h'⟩
    kernel_rfl
  · cases h
def T_11_33_2_1 (p0 : Int) (p1 : List Int) (p2 : List Int) (p3 : List Int) (p4 : List Int) (p5 : List Int) (p6 : List Int) : St := St.mk [CV.ptr (1 : Nat) [], CV.ptr (2 : Nat) [], CV.junk, CV.junk, CV.junk, CV.junk, CV.ptr (4 : Nat) [], CV.junk, CV.junk, CV.junk, CV.junk, CV.junk, CV.junk, CV.ptr (5 : Nat) [], CV.junk, CV.junk, CV.junk, CV.junk, CV.junk, CV.junk, CV.junk, CV.junk, CV.junk, CV.junk, CV.junk, CV.junk, CV.junk, CV.junk, CV.junk, CV.junk, CV.junk, CV.junk, CV.junk, CV.junk, CV.junk, CV.junk, CV.junk, CV.junk, CV.junk, CV.junk, CV.junk, CV.junk, CV.junk, CV.junk, CV.junk, CV.junk, CV.junk, CV.junk, CV.junk, CV.junk, CV.junk, CV.junk, CV.junk, CV.junk, CV.junk, CV.junk, CV.junk, CV.junk, CV.junk, CV.junk, CV.junk, CV.junk, CV.junk, CV.junk, CV.junk, CV.junk, CV.junk, CV.junk, CV.junk, CV.junk, CV.junk, CV.junk, CV.junk, CV.junk, CV.junk, CV.junk, CV.junk, CV.int IntKind.i64 p0, CV.junk, CV.junk, CV.junk, CV.junk, CV.junk, CV.junk, CV.junk, CV.junk, CV.junk, CV.junk, CV.junk, CV.junk, CV.junk, CV.junk, CV.junk, CV.junk, CV.junk, CV.junk, CV.junk, CV.junk, CV.junk, CV.junk, CV.junk, CV.junk, CV.junk, CV.junk, CV.junk, CV.junk, CV.junk, CV.junk, CV.junk, CV.junk, CV.junk, CV.junk, CV.junk, CV.junk, CV.junk, CV.junk, CV.junk, CV.junk, CV.junk, CV.junk, CV.junk, CV.junk, CV.junk, CV.junk, CV.junk, CV.junk, CV.junk, CV.junk, CV.junk, CV.junk, CV.junk, CV.junk, CV.junk, CV.junk, CV.junk, CV.junk, CV.junk, CV.junk, CV.junk, CV.junk, CV.junk, CV.junk, CV.junk, CV.junk, CV.junk, CV.junk, CV.junk, CV.junk, CV.junk, CV.junk, CV.junk, CV.junk, CV.junk, CV.junk, CV.junk, CV.junk, CV.junk, CV.junk, CV.junk, CV.junk, CV.junk, CV.junk, CV.junk, CV.junk, CV.junk, CV.junk, CV.junk, CV.junk, CV.junk, CV.junk, CV.junk, CV.junk, CV.junk, CV.junk, CV.junk, CV.junk] [Blk.mem (CV.pure (Ty.arr (32 : Nat) (Ty.int IntKind.u8)) p1), Blk.mem (CV.pure (Ty.arr (8 : Nat) (Ty.int IntKind.u32)) p2), Blk.mem (CV.pure (Ty.arr (64 : Nat) (Ty.int IntKind.u32)) p3), Blk.mem (CV.pure (Ty.arr (128 : Nat) (Ty.int IntKind.u8)) p4), Blk.mem (CV.pure (Ty.arr (64 : Nat) (Ty.int IntKind.u32)) p5), Blk.mem (CV.pure (Ty.arr (8 : Nat) (Ty.int IntKind.u32)) p6)] (4 : Nat)
def X_11_33_2_1_0 (p1 : List Int) (p2 : List Int) (p3 : List Int) (p4 : List Int) (p6 : List Int) : St := St.mk [CV.ptr (1 : Nat) [], CV.junk, CV.junk, CV.junk, CV.junk, CV.junk, CV.junk, CV.junk, CV.junk, CV.junk, CV.junk, CV.junk, CV.junk, CV.ptr (4 : Nat) [], CV.junk, CV.junk, CV.junk, CV.junk, CV.junk, CV.junk, CV.junk, CV.junk, CV.junk, CV.junk, CV.junk, CV.junk, CV.junk, CV.junk, CV.junk, CV.junk, CV.junk, CV.junk, CV.junk, CV.junk, CV.junk, CV.junk, CV.junk, CV.junk, CV.junk, CV.junk, CV.junk, CV.junk, CV.junk, CV.junk, CV.junk, CV.junk, CV.junk, CV.junk, CV.junk, CV.junk, CV.junk, CV.junk, CV.junk, CV.junk, CV.junk, CV.junk, CV.junk, CV.junk, CV.junk, CV.junk, CV.junk, CV.junk, CV.junk, CV.junk, CV.junk, CV.junk, CV.junk, CV.junk, CV.junk, CV.junk, CV.junk, CV.junk, CV.junk, CV.junk, CV.junk, CV.junk, CV.junk, CV.junk, CV.junk, CV.junk, CV.junk, CV.junk, CV.junk, CV.junk, CV.junk, CV.junk, CV.junk, CV.junk, CV.junk, CV.junk, CV.junk, CV.junk, CV.junk, CV.junk, CV.junk, CV.junk, CV.junk, CV.junk, CV.junk, CV.junk, CV.junk, CV.junk, CV.junk, CV.junk, CV.junk, CV.junk, CV.junk, CV.junk, CV.junk, CV.junk, CV.junk, CV.junk, CV.junk, CV.junk, CV.junk, CV.junk, CV.junk, CV.junk, CV.junk, CV.junk, CV.junk, CV.junk, CV.junk, CV.junk, CV.junk, CV.junk, CV.junk, CV.junk, CV.junk, CV.junk, CV.junk, CV.junk, CV.junk, CV.junk, CV.junk, CV.junk, CV.junk, CV.junk, CV.junk, CV.junk, CV.junk, CV.junk, CV.junk, CV.junk, CV.junk, CV.junk, CV.junk, CV.junk, CV.junk, CV.junk, CV.junk, CV.junk, CV.junk, CV.junk, CV.junk, CV.junk, CV.junk, CV.junk, CV.junk, CV.junk, CV.junk, CV.junk, CV.junk, CV.junk, CV.junk, CV.junk, CV.junk, CV.junk, CV.junk, CV.junk, CV.junk, CV.junk, CV.junk, CV.junk, CV.junk, CV.junk] [Blk.mem (CV.pure (Ty.arr (32 : Nat) (Ty.int IntKind.u8)) p1), Blk.mem (CV.pure (Ty.arr (8 : Nat) (Ty.int IntKind.u32)) p2), Blk.mem (CV.pure (Ty.arr (64 : Nat) (Ty.int IntKind.u32)) p3), Blk.mem (CV.pure (Ty.arr (128 : Nat) (Ty.int IntKind.u8)) p4), Blk.mem (CV.pure (Ty.arr (8 : Nat) (Ty.int IntKind.u32)) p6)] (4 : Nat)
inductive Sp.E_11_33_2_1 where
  | e0 (p1 : List Int) (p2 : List Int) (p3 : List Int) (p4 : List Int) (p6 : List Int)
def Sp.B_11_33_2_1 {R : Type} (r : Option Sp.E_11_33_2_1) (k0 : (List Int) → (List Int) → (List Int) → (List Int) → (List Int) → Option R) : Option R := match r with
  | none => none
  | some (.e0 p1 p2 p3 p4 p6) => k0 p1 p2 p3 p4 p6
def Sp.L_11_33_2_1 : Nat → (Int) → (List Int) → (List Int) → (List Int) → (List Int) → (List Int) → (List Int) → Option Sp.E_11_33_2_1
  | 0, _, _, _, _, _, _, _ => none
  | m + 1, p0, p1, p2, p3, p4, p5, p6 => bif decide (p0 < (64 : Int)) then gd (Sp.p_49 (List.getD p6 (4 : Nat) (0 : Int)) (6 : Int)) (gd (Sp.p_49 (List.getD p6 (4 : Nat) (0 : Int)) (11 : Int)) (gd (Sp.p_49 (List.getD p6 (4 : Nat) (0 : Int)) (25 : Int)) (gd (inB p0 (64 : Nat)) (gd (decide (Int.toNat p0 < (64 : Nat)) && true) (gd (inB p0 (64 : Nat)) (gd (decide (Int.toNat p0 < (64 : Nat)) && true) (gd (Sp.p_49 (List.getD p6 (0 : Nat) (0 : Int)) (2 : Int)) (gd (Sp.p_49 (List.getD p6 (0 : Nat) (0 : Int)) (13 : Int)) (gd (Sp.p_49 (List.getD p6 (0 : Nat) (0 : Int)) (22 : Int)) (Sp.L_11_33_2_1 m (IntKind.wrap IntKind.i64 (p0 + (1 : Int))) p1 p2 p3 p4 p5 [IntKind.wrap IntKind.u32 (IntKind.wrap IntKind.u32 (IntKind.wrap IntKind.u32 (IntKind.wrap IntKind.u32 (IntKind.wrap IntKind.u32 (List.getD p6 (7 : Nat) (0 : Int) + Sp.xorI IntKind.u32 (Sp.xorI IntKind.u32 (Prod.fst (Sp.v_49 (List.getD p6 (4 : Nat) (0 : Int)) (6 : Int))) (Prod.fst (Sp.v_49 (List.getD p6 (4 : Nat) (0 : Int)) (11 : Int)))) (Prod.fst (Sp.v_49 (List.getD p6 (4 : Nat) (0 : Int)) (25 : Int)))) + Sp.xorI IntKind.u32 (Sp.andI IntKind.u32 (List.getD p6 (4 : Nat) (0 : Int)) (List.getD p6 (5 : Nat) (0 : Int))) (Sp.andI IntKind.u32 (Sp.xorI IntKind.u32 (4294967295 : Int) (List.getD p6 (4 : Nat) (0 : Int))) (List.getD p6 (6 : Nat) (0 : Int)))) + List.getD p3 (Int.toNat p0) (0 : Int)) + List.getD p5 (Int.toNat p0) (0 : Int)) + IntKind.wrap IntKind.u32 (Sp.xorI IntKind.u32 (Sp.xorI IntKind.u32 (Prod.fst (Sp.v_49 (List.getD p6 (0 : Nat) (0 : Int)) (2 : Int))) (Prod.fst (Sp.v_49 (List.getD p6 (0 : Nat) (0 : Int)) (13 : Int)))) (Prod.fst (Sp.v_49 (List.getD p6 (0 : Nat) (0 : Int)) (22 : Int))) + Sp.xorI IntKind.u32 (Sp.xorI IntKind.u32 (Sp.andI IntKind.u32 (List.getD p6 (0 : Nat) (0 : Int)) (List.getD p6 (1 : Nat) (0 : Int))) (Sp.andI IntKind.u32 (List.getD p6 (0 : Nat) (0 : Int)) (List.getD p6 (2 : Nat) (0 : Int)))) (Sp.andI IntKind.u32 (List.getD p6 (1 : Nat) (0 : Int)) (List.getD p6 (2 : Nat) (0 : Int))))), List.getD p6 (0 : Nat) (0 : Int), List.getD p6 (1 : Nat) (0 : Int), List.getD p6 (2 : Nat) (0 : Int), IntKind.wrap IntKind.u32 (List.getD p6 (3 : Nat) (0 : Int) + IntKind.wrap IntKind.u32 (IntKind.wrap IntKind.u32 (IntKind.wrap IntKind.u32 (IntKind.wrap IntKind.u32 (List.getD p6 (7 : Nat) (0 : Int) + Sp.xorI IntKind.u32 (Sp.xorI IntKind.u32 (Prod.fst (Sp.v_49 (List.getD p6 (4 : Nat) (0 : Int)) (6 : Int))) (Prod.fst (Sp.v_49 (List.getD p6 (4 : Nat) (0 : Int)) (11 : Int)))) (Prod.fst (Sp.v_49 (List.getD p6 (4 : Nat) (0 : Int)) (25 : Int)))) + Sp.xorI IntKind.u32 (Sp.andI IntKind.u32 (List.getD p6 (4 : Nat) (0 : Int)) (List.getD p6 (5 : Nat) (0 : Int))) (Sp.andI IntKind.u32 (Sp.xorI IntKind.u32 (4294967295 : Int) (List.getD p6 (4 : Nat) (0 : Int))) (List.getD p6 (6 : Nat) (0 : Int)))) + List.getD p3 (Int.toNat p0) (0 : Int)) + List.getD p5 (Int.toNat p0) (0 : Int))), List.getD p6 (4 : Nat) (0 : Int), List.getD p6 (5 : Nat) (0 : Int), List.getD p6 (6 : Nat) (0 : Int)])))))))))) else some (Sp.E_11_33_2_1.e0 p1 p2 p3 p4 p6)
def G_11_33_2_1 {R : Type} (p0 : Int) (p1 : List Int) (p2 : List Int) (p3 : List Int) (p4 : List Int) (p5 : List Int) (p6 : List Int) (k : Ex → St → Option R) : Option R := Sp.B_11_33_2_1 (Sp.L_11_33_2_1 FU p0 p1 p2 p3 p4 p5 p6) (fun p1 p2 p3 p4 p6 => k (Ex.exit (4 : Nat)) (X_11_33_2_1_0 p1 p2 p3 p4 p6))
def m_11_33_2_1 : St → Bool := fun T => match T.sl.getD 0 .junk, T.sl.getD 1 .junk, T.sl.getD 6 .junk, T.sl.getD 13 .junk, T.sl.getD 77 .junk, T.hp with
  | CV.ptr (1 : Nat) [], CV.ptr (2 : Nat) [], CV.ptr (4 : Nat) [], CV.ptr (5 : Nat) [], CV.int IntKind.i64 p0, ((Blk.mem (CV.pure (Ty.arr (32 : Nat) (Ty.int IntKind.u8)) p1)) :: (Blk.mem (CV.pure (Ty.arr (8 : Nat) (Ty.int IntKind.u32)) p2)) :: (Blk.mem (CV.pure (Ty.arr (64 : Nat) (Ty.int IntKind.u32)) p3)) :: (Blk.mem (CV.pure (Ty.arr (128 : Nat) (Ty.int IntKind.u8)) p4)) :: (Blk.mem (CV.pure (Ty.arr (64 : Nat) (Ty.int IntKind.u32)) p5)) :: (Blk.mem (CV.pure (Ty.arr (8 : Nat) (Ty.int IntKind.u32)) p6)) :: []) => shapeOK T 176 [0, 1, 6, 13, 77] (4 : Nat)
  | _, _, _, _, _, _ => false
def o_11_33_2_1 {R : Type} (G : (Int) → (List Int) → (List Int) → (List Int) → (List Int) → (List Int) → (List Int) → (Ex → St → Option R) → Option R) : St → (Ex → St → Option R) → Option R := fun T k => match T.sl.getD 0 .junk, T.sl.getD 1 .junk, T.sl.getD 6 .junk, T.sl.getD 13 .junk, T.sl.getD 77 .junk, T.hp with
  | CV.ptr (1 : Nat) [], CV.ptr (2 : Nat) [], CV.ptr (4 : Nat) [], CV.ptr (5 : Nat) [], CV.int IntKind.i64 p0, ((Blk.mem (CV.pure (Ty.arr (32 : Nat) (Ty.int IntKind.u8)) p1)) :: (Blk.mem (CV.pure (Ty.arr (8 : Nat) (Ty.int IntKind.u32)) p2)) :: (Blk.mem (CV.pure (Ty.arr (64 : Nat) (Ty.int IntKind.u32)) p3)) :: (Blk.mem (CV.pure (Ty.arr (128 : Nat) (Ty.int IntKind.u8)) p4)) :: (Blk.mem (CV.pure (Ty.arr (64 : Nat) (Ty.int IntKind.u32)) p5)) :: (Blk.mem (CV.pure (Ty.arr (8 : Nat) (Ty.int IntKind.u32)) p6)) :: []) => gd (shapeOK T 176 [0, 1, 6, 13, 77] (4 : Nat)) (G p0 p1 p2 p3 p4 p5 p6 k)
  | _, _, _, _, _, _ => none
theorem o_11_33_2_1_inv {R : Type} {G : (Int) → (List Int) → (List Int) → (List Int) → (List Int) → (List Int) → (List Int) → (Ex → St → Option R) → Option R} {T : St} {k : Ex → St → Option R} {r : R} (h : o_11_33_2_1 G T k = some r) : ∃ p0 p1 p2 p3 p4 p5 p6, T = T_11_33_2_1 p0 p1 p2 p3 p4 p5 p6 ∧ G p0 p1 p2 p3 p4 p5 p6 k = some r := by
  unfold o_11_33_2_1 at h
  split at h
  · obtain ⟨hs, h'⟩ := gd_some h
    refine ⟨_, _, _, _, _, _, _, (st_of (asg := [(0, _), (1, _), (6, _), (13, _), (77, _)]) hs ⟨by assumption, by assumption, by assumption, by assumption, by assumption, trivial⟩ (by assumption)).trans ?_, h'⟩
    kernel_rfl
  · cases h
def T_11_33_3_1 (p0 : Int) (p1 : List Int) (p2 : List Int) (p3 : List Int) (p4 : List Int) (p5 : List Int) : St := St.mk [CV.ptr (1 : Nat) [], CV.junk, CV.junk, CV.junk, CV.junk, CV.junk, CV.junk, CV.junk, CV.junk, CV.junk, CV.junk, CV.junk, CV.junk, CV.ptr (4 : Nat) [], CV.junk, CV.junk, CV.junk, CV.junk, CV.junk, CV.junk, CV.junk, CV.junk, CV.junk, CV.junk, CV.junk, CV.junk, CV.junk, CV.junk, CV.junk, CV.junk, CV.junk, CV.junk, CV.junk, CV.junk, CV.junk, CV.junk, CV.junk, CV.junk, CV.junk, CV.junk, CV.junk, CV.junk, CV.junk, CV.junk, CV.junk, CV.junk, CV.junk, CV.junk, CV.junk, CV.junk, CV.junk, CV.junk, CV.junk, CV.junk, CV.junk, CV.junk, CV.junk, CV.junk, CV.junk, CV.junk, CV.junk, CV.junk, CV.junk, CV.junk, CV.junk, CV.junk, CV.junk, CV.junk, CV.junk, CV.junk, CV.junk, CV.junk, CV.junk, CV.junk, CV.junk, CV.junk, CV.junk, CV.junk, CV.junk, CV.junk, CV.junk, CV.junk, CV.junk, CV.junk, CV.junk, CV.junk, CV.junk, CV.junk, CV.junk, CV.junk, CV.junk, CV.junk, CV.junk, CV.junk, CV.junk, CV.junk, CV.junk, CV.junk, CV.junk, CV.junk, CV.junk, CV.junk, CV.junk, CV.junk, CV.junk, CV.junk, CV.junk, CV.junk, CV.junk, CV.junk, CV.junk, CV.junk, CV.junk, CV.junk, CV.junk, CV.junk, CV.junk, CV.junk, CV.junk, CV.junk, CV.junk, CV.junk, CV.junk, CV.junk, CV.junk, CV.junk, CV.junk, CV.junk, CV.junk, CV.junk, CV.junk, CV.junk, CV.junk, CV.junk, CV.junk, CV.junk, CV.junk, CV.junk, CV.junk, CV.junk, CV.junk, CV.junk, CV.junk, CV.junk, CV.junk, CV.junk, CV.junk, CV.junk, CV.junk, CV.junk, CV.junk, CV.junk, CV.junk, CV.junk, CV.junk, CV.junk, CV.junk, CV.junk, CV.junk, CV.junk, CV.junk, CV.int IntKind.i64 p0, CV.junk, CV.junk, CV.junk, CV.junk, CV.junk, CV.junk, CV.junk, CV.junk, CV.junk, CV.junk, CV.junk, CV.junk, CV.junk, CV.junk] [Blk.mem (CV.pure (Ty.arr (32 : Nat) (Ty.int IntKind.u8)) p1), Blk.mem (CV.pure (Ty.arr (8 : Nat) (Ty.int IntKind.u32)) p2), Blk.mem (CV.pure (Ty.arr (64 : Nat) (Ty.int IntKind.u32)) p3), Blk.mem (CV.pure (Ty.arr (128 : Nat) (Ty.int IntKind.u8)) p4), Blk.mem (CV.pure (Ty.arr (8 : Nat) (Ty.int IntKind.u32)) p5)] (4 : Nat)
def X_11_33_3_1_0 (p1 : List Int) (p2 : List Int) (p3 : List Int) (p4 : List Int) : St := St.mk [CV.junk, CV.junk, CV.junk, CV.junk, CV.junk, CV.junk, CV.junk, CV.junk, CV.junk, CV.junk, CV.junk, CV.junk, CV.junk, CV.junk, CV.junk, CV.junk, CV.junk, CV.junk, CV.junk, CV.junk, CV.junk, CV.junk, CV.junk, CV.junk, CV.junk, CV.junk, CV.junk, CV.junk, CV.junk, CV.junk, CV.junk, CV.junk, CV.junk, CV.junk, CV.junk, CV.junk, CV.junk, CV.junk, CV.junk, CV.junk, CV.junk, CV.junk, CV.junk, CV.junk, CV.junk, CV.junk, CV.junk, CV.junk, CV.junk, CV.junk, CV.junk, CV.junk, CV.junk, CV.junk, CV.junk, CV.junk, CV.junk, CV.junk, CV.junk, CV.junk, CV.junk, CV.junk, CV.junk, CV.junk, CV.junk, CV.junk, CV.junk, CV.junk, CV.junk, CV.junk, CV.junk, CV.junk, CV.junk, CV.junk, CV.junk, CV.junk, CV.junk, CV.junk, CV.junk, CV.junk, CV.junk, CV.junk, CV.junk, CV.junk, CV.junk, CV.junk, CV.junk, CV.junk, CV.junk, CV.junk, CV.junk, CV.junk, CV.junk, CV.junk, CV.junk, CV.junk, CV.junk, CV.junk, CV.junk, CV.junk, CV.junk, CV.junk, CV.junk, CV.junk, CV.junk, CV.junk, CV.junk, CV.junk, CV.junk, CV.junk, CV.junk, CV.junk, CV.junk, CV.junk, CV.junk, CV.junk, CV.junk, CV.junk, CV.junk, CV.junk, CV.junk, CV.junk, CV.junk, CV.junk, CV.junk, CV.junk, CV.junk, CV.junk, CV.junk, CV.junk, CV.junk, CV.junk, CV.junk, CV.junk, CV.junk, CV.junk, CV.junk, CV.junk, CV.junk, CV.junk, CV.junk, CV.junk, CV.junk, CV.junk, CV.junk, CV.junk, CV.junk, CV.junk, CV.junk, CV.junk, CV.junk, CV.junk, CV.junk, CV.junk, CV.junk, CV.junk, CV.junk, CV.junk, CV.junk, CV.junk, CV.junk, CV.junk, CV.junk, CV.junk, CV.junk, CV.junk, CV.junk, CV.junk, CV.junk, CV.junk, CV.junk, CV.junk, CV.junk, CV.junk, CV.junk, CV.junk] [Blk.mem (CV.pure (Ty.arr (32 : Nat) (Ty.int IntKind.u8)) p1), Blk.mem (CV.pure (Ty.arr (8 : Nat) (Ty.int IntKind.u32)) p2), Blk.mem (CV.pure (Ty.arr (64 : Nat) (Ty.int IntKind.u32)) p3), Blk.mem (CV.pure (Ty.arr (128 : Nat) (Ty.int IntKind.u8)) p4)] (4 : Nat)
inductive Sp.E_11_33_3_1 where
  | e0 (p1 : List Int) (p2 : List Int) (p3 : List Int) (p4 : List Int)
def Sp.B_11_33_3_1 {R : Type} (r : Option Sp.E_11_33_3_1) (k0 : (List Int) → (List Int) → (List Int) → (List Int) → Option R) : Option R := match r with
  | none => none
  | some (.e0 p1 p2 p3 p4) => k0 p1 p2 p3 p4
def Sp.L_11_33_3_1 : Nat → (Int) → (List Int) → (List Int) → (List Int) → (List Int) → (List Int) → Option Sp.E_11_33_3_1
  | 0, _, _, _, _, _, _ => none
  | m + 1, p0, p1, p2, p3, p4, p5 => bif decide (p0 < (8 : Int)) then gd (inB p0 (8 : Nat)) (gd (decide (Int.toNat p0 < (8 : Nat)) && true) (gd (inB p0 (8 : Nat)) (gd (decide (Int.toNat p0 < (8 : Nat)) && true) (gd (inB p0 (8 : Nat)) (gd (decide (Int.toNat p0 < (8 : Nat)) && true) (Sp.L_11_33_3_1 m (IntKind.wrap IntKind.i64 (p0 + (1 : Int))) p1 (List.set p2 (Int.toNat p0) (IntKind.wrap IntKind.u32 (List.getD p2 (Int.toNat p0) (0 : Int) + List.getD p5 (Int.toNat p0) (0 : Int)))) p3 p4 p5)))))) else some (Sp.E_11_33_3_1.e0 p1 p2 p3 p4)
def G_11_33_3_1 {R : Type} (p0 : Int) (p1 : List Int) (p2 : List Int) (p3 : List Int) (p4 : List Int) (p5 : List Int) (k : Ex → St → Option R) : Option R := Sp.B_11_33_3_1 (Sp.L_11_33_3_1 FU p0 p1 p2 p3 p4 p5) (fun p1 p2 p3 p4 => k (Ex.exit (6 : Nat)) (X_11_33_3_1_0 p1 p2 p3 p4))
def m_11_33_3_1 : St → Bool := fun T => match T.sl.getD 0 .junk, T.sl.getD 13 .junk, T.sl.getD 161 .junk, T.hp with
  | CV.ptr (1 : Nat) [], CV.ptr (4 : Nat) [], CV.int IntKind.i64 p0, ((Blk.mem (CV.pure (Ty.arr (32 : Nat) (Ty.int IntKind.u8)) p1)) :: (Blk.mem (CV.pure (Ty.arr (8 : Nat) (Ty.int IntKind.u32)) p2)) :: (Blk.mem (CV.pure (Ty.arr (64 : Nat) (Ty.int IntKind.u32)) p3)) :: (Blk.mem (CV.pure (Ty.arr (128 : Nat) (Ty.int IntKind.u8)) p4)) :: (Blk.mem (CV.pure (Ty.arr (8 : Nat) (Ty.int IntKind.u32)) p5)) :: []) => shapeOK T 176 [0, 13, 161] (4 : Nat)
  | _, _, _, _ => false
def o_11_33_3_1 {R : Type} (G : (Int) → (List Int) → (List Int) → (List Int) → (List Int) → (List Int) → (Ex → St → Option R) → Option R) : St → (Ex → St → Option R) → Option R := fun T k => match T.sl.getD 0 .junk, T.sl.getD 13 .junk, T.sl.getD 161 .junk, T.hp with
  | CV.ptr (1 : Nat) [], CV.ptr (4 : Nat) [], CV.int IntKind.i64 p0, ((Blk.mem (CV.pure (Ty.arr (32 : Nat) (Ty.int IntKind.u8)) p1)) :: (Blk.mem (CV.pure (Ty.arr (8 : Nat) (Ty.int IntKind.u32)) p2)) :: (Blk.mem (CV.pure (Ty.arr (64 : Nat) (Ty.int IntKind.u32)) p3)) :: (Blk.mem (CV.pure (Ty.arr (128 : Nat) (Ty.int IntKind.u8)) p4)) :: (Blk.mem (CV.pure (Ty.arr (8 : Nat) (Ty.int IntKind.u32)) p5)) :: []) => gd (shapeOK T 176 [0, 13, 161] (4 : Nat)) (G p0 p1 p2 p3 p4 p5 k)
  | _, _, _, _ => none
theorem o_11_33_3_1_inv {R : Type} {G : (Int) → (List Int) → (List Int) → (List Int) → (List Int) → (List Int) → (Ex → St → Option R) → Option R} {T : St} {k : Ex → St → Option R} {r : R} (h : o_11_33_3_1 G T k = some r) : ∃ p0 p1 p2 p3 p4 p5, T = T_11_33_3_1 p0 p1 p2 p3 p4 p5 ∧ G p0 p1 p2 p3 p4 p5 k = some r := by
  unfold o_11_33_3_1 at h
  split at h
  · obtain ⟨hs, h'⟩ := gd_some h
    refine ⟨_, _, _, _, _, _, (st_of (asg := [(0, _), (13, _), (161, _)]) hs ⟨by assumption, by assumption, by assumption, trivial⟩ (by assumption)).trans ?_, h'⟩
    kernel_rfl
  · cases h
def T_11_2 (p0 : Int) (p1 : Int) (p2 : List Int) (p3 : List Int) (p4 : List Int) (p5 : List Int) : St := St.mk [CV.junk, CV.junk, CV.ptr (0 : Nat) [], CV.ptr (1 : Nat) [], CV.ptr (2 : Nat) [], CV.junk, CV.ptr (3 : Nat) [], CV.junk, CV.int IntKind.i64 p0, CV.junk, CV.int IntKind.i64 p1, CV.junk, CV.junk, CV.junk, CV.junk, CV.junk, CV.junk, CV.junk, CV.junk, CV.junk, CV.junk, CV.junk, CV.junk, CV.junk, CV.junk, CV.junk, CV.junk, CV.junk, CV.junk, CV.junk, CV.junk, CV.junk, CV.junk, CV.junk, CV.junk, CV.junk, CV.junk, CV.junk, CV.junk, CV.junk, CV.junk, CV.junk, CV.junk, CV.junk, CV.junk, CV.junk, CV.junk, CV.junk, CV.junk, CV.junk, CV.junk, CV.junk, CV.junk, CV.junk, CV.junk, CV.junk, CV.junk, CV.junk, CV.junk, CV.junk, CV.junk, CV.junk, CV.junk, CV.junk, CV.junk, CV.junk, CV.junk, CV.junk, CV.junk, CV.junk, CV.junk, CV.junk] [Blk.mem (CV.pure (Ty.arr (32 : Nat) (Ty.int IntKind.u8)) p2), Blk.mem (CV.pure (Ty.arr (8 : Nat) (Ty.int IntKind.u32)) p3), Blk.mem (CV.pure (Ty.arr (64 : Nat) (Ty.int IntKind.u32)) p4), Blk.mem (CV.pure (Ty.arr (128 : Nat) (Ty.int IntKind.u8)) p5)] (0 : Nat)
def X_11_2_0 (p2 : List Int) (p3 : List Int) : St := St.mk [CV.junk, CV.junk, CV.ptr (0 : Nat) [], CV.ptr (1 : Nat) [], CV.junk, CV.junk, CV.junk, CV.junk, CV.junk, CV.junk, CV.junk, CV.junk, CV.junk, CV.junk, CV.junk, CV.junk, CV.junk, CV.junk, CV.junk, CV.junk, CV.junk, CV.junk, CV.junk, CV.junk, CV.junk, CV.junk, CV.junk, CV.junk, CV.junk, CV.junk, CV.junk, CV.junk, CV.junk, CV.junk, CV.junk, CV.junk, CV.junk, CV.junk, CV.junk, CV.junk, CV.junk, CV.junk, CV.junk, CV.junk, CV.junk, CV.junk, CV.junk, CV.junk, CV.junk, CV.junk, CV.junk, CV.junk, CV.junk, CV.junk, CV.junk, CV.junk, CV.junk, CV.junk, CV.junk, CV.junk, CV.junk, CV.junk, CV.junk, CV.junk, CV.junk, CV.junk, CV.junk, CV.junk, CV.junk, CV.junk, CV.junk, CV.junk] [Blk.mem (CV.pure (Ty.arr (32 : Nat) (Ty.int IntKind.u8)) p2), Blk.mem (CV.pure (Ty.arr (8 : Nat) (Ty.int IntKind.u32)) p3)] (0 : Nat)
inductive Sp.E_11_2 where
  | e0 (p2 : List Int) (p3 : List Int)
def Sp.B_11_2 {R : Type} (r : Option Sp.E_11_2) (k0 : (List Int) → (List Int) → Option R) : Option R := match r with
  | none => none
  | some (.e0 p2 p3) => k0 p2 p3
def Sp.L_11_2 : Nat → (Int) → (Int) → (List Int) → (List Int) → (List Int) → (List Int) → Option Sp.E_11_2
  | 0, _, _, _, _, _, _ => none
  | m + 1, p0, p1, p2, p3, p4, p5 => bif decide (p1 < p0) then gd (sl3 p1 (IntKind.wrap IntKind.i64 (p1 + (64 : Int))) (128 : Int)) (Sp.B_11_33_0_1 (Sp.L_11_33_0_1 (4611686018427387904 : Nat) (Int.toNat p1) (Int.toNat (IntKind.wrap IntKind.i64 (p1 + (64 : Int))) - Int.toNat p1) ((128 : Nat) - Int.toNat p1) (0 : Int) p2 p3 p4 p5 (List.replicate (64 : Nat) (0 : Int))) fun (y19 y20 y21 y22 y23 : List Int) => Sp.B_11_33_1_1 (Sp.L_11_33_1_1 (4611686018427387904 : Nat) (16 : Int) y19 y20 y21 y22 y23) fun (y24 y25 y26 y27 y28 : List Int) => Sp.B_11_33_2_1 (Sp.L_11_33_2_1 (4611686018427387904 : Nat) (0 : Int) y24 y25 y26 y27 y28 y25) fun (y29 y30 y31 y32 y33 : List Int) => Sp.B_11_33_3_1 (Sp.L_11_33_3_1 (4611686018427387904 : Nat) (0 : Int) y29 y30 y31 y32 y33) fun (y34 y35 y36 y37 : List Int) => Sp.L_11_2 m p0 (IntKind.wrap IntKind.i64 (p1 + (64 : Int))) y34 y35 y36 y37) else some (Sp.E_11_2.e0 p2 p3)
def G_11_2 {R : Type} (p0 : Int) (p1 : Int) (p2 : List Int) (p3 : List Int) (p4 : List Int) (p5 : List Int) (k : Ex → St → Option R) : Option R := Sp.B_11_2 (Sp.L_11_2 FU p0 p1 p2 p3 p4 p5) (fun p2 p3 => k (Ex.exit (2 : Nat)) (X_11_2_0 p2 p3))
def o_11_2 {R : Type} (G : (Int) → (Int) → (List Int) → (List Int) → (List Int) → (List Int) → (Ex → St → Option R) → Option R) : St → (Ex → St → Option R) → Option R := fun T k => match T.sl.getD 2 .junk, T.sl.getD 3 .junk, T.sl.getD 4 .junk, T.sl.getD 6 .junk, T.sl.getD 8 .junk, T.sl.getD 10 .junk, T.hp with
  | CV.ptr (0 : Nat) [], CV.ptr (1 : Nat) [], CV.ptr (2 : Nat) [], CV.ptr (3 : Nat) [], CV.int IntKind.i64 p0, CV.int IntKind.i64 p1, ((Blk.mem (CV.pure (Ty.arr (32 : Nat) (Ty.int IntKind.u8)) p2)) :: (Blk.mem (CV.pure (Ty.arr (8 : Nat) (Ty.int IntKind.u32)) p3)) :: (Blk.mem (CV.pure (Ty.arr (64 : Nat) (Ty.int IntKind.u32)) p4)) :: (Blk.mem (CV.pure (Ty.arr (128 : Nat) (Ty.int IntKind.u8)) p5)) :: []) => gd (shapeOK T 72 [2, 3, 4, 6, 8, 10] (0 : Nat)) (G p0 p1 p2 p3 p4 p5 k)
  | _, _, _, _, _, _, _ => none
theorem o_11_2_inv {R : Type} {G : (Int) → (Int) → (List Int) → (List Int) → (List Int) → (List Int) → (Ex → St → Option R) → Option R} {T : St} {k : Ex → St → Option R} {r : R} (h : o_11_2 G T k = some r) : ∃ p0 p1 p2 p3 p4 p5, T = T_11_2 p0 p1 p2 p3 p4 p5 ∧ G p0 p1 p2 p3 p4 p5 k = some r := by
  unfold o_11_2 at h
  split at h
  · obtain ⟨hs, h'⟩ := gd_some h
    refine ⟨_, _, _, _, _, _, (st_of (asg := [(2, _), (3, _), (4, _), (6, _), (8, _), (10, _)]) hs ⟨by assumption, by assumption, by assumption, by assumption, by assumption, by assumption, trivial⟩ (by assumption)).trans ?_, h'⟩
    kernel_rfl
  · cases h
def T_11_3 (p0 : List Int) (p1 : Int) (p2 : List Int) (p3 : List Int) : St := St.mk [CV.junk, CV.junk, CV.ptr (0 : Nat) [], CV.junk, CV.junk, CV.junk, CV.junk, CV.junk, CV.junk, CV.junk, CV.junk, CV.ptr (1 : Nat) [], CV.junk, CV.junk, CV.junk, CV.junk, CV.junk, CV.junk, CV.junk, CV.junk, CV.junk, CV.junk, CV.junk, CV.junk, CV.junk, CV.junk, CV.junk, CV.junk, CV.junk, CV.junk, CV.junk, CV.junk, CV.junk, CV.junk, CV.junk, CV.junk, CV.junk, CV.junk, CV.junk, CV.junk, CV.junk, CV.junk, CV.junk, CV.junk, CV.junk, CV.junk, CV.junk, CV.junk, CV.junk, CV.junk, CV.junk, CV.junk, CV.junk, CV.junk, CV.junk, CV.junk, CV.junk, CV.junk, CV.junk, CV.junk, CV.pure (Ty.arr (8 : Nat) (Ty.int IntKind.u32)) p0, CV.int IntKind.i64 p1, CV.junk, CV.junk, CV.junk, CV.junk, CV.junk, CV.junk, CV.junk, CV.junk, CV.junk, CV.junk] [Blk.mem (CV.pure (Ty.arr (32 : Nat) (Ty.int IntKind.u8)) p2), Blk.mem (CV.pure (Ty.arr (32 : Nat) (Ty.int IntKind.u8)) p3)] (0 : Nat)
def X_11_3_0 (p2 : List Int) (p3 : List Int) : St := St.mk [CV.junk, CV.junk, CV.ptr (0 : Nat) [], CV.junk, CV.junk, CV.junk, CV.junk, CV.junk, CV.junk, CV.junk, CV.junk, CV.ptr (1 : Nat) [], CV.junk, CV.junk, CV.junk, CV.junk, CV.junk, CV.junk, CV.junk, CV.junk, CV.junk, CV.junk, CV.junk, CV.junk, CV.junk, CV.junk, CV.junk, CV.junk, CV.junk, CV.junk, CV.junk, CV.junk, CV.junk, CV.junk, CV.junk, CV.junk, CV.junk, CV.junk, CV.junk, CV.junk, CV.junk, CV.junk, CV.junk, CV.junk, CV.junk, CV.junk, CV.junk, CV.junk, CV.junk, CV.junk, CV.junk, CV.junk, CV.junk, CV.junk, CV.junk, CV.junk, CV.junk, CV.junk, CV.junk, CV.junk, CV.junk, CV.junk, CV.junk, CV.junk, CV.junk, CV.junk, CV.junk, CV.junk, CV.junk, CV.junk, CV.junk, CV.junk] [Blk.mem (CV.pure (Ty.arr (32 : Nat) (Ty.int IntKind.u8)) p2), Blk.mem (CV.pure (Ty.arr (32 : Nat) (Ty.int IntKind.u8)) p3)] (0 : Nat)
inductive Sp.E_11_3 where
  | e0 (p2 : List Int) (p3 : List Int)
def Sp.B_11_3 {R : Type} (r : Option Sp.E_11_3) (k0 : (List Int) → (List Int) → Option R) : Option R := match r with
  | none => none
  | some (.e0 p2 p3) => k0 p2 p3
def Sp.L_11_3 : Nat → (List Int) → (Int) → (List Int) → (List Int) → Option Sp.E_11_3
  | 0, _, _, _, _ => none
  | m + 1, p0, p1, p2, p3 => bif decide (p1 < (8 : Int)) then gd (inB p1 (8 : Nat)) (gd (sl3 (IntKind.wrap IntKind.i64 ((4 : Int) * p1)) (32 : Int) (32 : Int)) (gd (inB (0 : Int) ((32 : Nat) - Int.toNat (IntKind.wrap IntKind.i64 ((4 : Int) * p1)))) (gd (decide (Int.toNat (IntKind.wrap IntKind.i64 ((4 : Int) * p1)) + (0 : Nat) < (32 : Nat)) && true) (gd (inB (1 : Int) ((32 : Nat) - Int.toNat (IntKind.wrap IntKind.i64 ((4 : Int) * p1)))) (gd (decide (Int.toNat (IntKind.wrap IntKind.i64 ((4 : Int) * p1)) + (1 : Nat) < (32 : Nat)) && true) (gd (inB (2 : Int) ((32 : Nat) - Int.toNat (IntKind.wrap IntKind.i64 ((4 : Int) * p1)))) (gd (decide (Int.toNat (IntKind.wrap IntKind.i64 ((4 : Int) * p1)) + (2 : Nat) < (32 : Nat)) && true) (gd (inB (3 : Int) ((32 : Nat) - Int.toNat (IntKind.wrap IntKind.i64 ((4 : Int) * p1)))) (gd (decide (Int.toNat (IntKind.wrap IntKind.i64 ((4 : Int) * p1)) + (3 : Nat) < (32 : Nat)) && true) (Sp.L_11_3 m p0 (IntKind.wrap IntKind.i64 (p1 + (1 : Int))) p2 (List.set (List.set (List.set (List.set p3 (Int.toNat (IntKind.wrap IntKind.i64 ((4 : Int) * p1)) + (0 : Nat)) (IntKind.wrap IntKind.u8 (Int.fdiv (List.getD p0 (Int.toNat p1) (0 : Int)) (16777216 : Int)))) (Int.toNat (IntKind.wrap IntKind.i64 ((4 : Int) * p1)) + (1 : Nat)) (IntKind.wrap IntKind.u8 (Int.fdiv (List.getD p0 (Int.toNat p1) (0 : Int)) (65536 : Int)))) (Int.toNat (IntKind.wrap IntKind.i64 ((4 : Int) * p1)) + (2 : Nat)) (IntKind.wrap IntKind.u8 (Int.fdiv (List.getD p0 (Int.toNat p1) (0 : Int)) (256 : Int)))) (Int.toNat (IntKind.wrap IntKind.i64 ((4 : Int) * p1)) + (3 : Nat)) (IntKind.wrap IntKind.u8 (List.getD p0 (Int.toNat p1) (0 : Int)))))))))))))) else some (Sp.E_11_3.e0 p2 p3)
def G_11_3 {R : Type} (p0 : List Int) (p1 : Int) (p2 : List Int) (p3 : List Int) (k : Ex → St → Option R) : Option R := Sp.B_11_3 (Sp.L_11_3 FU p0 p1 p2 p3) (fun p2 p3 => k (Ex.exit (4 : Nat)) (X_11_3_0 p2 p3))
def o_11_3 {R : Type} (G : (List Int) → (Int) → (List Int) → (List Int) → (Ex → St → Option R) → Option R) : St → (Ex → St → Option R) → Option R := fun T k => match T.sl.getD 2 .junk, T.sl.getD 11 .junk, T.sl.getD 60 .junk, T.sl.getD 61 .junk, T.hp with
  | CV.ptr (0 : Nat) [], CV.ptr (1 : Nat) [], CV.pure (Ty.arr (8 : Nat) (Ty.int IntKind.u32)) p0, CV.int IntKind.i64 p1, ((Blk.mem (CV.pure (Ty.arr (32 : Nat) (Ty.int IntKind.u8)) p2)) :: (Blk.mem (CV.pure (Ty.arr (32 : Nat) (Ty.int IntKind.u8)) p3)) :: []) => gd (shapeOK T 72 [2, 11, 60, 61] (0 : Nat)) (G p0 p1 p2 p3 k)
  | _, _, _, _, _ => none
theorem o_11_3_inv {R : Type} {G : (List Int) → (Int) → (List Int) → (List Int) → (Ex → St → Option R) → Option R} {T : St} {k : Ex → St → Option R} {r : R} (h : o_11_3 G T k = some r) : ∃ p0 p1 p2 p3, T = T_11_3 p0 p1 p2 p3 ∧ G p0 p1 p2 p3 k = some r := by
  unfold o_11_3 at h
  split at h
  · obtain ⟨hs, h'⟩ := gd_some h
    refine ⟨_, _, _, _, (st_of (asg := [(2, _), (11, _), (60, _), (61, _)]) hs ⟨by assumption, by assumption, by assumption, by assumption, trivial⟩ (by assumption)).trans ?_, h'⟩
    kernel_rfl
  · cases h
def T_11_1 (p0 : List Int) (p1 : Int) (p2 : List Int) (p3 : List Int) (p4 : List Int) (p5 : List Int) : St := St.mk [CV.pure (Ty.slice (Ty.int IntKind.u8)) p0, CV.junk, CV.ptr (0 : Nat) [], CV.ptr (1 : Nat) [], CV.ptr (2 : Nat) [], CV.junk, CV.ptr (3 : Nat) [], CV.junk, CV.int IntKind.i64 p1, CV.junk, CV.junk, CV.junk, CV.junk, CV.junk, CV.junk, CV.junk, CV.junk, CV.junk, CV.junk, CV.junk, CV.junk, CV.junk, CV.junk, CV.junk, CV.junk, CV.junk, CV.junk, CV.junk, CV.junk, CV.junk, CV.junk, CV.junk, CV.junk, CV.junk, CV.junk, CV.junk, CV.junk, CV.junk, CV.junk, CV.junk, CV.junk, CV.junk, CV.junk, CV.junk, CV.junk, CV.junk, CV.junk, CV.junk, CV.junk, CV.junk, CV.junk, CV.junk, CV.junk, CV.junk, CV.junk, CV.junk, CV.junk, CV.junk, CV.junk, CV.junk, CV.junk, CV.junk, CV.junk, CV.junk, CV.junk, CV.junk, CV.junk, CV.junk, CV.junk, CV.junk, CV.junk, CV.junk] [Blk.mem (CV.pure (Ty.arr (32 : Nat) (Ty.int IntKind.u8)) p2), Blk.mem (CV.pure (Ty.arr (8 : Nat) (Ty.int IntKind.u32)) p3), Blk.mem (CV.pure (Ty.arr (64 : Nat) (Ty.int IntKind.u32)) p4), Blk.mem (CV.pure (Ty.arr (128 : Nat) (Ty.int IntKind.u8)) p5)] (0 : Nat)
def X_11_1_0 (y7 : List Int) : St := St.mk [CV.junk, CV.junk, CV.ptr (0 : Nat) [], CV.junk, CV.junk, CV.junk, CV.junk, CV.junk, CV.junk, CV.junk, CV.junk, CV.junk, CV.junk, CV.junk, CV.junk, CV.junk, CV.junk, CV.junk, CV.junk, CV.junk, CV.junk, CV.junk, CV.junk, CV.junk, CV.junk, CV.junk, CV.junk, CV.junk, CV.junk, CV.junk, CV.junk, CV.junk, CV.junk, CV.junk, CV.junk, CV.junk, CV.junk, CV.junk, CV.junk, CV.junk, CV.junk, CV.junk, CV.junk, CV.junk, CV.junk, CV.junk, CV.junk, CV.junk, CV.junk, CV.junk, CV.junk, CV.junk, CV.junk, CV.junk, CV.junk, CV.junk, CV.junk, CV.junk, CV.junk, CV.junk, CV.junk, CV.junk, CV.junk, CV.junk, CV.junk, CV.junk, CV.junk, CV.junk, CV.junk, CV.junk, CV.junk, CV.junk] [Blk.mem (CV.pure (Ty.arr (32 : Nat) (Ty.int IntKind.u8)) y7)] (0 : Nat)
inductive Sp.E_11_1 where
  | e0 (y7 : List Int)
def Sp.B_11_1 {R : Type} (r : Option Sp.E_11_1) (k0 : (List Int) → Option R) : Option R := match r with
  | none => none
  | some (.e0 y7) => k0 y7
def Sp.J_11_1 (p0 : List Int) (p1 : Int) (p2 : List Int) (p3 : List Int) (p4 : List Int) (p5 : List Int) : Option Sp.E_11_1 :=
  gd (sl3 (IntKind.wrap IntKind.i64 (p1 - (8 : Int))) (128 : Int) (128 : Int)) (gd (inB (0 : Int) ((128 : Nat) - Int.toNat (IntKind.wrap IntKind.i64 (p1 - (8 : Int))))) (gd (decide (Int.toNat (IntKind.wrap IntKind.i64 (p1 - (8 : Int))) + (0 : Nat) < (128 : Nat)) && true) (gd (inB (1 : Int) ((128 : Nat) - Int.toNat (IntKind.wrap IntKind.i64 (p1 - (8 : Int))))) (gd (decide (Int.toNat (IntKind.wrap IntKind.i64 (p1 - (8 : Int))) + (1 : Nat) < (128 : Nat)) && true) (gd (inB (2 : Int) ((128 : Nat) - Int.toNat (IntKind.wrap IntKind.i64 (p1 - (8 : Int))))) (gd (decide (Int.toNat (IntKind.wrap IntKind.i64 (p1 - (8 : Int))) + (2 : Nat) < (128 : Nat)) && true) (gd (inB (3 : Int) ((128 : Nat) - Int.toNat (IntKind.wrap IntKind.i64 (p1 - (8 : Int))))) (gd (decide (Int.toNat (IntKind.wrap IntKind.i64 (p1 - (8 : Int))) + (3 : Nat) < (128 : Nat)) && true) (gd (sl3 (IntKind.wrap IntKind.i64 (p1 - (4 : Int))) (128 : Int) (128 : Int)) (gd (inB (0 : Int) ((128 : Nat) - Int.toNat (IntKind.wrap IntKind.i64 (p1 - (4 : Int))))) (gd (decide (Int.toNat (IntKind.wrap IntKind.i64 (p1 - (4 : Int))) + (0 : Nat) < (128 : Nat)) && true) (gd (inB (1 : Int) ((128 : Nat) - Int.toNat (IntKind.wrap IntKind.i64 (p1 - (4 : Int))))) (gd (decide (Int.toNat (IntKind.wrap IntKind.i64 (p1 - (4 : Int))) + (1 : Nat) < (128 : Nat)) && true) (gd (inB (2 : Int) ((128 : Nat) - Int.toNat (IntKind.wrap IntKind.i64 (p1 - (4 : Int))))) (gd (decide (Int.toNat (IntKind.wrap IntKind.i64 (p1 - (4 : Int))) + (2 : Nat) < (128 : Nat)) && true) (gd (inB (3 : Int) ((128 : Nat) - Int.toNat (IntKind.wrap IntKind.i64 (p1 - (4 : Int))))) (gd (decide (Int.toNat (IntKind.wrap IntKind.i64 (p1 - (4 : Int))) + (3 : Nat) < (128 : Nat)) && true) (Sp.B_11_2 (Sp.L_11_2 (4611686018427387904 : Nat) p1 (0 : Int) p2 p3 p4 (List.set (List.set (List.set (List.set (List.set (List.set (List.set (List.set p5 (Int.toNat (IntKind.wrap IntKind.i64 (p1 - (8 : Int))) + (0 : Nat)) (IntKind.wrap IntKind.u8 (Int.fdiv (IntKind.wrap IntKind.u32 (Int.fdiv (IntKind.wrap IntKind.u64 (IntKind.wrap IntKind.u64 (↑(List.length p0) : Int) * (8 : Int))) (4294967296 : Int))) (16777216 : Int)))) (Int.toNat (IntKind.wrap IntKind.i64 (p1 - (8 : Int))) + (1 : Nat)) (IntKind.wrap IntKind.u8 (Int.fdiv (IntKind.wrap IntKind.u32 (Int.fdiv (IntKind.wrap IntKind.u64 (IntKind.wrap IntKind.u64 (↑(List.length p0) : Int) * (8 : Int))) (4294967296 : Int))) (65536 : Int)))) (Int.toNat (IntKind.wrap IntKind.i64 (p1 - (8 : Int))) + (2 : Nat)) (IntKind.wrap IntKind.u8 (Int.fdiv (IntKind.wrap IntKind.u32 (Int.fdiv (IntKind.wrap IntKind.u64 (IntKind.wrap IntKind.u64 (↑(List.length p0) : Int) * (8 : Int))) (4294967296 : Int))) (256 : Int)))) (Int.toNat (IntKind.wrap IntKind.i64 (p1 - (8 : Int))) + (3 : Nat)) (IntKind.wrap IntKind.u8 (IntKind.wrap IntKind.u32 (Int.fdiv (IntKind.wrap IntKind.u64 (IntKind.wrap IntKind.u64 (↑(List.length p0) : Int) * (8 : Int))) (4294967296 : Int))))) (Int.toNat (IntKind.wrap IntKind.i64 (p1 - (4 : Int))) + (0 : Nat)) (IntKind.wrap IntKind.u8 (Int.fdiv (IntKind.wrap IntKind.u32 (IntKind.wrap IntKind.u64 (IntKind.wrap IntKind.u64 (↑(List.length p0) : Int) * (8 : Int)))) (16777216 : Int)))) (Int.toNat (IntKind.wrap IntKind.i64 (p1 - (4 : Int))) + (1 : Nat)) (IntKind.wrap IntKind.u8 (Int.fdiv (IntKind.wrap IntKind.u32 (IntKind.wrap IntKind.u64 (IntKind.wrap IntKind.u64 (↑(List.length p0) : Int) * (8 : Int)))) (65536 : Int)))) (Int.toNat (IntKind.wrap IntKind.i64 (p1 - (4 : Int))) + (2 : Nat)) (IntKind.wrap IntKind.u8 (Int.fdiv (IntKind.wrap IntKind.u32 (IntKind.wrap IntKind.u64 (IntKind.wrap IntKind.u64 (↑(List.length p0) : Int) * (8 : Int)))) (256 : Int)))) (Int.toNat (IntKind.wrap IntKind.i64 (p1 - (4 : Int))) + (3 : Nat)) (IntKind.wrap IntKind.u8 (IntKind.wrap IntKind.u32 (IntKind.wrap IntKind.u64 (IntKind.wrap IntKind.u64 (↑(List.length p0) : Int) * (8 : Int))))))) fun (y4 y5 : List Int) => Sp.B_11_3 (Sp.L_11_3 (4611686018427387904 : Nat) y5 (0 : Int) y4 (List.replicate (32 : Nat) (0 : Int))) fun (y6 y7 : List Int) => some (Sp.E_11_1.e0 y7)))))))))))))))))))
def G_11_1 {R : Type} (p0 : List Int) (p1 : Int) (p2 : List Int) (p3 : List Int) (p4 : List Int) (p5 : List Int) (k : Ex → St → Option R) : Option R := Sp.B_11_1 (Sp.J_11_1 p0 p1 p2 p3 p4 p5) (fun y7 => k Ex.ret (X_11_1_0 y7))
def o_11_1 {R : Type} (G : (List Int) → (Int) → (List Int) → (List Int) → (List Int) → (List Int) → (Ex → St → Option R) → Option R) : St → (Ex → St → Option R) → Option R := fun T k => match T.sl.getD 0 .junk, T.sl.getD 2 .junk, T.sl.getD 3 .junk, T.sl.getD 4 .junk, T.sl.getD 6 .junk, T.sl.getD 8 .junk, T.hp with
  | CV.pure (Ty.slice (Ty.int IntKind.u8)) p0, CV.ptr (0 : Nat) [], CV.ptr (1 : Nat) [], CV.ptr (2 : Nat) [], CV.ptr (3 : Nat) [], CV.int IntKind.i64 p1, ((Blk.mem (CV.pure (Ty.arr (32 : Nat) (Ty.int IntKind.u8)) p2)) :: (Blk.mem (CV.pure (Ty.arr (8 : Nat) (Ty.int IntKind.u32)) p3)) :: (Blk.mem (CV.pure (Ty.arr (64 : Nat) (Ty.int IntKind.u32)) p4)) :: (Blk.mem (CV.pure (Ty.arr (128 : Nat) (Ty.int IntKind.u8)) p5)) :: []) => gd (shapeOK T 72 [0, 2, 3, 4, 6, 8] (0 : Nat)) (G p0 p1 p2 p3 p4 p5 k)
  | _, _, _, _, _, _, _ => none
theorem o_11_1_inv {R : Type} {G : (List Int) → (Int) → (List Int) → (List Int) → (List Int) → (List Int) → (Ex → St → Option R) → Option R} {T : St} {k : Ex → St → Option R} {r : R} (h : o_11_1 G T k = some r) : ∃ p0 p1 p2 p3 p4 p5, T = T_11_1 p0 p1 p2 p3 p4 p5 ∧ G p0 p1 p2 p3 p4 p5 k = some r := by
  unfold o_11_1 at h
  split at h
  · obtain ⟨hs, h'⟩ := gd_some h
    refine ⟨_, _, _, _, _, _, (st_of (asg := [(0, _), (2, _), (3, _), (4, _), (6, _), (8, _)]) hs ⟨by assumption, by assumption, by assumption, by assumption, by assumption, by assumption, trivial⟩ (by assumption)).trans ?_, h'⟩
    kernel_rfl
  · cases h
def O_11_33_0 {R : Type} : St → (Ex → St → Option R) → Option R := fun T k => bif m_11_33_0_0 T then o_11_33_0_0 G_11_33_0_0 T k else bif m_11_33_0_1 T then o_11_33_0_1 G_11_33_0_1 T k else none
def O_11_33_1 {R : Type} : St → (Ex → St → Option R) → Option R := fun T k => bif m_11_33_1_0 T then o_11_33_1_0 G_11_33_1_0 T k else bif m_11_33_1_1 T then o_11_33_1_1 G_11_33_1_1 T k else none
def O_11_33_2 {R : Type} : St → (Ex → St → Option R) → Option R := fun T k => bif m_11_33_2_0 T then o_11_33_2_0 G_11_33_2_0 T k else bif m_11_33_2_1 T then o_11_33_2_1 G_11_33_2_1 T k else none
def O_11_33_3 {R : Type} : St → (Ex → St → Option R) → Option R := fun T k => bif m_11_33_3_0 T then o_11_33_3_0 G_11_33_3_0 T k else bif m_11_33_3_1 T then o_11_33_3_1 G_11_33_3_1 T k else none
def O_11_11_0 {R : Type} : St → (Ex → St → Option R) → Option R := fun T k => o_11_0 G_11_0 T k
def O_11_11_2 {R : Type} : St → (Ex → St → Option R) → Option R := fun T k => o_11_2 G_11_2 T k
def O_11_11_3 {R : Type} : St → (Ex → St → Option R) → Option R := fun T k => o_11_3 G_11_3 T k
def O_11_11_1 {R : Type} : St → (Ex → St → Option R) → Option R := fun T k => o_11_1 G_11_1 T k
def g_11_33 {R : Type} : List CV → List Blk → (CV → List Blk → Option R) → Option R := evFnL sm_11 FU (ovr noO (evFn sm_11 fns FU 0)) (ir33_t O_11_33_0 O_11_33_1 O_11_33_2 O_11_33_3) ir33
theorem body_11_33_0_0 {R : Type} (K0 : St → Option R) (K1 : Ex → St → Option R) (p0 : List Int) (p1 : Int) (p2 : List Int) (p3 : List Int) (p4 : List Int) (p5 : List Int) : evLB (evCodeL sm_11 FU (ovr noO (evFn sm_11 fns FU 0)) .nil ir33_b0) (St.norm ir33_v0) (T_11_33_0_0 p0 p1 p2 p3 p4 p5) K0 K1 =
  bif decide (p1 < (16 : Int)) then gd (sl3 (IntKind.wrap IntKind.i64 ((4 : Int) * p1)) (↑(List.length p0) : Int) (↑(List.length p0) : Int)) (gd (Sp.p_47 (List.drop (Int.toNat (IntKind.wrap IntKind.i64 ((4 : Int) * p1))) p0)) (gd (inB p1 (64 : Nat)) (gd (decide (Int.toNat p1 < (64 : Nat)) && true) (K0 (T_11_33_0_0 p0 (IntKind.wrap IntKind.i64 (p1 + (1 : Int))) p2 p3 p4 (List.set p5 (Int.toNat p1) (Prod.fst (Sp.v_47 (List.drop (Int.toNat (IntKind.wrap IntKind.i64 ((4 : Int) * p1))) p0))))))))) else K1 (Ex.exit (0 : Nat)) (X_11_33_0_0_0 p2 p3 p4 p5) := by kernel_rfl
theorem Bgd_11_33_0_0 {R : Type} {c : Bool} {x : Option R} {y : Option Sp.E_11_33_0_0} {k0 : (List Int) → (List Int) → (List Int) → (List Int) → Option R} (h : x = Sp.B_11_33_0_0 y k0) : gd c x = Sp.B_11_33_0_0 (gd c y) k0 := by cases c; rfl; exact h
theorem Bcond_11_33_0_0 {R : Type} {c : Bool} {x x' : Option R} {y y' : Option Sp.E_11_33_0_0} {k0 : (List Int) → (List Int) → (List Int) → (List Int) → Option R} (h : x = Sp.B_11_33_0_0 y k0) (h' : x' = Sp.B_11_33_0_0 y' k0) : (bif c then x else x') = Sp.B_11_33_0_0 (bif c then y else y') k0 := by cases c; exact h'; exact h
theorem loop_11_33_0_0 {R : Type} (k : Ex → St → Option R) : ∀ (m : Nat) (p0 : List Int) (p1 : Int) (p2 : List Int) (p3 : List Int) (p4 : List Int) (p5 : List Int), evLoopN (evCodeL sm_11 FU (ovr noO (evFn sm_11 fns FU 0)) .nil ir33_b0) (St.norm ir33_v0) m (T_11_33_0_0 p0 p1 p2 p3 p4 p5) k = Sp.B_11_33_0_0 (Sp.L_11_33_0_0 m p0 p1 p2 p3 p4 p5) (fun p2 p3 p4 p5 => k (Ex.exit (0 : Nat)) (X_11_33_0_0_0 p2 p3 p4 p5))
  | 0, _, _, _, _, _, _ => rfl
  | m + 1, p0, p1, p2, p3, p4, p5 => by
    rw [evLoopN_succ, body_11_33_0_0, Sp.L_11_33_0_0]
    repeat' first | apply Bgd_11_33_0_0 | apply Bcond_11_33_0_0 | exact loop_11_33_0_0 k m _ _ _ _ _ _ | rfl
theorem ok_11_33_0_0 {R : Type} (T : St) (k : Ex → St → Option R) (r : R) (h0 : o_11_33_0_0 G_11_33_0_0 T k = some r) : evLoopN (evCode sm_11 FU (evFn sm_11 fns FU 0) ir33_b0) (St.norm ir33_v0) FU T k = some r := by
  obtain ⟨p0, p1, p2, p3, p4, p5, rfl, h⟩ := o_11_33_0_0_inv h0
  refine evLoopN_L (t := .nil) noO_ok trivial _ _ _ _ ?_
  rw [loop_11_33_0_0]
  exact h
theorem body_11_33_0_1 {R : Type} (K0 : St → Option R) (K1 : Ex → St → Option R) (p0 : Nat) (p1 : Nat) (p2 : Nat) (p3 : Int) (p4 : List Int) (p5 : List Int) (p6 : List Int) (p7 : List Int) (p8 : List Int) : evLB (evCodeL sm_11 FU (ovr noO (evFn sm_11 fns FU 0)) .nil ir33_b0) (St.norm ir33_v0) (T_11_33_0_1 p0 p1 p2 p3 p4 p5 p6 p7 p8) K0 K1 =
  bif decide (p3 < (16 : Int)) then gd (sl3 (IntKind.wrap IntKind.i64 ((4 : Int) * p3)) (↑p1 : Int) (↑p1 : Int)) (gd (decide (p0 + Int.toNat (IntKind.wrap IntKind.i64 ((4 : Int) * p3)) + (Int.toNat (↑p1 : Int) - Int.toNat (IntKind.wrap IntKind.i64 ((4 : Int) * p3))) ≤ (128 : Nat)) && true && Sp.p_47 (List.take (Int.toNat (↑p1 : Int) - Int.toNat (IntKind.wrap IntKind.i64 ((4 : Int) * p3))) (List.drop (p0 + Int.toNat (IntKind.wrap IntKind.i64 ((4 : Int) * p3))) p7))) (gd (inB p3 (64 : Nat)) (gd (decide (Int.toNat p3 < (64 : Nat)) && true) (K0 (T_11_33_0_1 p0 p1 p2 (IntKind.wrap IntKind.i64 (p3 + (1 : Int))) p4 p5 p6 p7 (List.set p8 (Int.toNat p3) (Prod.fst (Sp.v_47 (List.take (Int.toNat (↑p1 : Int) - Int.toNat (IntKind.wrap IntKind.i64 ((4 : Int) * p3))) (List.drop (p0 + Int.toNat (IntKind.wrap IntKind.i64 ((4 : Int) * p3))) p7)))))))))) else K1 (Ex.exit (0 : Nat)) (X_11_33_0_1_0 p4 p5 p6 p7 p8) := by kernel_rfl
theorem Bgd_11_33_0_1 {R : Type} {c : Bool} {x : Option R} {y : Option Sp.E_11_33_0_1} {k0 : (List Int) → (List Int) → (List Int) → (List Int) → (List Int) → Option R} (h : x = Sp.B_11_33_0_1 y k0) : gd c x = Sp.B_11_33_0_1 (gd c y) k0 := by cases c; rfl; exact h
theorem Bcond_11_33_0_1 {R : Type} {c : Bool} {x x' : Option R} {y y' : Option Sp.E_11_33_0_1} {k0 : (List Int) → (List Int) → (List Int) → (List Int) → (List Int) → Option R} (h : x = Sp.B_11_33_0_1 y k0) (h' : x' = Sp.B_11_33_0_1 y' k0) : (bif c then x else x') = Sp.B_11_33_0_1 (bif c then y else y') k0 := by cases c; exact h'; exact h
theorem loop_11_33_0_1 {R : Type} (k : Ex → St → Option R) : ∀ (m : Nat) (p0 : Nat) (p1 : Nat) (p2 : Nat) (p3 : Int) (p4 : List Int) (p5 : List Int) (p6 : List Int) (p7 : List Int) (p8 : List Int), evLoopN (evCodeL sm_11 FU (ovr noO (evFn sm_11 fns FU 0)) .nil ir33_b0) (St.norm ir33_v0) m (T_11_33_0_1 p0 p1 p2 p3 p4 p5 p6 p7 p8) k = Sp.B_11_33_0_1 (Sp.L_11_33_0_1 m p0 p1 p2 p3 p4 p5 p6 p7 p8) (fun p4 p5 p6 p7 p8 => k (Ex.exit (0 : Nat)) (X_11_33_0_1_0 p4 p5 p6 p7 p8))
  | 0, _, _, _, _, _, _, _, _, _ => rfl
  | m + 1, p0, p1, p2, p3, p4, p5, p6, p7, p8 => by
    rw [evLoopN_succ, body_11_33_0_1, Sp.L_11_33_0_1]
    repeat' first | apply Bgd_11_33_0_1 | apply Bcond_11_33_0_1 | exact loop_11_33_0_1 k m _ _ _ _ _ _ _ _ _ | rfl
theorem ok_11_33_0_1 {R : Type} (T : St) (k : Ex → St → Option R) (r : R) (h0 : o_11_33_0_1 G_11_33_0_1 T k = some r) : evLoopN (evCode sm_11 FU (evFn sm_11 fns FU 0) ir33_b0) (St.norm ir33_v0) FU T k = some r := by
  obtain ⟨p0, p1, p2, p3, p4, p5, p6, p7, p8, rfl, h⟩ := o_11_33_0_1_inv h0
  refine evLoopN_L (t := .nil) noO_ok trivial _ _ _ _ ?_
  rw [loop_11_33_0_1]
  exact h
theorem OK_11_33_0 {R : Type} (T : St) (k : Ex → St → Option R) (r : R) (h : O_11_33_0 T k = some r) : evLoopN (evCode sm_11 FU (evFn sm_11 fns FU 0) ir33_b0) (St.norm ir33_v0) FU T k = some r := by
  unfold O_11_33_0 at h
  cases hm : m_11_33_0_0 T
  rotate_left
  · rw [hm, cond_true] at h; exact ok_11_33_0_0 T k r h
  rw [hm, cond_false] at h
  clear hm
  cases hm : m_11_33_0_1 T
  rotate_left
  · rw [hm, cond_true] at h; exact ok_11_33_0_1 T k r h
  rw [hm, cond_false] at h
  clear hm
  cases h
theorem body_11_33_1_0 {R : Type} (K0 : St → Option R) (K1 : Ex → St → Option R) (p0 : Int) (p1 : List Int) (p2 : List Int) (p3 : List Int) (p4 : List Int) : evLB (evCodeL sm_11 FU (ovr noO (evFn sm_11 fns FU 0)) .nil ir33_b1) (St.norm ir33_v1) (T_11_33_1_0 p0 p1 p2 p3 p4) K0 K1 =
  bif decide (p0 < (64 : Int)) then gd (inB (IntKind.wrap IntKind.i64 (p0 - (15 : Int))) (64 : Nat)) (gd (decide (Int.toNat (IntKind.wrap IntKind.i64 (p0 - (15 : Int))) < (64 : Nat)) && true) (gd (inB (IntKind.wrap IntKind.i64 (p0 - (2 : Int))) (64 : Nat)) (gd (decide (Int.toNat (IntKind.wrap IntKind.i64 (p0 - (2 : Int))) < (64 : Nat)) && true) (gd (Sp.p_49 (List.getD p4 (Int.toNat (IntKind.wrap IntKind.i64 (p0 - (15 : Int)))) (0 : Int)) (7 : Int)) (gd (Sp.p_49 (List.getD p4 (Int.toNat (IntKind.wrap IntKind.i64 (p0 - (15 : Int)))) (0 : Int)) (18 : Int)) (gd (Sp.p_49 (List.getD p4 (Int.toNat (IntKind.wrap IntKind.i64 (p0 - (2 : Int)))) (0 : Int)) (17 : Int)) (gd (Sp.p_49 (List.getD p4 (Int.toNat (IntKind.wrap IntKind.i64 (p0 - (2 : Int)))) (0 : Int)) (19 : Int)) (gd (inB (IntKind.wrap IntKind.i64 (p0 - (7 : Int))) (64 : Nat)) (gd (decide (Int.toNat (IntKind.wrap IntKind.i64 (p0 - (7 : Int))) < (64 : Nat)) && true) (gd (inB (IntKind.wrap IntKind.i64 (p0 - (16 : Int))) (64 : Nat)) (gd (decide (Int.toNat (IntKind.wrap IntKind.i64 (p0 - (16 : Int))) < (64 : Nat)) && true) (gd (inB p0 (64 : Nat)) (gd (decide (Int.toNat p0 < (64 : Nat)) && true) (K0 (T_11_33_1_0 (IntKind.wrap IntKind.i64 (p0 + (1 : Int))) p1 p2 p3 (List.set p4 (Int.toNat p0) (IntKind.wrap IntKind.u32 (IntKind.wrap IntKind.u32 (IntKind.wrap IntKind.u32 (Sp.xorI IntKind.u32 (Sp.xorI IntKind.u32 (Prod.fst (Sp.v_49 (List.getD p4 (Int.toNat (IntKind.wrap IntKind.i64 (p0 - (2 : Int)))) (0 : Int)) (17 : Int))) (Prod.fst (Sp.v_49 (List.getD p4 (Int.toNat (IntKind.wrap IntKind.i64 (p0 - (2 : Int)))) (0 : Int)) (19 : Int)))) (Int.fdiv (List.getD p4 (Int.toNat (IntKind.wrap IntKind.i64 (p0 - (2 : Int)))) (0 : Int)) (1024 : Int)) + List.getD p4 (Int.toNat (IntKind.wrap IntKind.i64 (p0 - (7 : Int)))) (0 : Int)) + Sp.xorI IntKind.u32 (Sp.xorI IntKind.u32 (Prod.fst (Sp.v_49 (List.getD p4 (Int.toNat (IntKind.wrap IntKind.i64 (p0 - (15 : Int)))) (0 : Int)) (7 : Int))) (Prod.fst (Sp.v_49 (List.getD p4 (Int.toNat (IntKind.wrap IntKind.i64 (p0 - (15 : Int)))) (0 : Int)) (18 : Int)))) (Int.fdiv (List.getD p4 (Int.toNat (IntKind.wrap IntKind.i64 (p0 - (15 : Int)))) (0 : Int)) (8 : Int))) + List.getD p4 (Int.toNat (IntKind.wrap IntKind.i64 (p0 - (16 : Int)))) (0 : Int))))))))))))))))))) else K1 (Ex.exit (2 : Nat)) (X_11_33_1_0_0 p1 p2 p3 p4) := by kernel_rfl
theorem Bgd_11_33_1_0 {R : Type} {c : Bool} {x : Option R} {y : Option Sp.E_11_33_1_0} {k0 : (List Int) → (List Int) → (List Int) → (List Int) → Option R} (h : x = Sp.B_11_33_1_0 y k0) : gd c x = Sp.B_11_33_1_0 (gd c y) k0 := by cases c; rfl; exact h
theorem Bcond_11_33_1_0 {R : Type} {c : Bool} {x x' : Option R} {y y' : Option Sp.E_11_33_1_0} {k0 : (List Int) → (List Int) → (List Int) → (List Int) → Option R} (h : x = Sp.B_11_33_1_0 y k0) (h' : x' = Sp.B_11_33_1_0 y' k0) : (bif c then x else x') = Sp.B_11_33_1_0 (bif c then y else y') k0 := by cases c; exact h'; exact h
theorem loop_11_33_1_0 {R : Type} (k : Ex → St → Option R) : ∀ (m : Nat) (p0 : Int) (p1 : List Int) (p2 : List Int) (p3 : List Int) (p4 : List Int), evLoopN (evCodeL sm_11 FU (ovr noO (evFn sm_11 fns FU 0)) .nil ir33_b1) (St.norm ir33_v1) m (T_11_33_1_0 p0 p1 p2 p3 p4) k = Sp.B_11_33_1_0 (Sp.L_11_33_1_0 m p0 p1 p2 p3 p4) (fun p1 p2 p3 p4 => k (Ex.exit (2 : Nat)) (X_11_33_1_0_0 p1 p2 p3 p4))
  | 0, _, _, _, _, _ => rfl
  | m + 1, p0, p1, p2, p3, p4 => by
    rw [evLoopN_succ, body_11_33_1_0, Sp.L_11_33_1_0]
    repeat' first | apply Bgd_11_33_1_0 | apply Bcond_11_33_1_0 | exact loop_11_33_1_0 k m _ _ _ _ _ | rfl
theorem ok_11_33_1_0 {R : Type} (T : St) (k : Ex → St → Option R) (r : R) (h0 : o_11_33_1_0 G_11_33_1_0 T k = some r) : evLoopN (evCode sm_11 FU (evFn sm_11 fns FU 0) ir33_b1) (St.norm ir33_v1) FU T k = some r := by
  obtain ⟨p0, p1, p2, p3, p4, rfl, h⟩ := o_11_33_1_0_inv h0
  refine evLoopN_L (t := .nil) noO_ok trivial _ _ _ _ ?_
  rw [loop_11_33_1_0]
  exact h
theorem body_11_33_1_1 {R : Type} (K0 : St → Option R) (K1 : Ex → St → Option R) (p0 : Int) (p1 : List Int) (p2 : List Int) (p3 : List Int) (p4 : List Int) (p5 : List Int) : evLB (evCodeL sm_11 FU (ovr noO (evFn sm_11 fns FU 0)) .nil ir33_b1) (St.norm ir33_v1) (T_11_33_1_1 p0 p1 p2 p3 p4 p5) K0 K1 =
  bif decide (p0 < (64 : Int)) then gd (inB (IntKind.wrap IntKind.i64 (p0 - (15 : Int))) (64 : Nat)) (gd (decide (Int.toNat (IntKind.wrap IntKind.i64 (p0 - (15 : Int))) < (64 : Nat)) && true) (gd (inB (IntKind.wrap IntKind.i64 (p0 - (2 : Int))) (64 : Nat)) (gd (decide (Int.toNat (IntKind.wrap IntKind.i64 (p0 - (2 : Int))) < (64 : Nat)) && true) (gd (Sp.p_49 (List.getD p5 (Int.toNat (IntKind.wrap IntKind.i64 (p0 - (15 : Int)))) (0 : Int)) (7 : Int)) (gd (Sp.p_49 (List.getD p5 (Int.toNat (IntKind.wrap IntKind.i64 (p0 - (15 : Int)))) (0 : Int)) (18 : Int)) (gd (Sp.p_49 (List.getD p5 (Int.toNat (IntKind.wrap IntKind.i64 (p0 - (2 : Int)))) (0 : Int)) (17 : Int)) (gd (Sp.p_49 (List.getD p5 (Int.toNat (IntKind.wrap IntKind.i64 (p0 - (2 : Int)))) (0 : Int)) (19 : Int)) (gd (inB (IntKind.wrap IntKind.i64 (p0 - (7 : Int))) (64 : Nat)) (gd (decide (Int.toNat (IntKind.wrap IntKind.i64 (p0 - (7 : Int))) < (64 : Nat)) && true) (gd (inB (IntKind.wrap IntKind.i64 (p0 - (16 : Int))) (64 : Nat)) (gd (decide (Int.toNat (IntKind.wrap IntKind.i64 (p0 - (16 : Int))) < (64 : Nat)) && true) (gd (inB p0 (64 : Nat)) (gd (decide (Int.toNat p0 < (64 : Nat)) && true) (K0 (T_11_33_1_1 (IntKind.wrap IntKind.i64 (p0 + (1 : Int))) p1 p2 p3 p4 (List.set p5 (Int.toNat p0) (IntKind.wrap IntKind.u32 (IntKind.wrap IntKind.u32 (IntKind.wrap IntKind.u32 (Sp.xorI IntKind.u32 (Sp.xorI IntKind.u32 (Prod.fst (Sp.v_49 (List.getD p5 (Int.toNat (IntKind.wrap IntKind.i64 (p0 - (2 : Int)))) (0 : Int)) (17 : Int))) (Prod.fst (Sp.v_49 (List.getD p5 (Int.toNat (IntKind.wrap IntKind.i64 (p0 - (2 : Int)))) (0 : Int)) (19 : Int)))) (Int.fdiv (List.getD p5 (Int.toNat (IntKind.wrap IntKind.i64 (p0 - (2 : Int)))) (0 : Int)) (1024 : Int)) + List.getD p5 (Int.toNat (IntKind.wrap IntKind.i64 (p0 - (7 : Int)))) (0 : Int)) + Sp.xorI IntKind.u32 (Sp.xorI IntKind.u32 (Prod.fst (Sp.v_49 (List.getD p5 (Int.toNat (IntKind.wrap IntKind.i64 (p0 - (15 : Int)))) (0 : Int)) (7 : Int))) (Prod.fst (Sp.v_49 (List.getD p5 (Int.toNat (IntKind.wrap IntKind.i64 (p0 - (15 : Int)))) (0 : Int)) (18 : Int)))) (Int.fdiv (List.getD p5 (Int.toNat (IntKind.wrap IntKind.i64 (p0 - (15 : Int)))) (0 : Int)) (8 : Int))) + List.getD p5 (Int.toNat (IntKind.wrap IntKind.i64 (p0 - (16 : Int)))) (0 : Int))))))))))))))))))) else K1 (Ex.exit (2 : Nat)) (X_11_33_1_1_0 p1 p2 p3 p4 p5) := by kernel_rfl
theorem Bgd_11_33_1_1 {R : Type} {c : Bool} {x : Option R} {y : Option Sp.E_11_33_1_1} {k0 : (List Int) → (List Int) → (List Int) → (List Int) → (List Int) → Option R} (h : x = Sp.B_11_33_1_1 y k0) : gd c x = Sp.B_11_33_1_1 (gd c y) k0 := by cases c; rfl; exact h
theorem Bcond_11_33_1_1 {R : Type} {c : Bool} {x x' : Option R} {y y' : Option Sp.E_11_33_1_1} {k0 : (List Int) → (List Int) → (List Int) → (List Int) → (List Int) → Option R} (h : x = Sp.B_11_33_1_1 y k0) (h' : x' = Sp.B_11_33_1_1 y' k0) : (bif c then x else x') = Sp.B_11_33_1_1 (bif c then y else y') k0 := by cases c; exact h'; exact h
theorem loop_11_33_1_1 {R : Type} (k : Ex → St → Option R) : ∀ (m : Nat) (p0 : Int) (p1 : List Int) (p2 : List Int) (p3 : List Int) (p4 : List Int) (p5 : List Int), evLoopN (evCodeL sm_11 FU (ovr noO (evFn sm_11 fns FU 0)) .nil ir33_b1) (St.norm ir33_v1) m (T_11_33_1_1 p0 p1 p2 p3 p4 p5) k = Sp.B_11_33_1_1 (Sp.L_11_33_1_1 m p0 p1 p2 p3 p4 p5) (fun p1 p2 p3 p4 p5 => k (Ex.exit (2 : Nat)) (X_11_33_1_1_0 p1 p2 p3 p4 p5))
  | 0, _, _, _, _, _, _ => rfl
  | m + 1, p0, p1, p2, p3, p4, p5 => by
    rw [evLoopN_succ, body_11_33_1_1, Sp.L_11_33_1_1]
    repeat' first | apply Bgd_11_33_1_1 | apply Bcond_11_33_1_1 | exact loop_11_33_1_1 k m _ _ _ _ _ _ | rfl
theorem ok_11_33_1_1 {R : Type} (T : St) (k : Ex → St → Option R) (r : R) (h0 : o_11_33_1_1 G_11_33_1_1 T k = some r) : evLoopN (evCode sm_11 FU (evFn sm_11 fns FU 0) ir33_b1) (St.norm ir33_v1) FU T k = some r := by
  obtain ⟨p0, p1, p2, p3, p4, p5, rfl, h⟩ := o_11_33_1_1_inv h0
  refine evLoopN_L (t := .nil) noO_ok trivial _ _ _ _ ?_
  rw [loop_11_33_1_1]
  exact h
theorem OK_11_33_1 {R : Type} (T : St) (k : Ex → St → Option R) (r : R) (h : O_11_33_1 T k = some r) : evLoopN (evCode sm_11 FU (evFn sm_11 fns FU 0) ir33_b1) (St.norm ir33_v1) FU T k = some r := by
  unfold O_11_33_1 at h
  cases hm : m_11_33_1_0 T
  rotate_left
  · rw [hm, cond_true] at h; exact ok_11_33_1_0 T k r h
  rw [hm, cond_false] at h
  clear hm
  cases hm : m_11_33_1_1 T
  rotate_left
  · rw [hm, cond_true] at h; exact ok_11_33_1_1 T k r h
  rw [hm, cond_false] at h
  clear hm
  cases h
theorem body_11_33_2_0 {R : Type} (K0 : St → Option R) (K1 : Ex → St → Option R) (p0 : Int) (p1 : List Int) (p2 : List Int) (p3 : List Int) (p4 : List Int) (p5 : List Int) : evLB (evCodeL sm_11 FU (ovr noO (evFn sm_11 fns FU 0)) .nil ir33_b2) (St.norm ir33_v2) (T_11_33_2_0 p0 p1 p2 p3 p4 p5) K0 K1 =
  bif decide (p0 < (64 : Int)) then gd (Sp.p_49 (List.getD p5 (4 : Nat) (0 : Int)) (6 : Int)) (gd (Sp.p_49 (List.getD p5 (4 : Nat) (0 : Int)) (11 : Int)) (gd (Sp.p_49 (List.getD p5 (4 : Nat) (0 : Int)) (25 : Int)) (gd (inB p0 (64 : Nat)) (gd (decide (Int.toNat p0 < (64 : Nat)) && true) (gd (inB p0 (64 : Nat)) (gd (decide (Int.toNat p0 < (64 : Nat)) && true) (gd (Sp.p_49 (List.getD p5 (0 : Nat) (0 : Int)) (2 : Int)) (gd (Sp.p_49 (List.getD p5 (0 : Nat) (0 : Int)) (13 : Int)) (gd (Sp.p_49 (List.getD p5 (0 : Nat) (0 : Int)) (22 : Int)) (K0 (T_11_33_2_0 (IntKind.wrap IntKind.i64 (p0 + (1 : Int))) p1 p2 p3 p4 [IntKind.wrap IntKind.u32 (IntKind.wrap IntKind.u32 (IntKind.wrap IntKind.u32 (IntKind.wrap IntKind.u32 (IntKind.wrap IntKind.u32 (List.getD p5 (7 : Nat) (0 : Int) + Sp.xorI IntKind.u32 (Sp.xorI IntKind.u32 (Prod.fst (Sp.v_49 (List.getD p5 (4 : Nat) (0 : Int)) (6 : Int))) (Prod.fst (Sp.v_49 (List.getD p5 (4 : Nat) (0 : Int)) (11 : Int)))) (Prod.fst (Sp.v_49 (List.getD p5 (4 : Nat) (0 : Int)) (25 : Int)))) + Sp.xorI IntKind.u32 (Sp.andI IntKind.u32 (List.getD p5 (4 : Nat) (0 : Int)) (List.getD p5 (5 : Nat) (0 : Int))) (Sp.andI IntKind.u32 (Sp.xorI IntKind.u32 (4294967295 : Int) (List.getD p5 (4 : Nat) (0 : Int))) (List.getD p5 (6 : Nat) (0 : Int)))) + List.getD p3 (Int.toNat p0) (0 : Int)) + List.getD p4 (Int.toNat p0) (0 : Int)) + IntKind.wrap IntKind.u32 (Sp.xorI IntKind.u32 (Sp.xorI IntKind.u32 (Prod.fst (Sp.v_49 (List.getD p5 (0 : Nat) (0 : Int)) (2 : Int))) (Prod.fst (Sp.v_49 (List.getD p5 (0 : Nat) (0 : Int)) (13 : Int)))) (Prod.fst (Sp.v_49 (List.getD p5 (0 : Nat) (0 : Int)) (22 : Int))) + Sp.xorI IntKind.u32 (Sp.xorI IntKind.u32 (Sp.andI IntKind.u32 (List.getD p5 (0 : Nat) (0 : Int)) (List.getD p5 (1 : Nat) (0 : Int))) (Sp.andI IntKind.u32 (List.getD p5 (0 : Nat) (0 : Int)) (List.getD p5 (2 : Nat) (0 : Int)))) (Sp.andI IntKind.u32 (List.getD p5 (1 : Nat) (0 : Int)) (List.getD p5 (2 : Nat) (0 : Int))))), List.getD p5 (0 : Nat) (0 : Int), List.getD p5 (1 : Nat) (0 : Int), List.getD p5 (2 : Nat) (0 : Int), IntKind.wrap IntKind.u32 (List.getD p5 (3 : Nat) (0 : Int) + IntKind.wrap IntKind.u32 (IntKind.wrap IntKind.u32 (IntKind.wrap IntKind.u32 (IntKind.wrap IntKind.u32 (List.getD p5 (7 : Nat) (0 : Int) + Sp.xorI IntKind.u32 (Sp.xorI IntKind.u32 (Prod.fst (Sp.v_49 (List.getD p5 (4 : Nat) (0 : Int)) (6 : Int))) (Prod.fst (Sp.v_49 (List.getD p5 (4 : Nat) (0 : Int)) (11 : Int)))) (Prod.fst (Sp.v_49 (List.getD p5 (4 : Nat) (0 : Int)) (25 : Int)))) + Sp.xorI IntKind.u32 (Sp.andI IntKind.u32 (List.getD p5 (4 : Nat) (0 : Int)) (List.getD p5 (5 : Nat) (0 : Int))) (Sp.andI IntKind.u32 (Sp.xorI IntKind.u32 (4294967295 : Int) (List.getD p5 (4 : Nat) (0 : Int))) (List.getD p5 (6 : Nat) (0 : Int)))) + List.getD p3 (Int.toNat p0) (0 : Int)) + List.getD p4 (Int.toNat p0) (0 : Int))), List.getD p5 (4 : Nat) (0 : Int), List.getD p5 (5 : Nat) (0 : Int), List.getD p5 (6 : Nat) (0 : Int)]))))))))))) else K1 (Ex.exit (4 : Nat)) (X_11_33_2_0_0 p1 p2 p3 p5) := by kernel_rfl
theorem Bgd_11_33_2_0 {R : Type} {c : Bool} {x : Option R} {y : Option Sp.E_11_33_2_0} {k0 : (List Int) → (List Int) → (List Int) → (List Int) → Option R} (h : x = Sp.B_11_33_2_0 y k0) : gd c x = Sp.B_11_33_2_0 (gd c y) k0 := by cases c; rfl; exact h
theorem Bcond_11_33_2_0 {R : Type} {c : Bool} {x x' : Option R} {y y' : Option Sp.E_11_33_2_0} {k0 : (List Int) → (List Int) → (List Int) → (List Int) → Option R} (h : x = Sp.B_11_33_2_0 y k0) (h' : x' = Sp.B_11_33_2_0 y' k0) : (bif c then x else x') = Sp.B_11_33_2_0 (bif c then y else y') k0 := by cases c; exact h'; exact h
theorem loop_11_33_2_0 {R : Type} (k : Ex → St → Option R) : ∀ (m : Nat) (p0 : Int) (p1 : List Int) (p2 : List Int) (p3 : List Int) (p4 : List Int) (p5 : List Int), evLoopN (evCodeL sm_11 FU (ovr noO (evFn sm_11 fns FU 0)) .nil ir33_b2) (St.norm ir33_v2) m (T_11_33_2_0 p0 p1 p2 p3 p4 p5) k = Sp.B_11_33_2_0 (Sp.L_11_33_2_0 m p0 p1 p2 p3 p4 p5) (fun p1 p2 p3 p5 => k (Ex.exit (4 : Nat)) (X_11_33_2_0_0 p1 p2 p3 p5))
  | 0, _, _, _, _, _, _ => rfl
  | m + 1, p0, p1, p2, p3, p4, p5 => by
    rw [evLoopN_succ, body_11_33_2_0, Sp.L_11_33_2_0]
    repeat' first | apply Bgd_11_33_2_0 | apply Bcond_11_33_2_0 | exact loop_11_33_2_0 k m _ _ _ _ _ _ | rfl
theorem ok_11_33_2_0 {R : Type} (T : St) (k : Ex → St → Option R) (r : R) (h0 : o_11_33_2_0 G_11_33_2_0 T k = some r) : evLoopN (evCode sm_11 FU (evFn sm_11 fns FU 0) ir33_b2) (St.norm ir33_v2) FU T k = some r := by
  obtain ⟨p0, p1, p2, p3, p4, p5, rfl, h⟩ := o_11_33_2_0_inv h0
  refine evLoopN_L (t := .nil) noO_ok trivial _ _ _ _ ?_
  rw [loop_11_33_2_0]
  exact h
theorem body_11_33_2_1 {R : Type} (K0 : St → Option R) (K1 : Ex → St → Option R) (p0 : Int) (p1 : List Int) (p2 : List Int) (p3 : List Int) (p4 : List Int) (p5 : List Int) (p6 : List Int) : evLB (evCodeL sm_11 FU (ovr noO (evFn sm_11 fns FU 0)) .nil ir33_b2) (St.norm ir33_v2) (T_11_33_2_1 p0 p1 p2 p3 p4 p5 p6) K0 K1 =
  bif decide (p0 < (64 : Int)) then gd (Sp.p_49 (List.getD p6 (4 : Nat) (0 : Int)) (6 : Int)) (gd (Sp.p_49 (List.getD p6 (4 : Nat) (0 : Int)) (11 : Int)) (gd (Sp.p_49 (List.getD p6 (4 : Nat) (0 : Int)) (25 : Int)) (gd (inB p0 (64 : Nat)) (gd (decide (Int.toNat p0 < (64 : Nat)) && true) (gd (inB p0 (64 : Nat)) (gd (decide (Int.toNat p0 < (64 : Nat)) && true) (gd (Sp.p_49 (List.getD p6 (0 : Nat) (0 : Int)) (2 : Int)) (gd (Sp.p_49 (List.getD p6 (0 : Nat) (0 : Int)) (13 : Int)) (gd (Sp.p_49 (List.getD p6 (0 : Nat) (0 : Int)) (22 : Int)) (K0 (T_11_33_2_1 (IntKind.wrap IntKind.i64 (p0 + (1 : Int))) p1 p2 p3 p4 p5 [IntKind.wrap IntKind.u32 (IntKind.wrap IntKind.u32 (IntKind.wrap IntKind.u32 (IntKind.wrap IntKind.u32 (IntKind.wrap IntKind.u32 (List.getD p6 (7 : Nat) (0 : Int) + Sp.xorI IntKind.u32 (Sp.xorI IntKind.u32 (Prod.fst (Sp.v_49 (List.getD p6 (4 : Nat) (0 : Int)) (6 : Int))) (Prod.fst (Sp.v_49 (List.getD p6 (4 : Nat) (0 : Int)) (11 : Int)))) (Prod.fst (Sp.v_49 (List.getD p6 (4 : Nat) (0 : Int)) (25 : Int)))) + Sp.xorI IntKind.u32 (Sp.andI IntKind.u32 (List.getD p6 (4 : Nat) (0 : Int)) (List.getD p6 (5 : Nat) (0 : Int))) (Sp.andI IntKind.u32 (Sp.xorI IntKind.u32 (4294967295 : Int) (List.getD p6 (4 : Nat) (0 : Int))) (List.getD p6 (6 : Nat) (0 : Int)))) + List.getD p3 (Int.toNat p0) (0 : Int)) + List.getD p5 (Int.toNat p0) (0 : Int)) + IntKind.wrap IntKind.u32 (Sp.xorI IntKind.u32 (Sp.xorI IntKind.u32 (Prod.fst (Sp.v_49 (List.getD p6 (0 : Nat) (0 : Int)) (2 : Int))) (Prod.fst (Sp.v_49 (List.getD p6 (0 : Nat) (0 : Int)) (13 : Int)))) (Prod.fst (Sp.v_49 (List.getD p6 (0 : Nat) (0 : Int)) (22 : Int))) + Sp.xorI IntKind.u32 (Sp.xorI IntKind.u32 (Sp.andI IntKind.u32 (List.getD p6 (0 : Nat) (0 : Int)) (List.getD p6 (1 : Nat) (0 : Int))) (Sp.andI IntKind.u32 (List.getD p6 (0 : Nat) (0 : Int)) (List.getD p6 (2 : Nat) (0 : Int)))) (Sp.andI IntKind.u32 (List.getD p6 (1 : Nat) (0 : Int)) (List.getD p6 (2 : Nat) (0 : Int))))), List.getD p6 (0 : Nat) (0 : Int), List.getD p6 (1 : Nat) (0 : Int), List.getD p6 (2 : Nat) (0 : Int), IntKind.wrap IntKind.u32 (List.getD p6 (3 : Nat) (0 : Int) + IntKind.wrap IntKind.u32 (IntKind.wrap IntKind.u32 (IntKind.wrap IntKind.u32 (IntKind.wrap IntKind.u32 (List.getD p6 (7 : Nat) (0 : Int) + Sp.xorI IntKind.u32 (Sp.xorI IntKind.u32 (Prod.fst (Sp.v_49 (List.getD p6 (4 : Nat) (0 : Int)) (6 : Int))) (Prod.fst (Sp.v_49 (List.getD p6 (4 : Nat) (0 : Int)) (11 : Int)))) (Prod.fst (Sp.v_49 (List.getD p6 (4 : Nat) (0 : Int)) (25 : Int)))) + Sp.xorI IntKind.u32 (Sp.andI IntKind.u32 (List.getD p6 (4 : Nat) (0 : Int)) (List.getD p6 (5 : Nat) (0 : Int))) (Sp.andI IntKind.u32 (Sp.xorI IntKind.u32 (4294967295 : Int) (List.getD p6 (4 : Nat) (0 : Int))) (List.getD p6 (6 : Nat) (0 : Int)))) + List.getD p3 (Int.toNat p0) (0 : Int)) + List.getD p5 (Int.toNat p0) (0 : Int))), List.getD p6 (4 : Nat) (0 : Int), List.getD p6 (5 : Nat) (0 : Int), List.getD p6 (6 : Nat) (0 : Int)]))))))))))) else K1 (Ex.exit (4 : Nat)) (X_11_33_2_1_0 p1 p2 p3 p4 p6) := by kernel_rfl
theorem Bgd_11_33_2_1 {R : Type} {c : Bool} {x : Option R} {y : Option Sp.E_11_33_2_1} {k0 : (List Int) → (List Int) → (List Int) → (List Int) → (List Int) → Option R} (h : x = Sp.B_11_33_2_1 y k0) : gd c x = Sp.B_11_33_2_1 (gd c y) k0 := by cases c; rfl; exact h
theorem Bcond_11_33_2_1 {R : Type} {c : Bool} {x x' : Option R} {y y' : Option Sp.E_11_33_2_1} {k0 : (List Int) → (List Int) → (List Int) → (List Int) → (List Int) → Option R} (h : x = Sp.B_11_33_2_1 y k0) (h' : x' = Sp.B_11_33_2_1 y' k0) : (bif c then x else x') = Sp.B_11_33_2_1 (bif c then y else y') k0 := by cases c; exact h'; exact h
theorem loop_11_33_2_1 {R : Type} (k : Ex → St → Option R) : ∀ (m : Nat) (p0 : Int) (p1 : List Int) (p2 : List Int) (p3 : List Int) (p4 : List Int) (p5 : List Int) (p6 : List Int), evLoopN (evCodeL sm_11 FU (ovr noO (evFn sm_11 fns FU 0)) .nil ir33_b2) (St.norm ir33_v2) m (T_11_33_2_1 p0 p1 p2 p3 p4 p5 p6) k = Sp.B_11_33_2_1 (Sp.L_11_33_2_1 m p0 p1 p2 p3 p4 p5 p6) (fun p1 p2 p3 p4 p6 => k (Ex.exit (4 : Nat)) (X_11_33_2_1_0 p1 p2 p3 p4 p6))
  | 0, _, _, _, _, _, _, _ => rfl
  | m + 1, p0, p1, p2, p3, p4, p5, p6 => by
    rw [evLoopN_succ, body_11_33_2_1, Sp.L_11_33_2_1]
    repeat' first | apply Bgd_11_33_2_1 | apply Bcond_11_33_2_1 | exact loop_11_33_2_1 k m _ _ _ _ _ _ _ | rfl
theorem ok_11_33_2_1 {R : Type} (T : St) (k : Ex → St → Option R) (r : R) (h0 : o_11_33_2_1 G_11_33_2_1 T k = some r) : evLoopN (evCode sm_11 FU (evFn sm_11 fns FU 0) ir33_b2) (St.norm ir33_v2) FU T k = some r := by
  obtain ⟨p0, p1, p2, p3, p4, p5, p6, rfl, h⟩ := o_11_33_2_1_inv h0
  refine evLoopN_L (t := .nil) noO_ok trivial _ _ _ _ ?_
  rw [loop_11_33_2_1]
  exact h
theorem OK_11_33_2 {R : Type} (T : St) (k : Ex → St → Option R) (r : R) (h : O_11_33_2 T k = some r) : evLoopN (evCode sm_11 FU (evFn sm_11 fns FU 0) ir33_b2) (St.norm ir33_v2) FU T k = some r := by
  unfold O_11_33_2 at h
  cases hm : m_11_33_2_0 T
  rotate_left
  · rw [hm, cond_true] at h; exact ok_11_33_2_0 T k r h
  rw [hm, cond_false] at h
  clear hm
  cases hm : m_11_33_2_1 T
  rotate_left
  · rw [hm, cond_true] at h; exact ok_11_33_2_1 T k r h
  rw [hm, cond_false] at h
  clear hm
  cases h
theorem body_11_33_3_0 {R : Type} (K0 : St → Option R) (K1 : Ex → St → Option R) (p0 : Int) (p1 : List Int) (p2 : List Int) (p3 : List Int) (p4 : List Int) : evLB (evCodeL sm_11 FU (ovr noO (evFn sm_11 fns FU 0)) .nil ir33_b3) (St.norm ir33_v3) (T_11_33_3_0 p0 p1 p2 p3 p4) K0 K1 =
  bif decide (p0 < (8 : Int)) then gd (inB p0 (8 : Nat)) (gd (decide (Int.toNat p0 < (8 : Nat)) && true) (gd (inB p0 (8 : Nat)) (gd (decide (Int.toNat p0 < (8 : Nat)) && true) (gd (inB p0 (8 : Nat)) (gd (decide (Int.toNat p0 < (8 : Nat)) && true) (K0 (T_11_33_3_0 (IntKind.wrap IntKind.i64 (p0 + (1 : Int))) p1 (List.set p2 (Int.toNat p0) (IntKind.wrap IntKind.u32 (List.getD p2 (Int.toNat p0) (0 : Int) + List.getD p4 (Int.toNat p0) (0 : Int)))) p3 p4))))))) else K1 (Ex.exit (6 : Nat)) (X_11_33_3_0_0 p1 p2 p3) := by kernel_rfl
theorem Bgd_11_33_3_0 {R : Type} {c : Bool} {x : Option R} {y : Option Sp.E_11_33_3_0} {k0 : (List Int) → (List Int) → (List Int) → Option R} (h : x = Sp.B_11_33_3_0 y k0) : gd c x = Sp.B_11_33_3_0 (gd c y) k0 := by cases c; rfl; exact h
theorem Bcond_11_33_3_0 {R : Type} {c : Bool} {x x' : Option R} {y y' : Option Sp.E_11_33_3_0} {k0 : (List Int) → (List Int) → (List Int) → Option R} (h : x = Sp.B_11_33_3_0 y k0) (h' : x' = Sp.B_11_33_3_0 y' k0) : (bif c then x else x') = Sp.B_11_33_3_0 (bif c then y else y') k0 := by cases c; exact h'; exact h
theorem loop_11_33_3_0 {R : Type} (k : Ex → St → Option R) : ∀ (m : Nat) (p0 : Int) (p1 : List Int) (p2 : List Int) (p3 : List Int) (p4 : List Int), evLoopN (evCodeL sm_11 FU (ovr noO (evFn sm_11 fns FU 0)) .nil ir33_b3) (St.norm ir33_v3) m (T_11_33_3_0 p0 p1 p2 p3 p4) k = Sp.B_11_33_3_0 (Sp.L_11_33_3_0 m p0 p1 p2 p3 p4) (fun p1 p2 p3 => k (Ex.exit (6 : Nat)) (X_11_33_3_0_0 p1 p2 p3))
  | 0, _, _, _, _, _ => rfl
  | m + 1, p0, p1, p2, p3, p4 => by
    rw [evLoopN_succ, body_11_33_3_0, Sp.L_11_33_3_0]
    repeat' first | apply Bgd_11_33_3_0 | apply Bcond_11_33_3_0 | exact loop_11_33_3_0 k m _ _ _ _ _ | rfl
theorem ok_11_33_3_0 {R : Type} (T : St) (k : Ex → St → Option R) (r : R) (h0 : o_11_33_3_0 G_11_33_3_0 T k = some r) : evLoopN (evCode sm_11 FU (evFn sm_11 fns FU 0) ir33_b3) (St.norm ir33_v3) FU T k = some r := by
  obtain ⟨p0, p1, p2, p3, p4, rfl, h⟩ := o_11_33_3_0_inv h0
  refine evLoopN_L (t := .nil) noO_ok trivial _ _ _ _ ?_
  rw [loop_11_33_3_0]
  exact h
theorem body_11_33_3_1 {R : Type} (K0 : St → Option R) (K1 : Ex → St → Option R) (p0 : Int) (p1 : List Int) (p2 : List Int) (p3 : List Int) (p4 : List Int) (p5 : List Int) : evLB (evCodeL sm_11 FU (ovr noO (evFn sm_11 fns FU 0)) .nil ir33_b3) (St.norm ir33_v3) (T_11_33_3_1 p0 p1 p2 p3 p4 p5) K0 K1 =
  bif decide (p0 < (8 : Int)) then gd (inB p0 (8 : Nat)) (gd (decide (Int.toNat p0 < (8 : Nat)) && true) (gd (inB p0 (8 : Nat)) (gd (decide (Int.toNat p0 < (8 : Nat)) && true) (gd (inB p0 (8 : Nat)) (gd (decide (Int.toNat p0 < (8 : Nat)) && true) (K0 (T_11_33_3_1 (IntKind.wrap IntKind.i64 (p0 + (1 : Int))) p1 (List.set p2 (Int.toNat p0) (IntKind.wrap IntKind.u32 (List.getD p2 (Int.toNat p0) (0 : Int) + List.getD p5 (Int.toNat p0) (0 : Int)))) p3 p4 p5))))))) else K1 (Ex.exit (6 : Nat)) (X_11_33_3_1_0 p1 p2 p3 p4) := by kernel_rfl
theorem Bgd_11_33_3_1 {R : Type} {c : Bool} {x : Option R} {y : Option Sp.E_11_33_3_1} {k0 : (List Int) → (List Int) → (List Int) → (List Int) → Option R} (h : x = Sp.B_11_33_3_1 y k0) : gd c x = Sp.B_11_33_3_1 (gd c y) k0 := by cases c; rfl; exact h
theorem Bcond_11_33_3_1 {R : Type} {c : Bool} {x x' : Option R} {y y' : Option Sp.E_11_33_3_1} {k0 : (List Int) → (List Int) → (List Int) → (List Int) → Option R} (h : x = Sp.B_11_33_3_1 y k0) (h' : x' = Sp.B_11_33_3_1 y' k0) : (bif c then x else x') = Sp.B_11_33_3_1 (bif c then y else y') k0 := by cases c; exact h'; exact h
theorem loop_11_33_3_1 {R : Type} (k : Ex → St → Option R) : ∀ (m : Nat) (p0 : Int) (p1 : List Int) (p2 : List Int) (p3 : List Int) (p4 : List Int) (p5 : List Int), evLoopN (evCodeL sm_11 FU (ovr noO (evFn sm_11 fns FU 0)) .nil ir33_b3) (St.norm ir33_v3) m (T_11_33_3_1 p0 p1 p2 p3 p4 p5) k = Sp.B_11_33_3_1 (Sp.L_11_33_3_1 m p0 p1 p2 p3 p4 p5) (fun p1 p2 p3 p4 => k (Ex.exit (6 : Nat)) (X_11_33_3_1_0 p1 p2 p3 p4))
  | 0, _, _, _, _, _, _ => rfl
  | m + 1, p0, p1, p2, p3, p4, p5 => by
    rw [evLoopN_succ, body_11_33_3_1, Sp.L_11_33_3_1]
    repeat' first | apply Bgd_11_33_3_1 | apply Bcond_11_33_3_1 | exact loop_11_33_3_1 k m _ _ _ _ _ _ | rfl
theorem ok_11_33_3_1 {R : Type} (T : St) (k : Ex → St → Option R) (r : R) (h0 : o_11_33_3_1 G_11_33_3_1 T k = some r) : evLoopN (evCode sm_11 FU (evFn sm_11 fns FU 0) ir33_b3) (St.norm ir33_v3) FU T k = some r := by
  obtain ⟨p0, p1, p2, p3, p4, p5, rfl, h⟩ := o_11_33_3_1_inv h0
  refine evLoopN_L (t := .nil) noO_ok trivial _ _ _ _ ?_
  rw [loop_11_33_3_1]
  exact h
theorem OK_11_33_3 {R : Type} (T : St) (k : Ex → St → Option R) (r : R) (h : O_11_33_3 T k = some r) : evLoopN (evCode sm_11 FU (evFn sm_11 fns FU 0) ir33_b3) (St.norm ir33_v3) FU T k = some r := by
  unfold O_11_33_3 at h
  cases hm : m_11_33_3_0 T
  rotate_left
  · rw [hm, cond_true] at h; exact ok_11_33_3_0 T k r h
  rw [hm, cond_false] at h
  clear hm
  cases hm : m_11_33_3_1 T
  rotate_left
  · rw [hm, cond_true] at h; exact ok_11_33_3_1 T k r h
  rw [hm, cond_false] at h
  clear hm
  cases h
theorem g_11_33_ok {R : Type} (args : List CV) (hp : List Blk) (k : CV → List Blk → Option R) (r : R) (h : g_11_33 args hp k = some r) : evFn sm_11 fns FU 1 33 args hp k = some r :=
  evFnL_sound (fn := ir33) (t := (ir33_t O_11_33_0 O_11_33_1 O_11_33_2 O_11_33_3)) (o := noO) rfl noO_ok (ir33_tok (fun T k r => OK_11_33_0 T k r) (fun T k r => OK_11_33_1 T k r) (fun T k r => OK_11_33_2 T k r) (fun T k r => OK_11_33_3 T k r)) h
theorem ov_11_11_ok {R : Type} : OvrOK (R := R) (fun f' => bif Nat.beq f' 33 then some (g_11_33) else none) (evFn sm_11 fns FU 1) := by
  intro f' g h args hp k r hg
  dsimp only at h
  by_cases h33 : f' = 33
  · subst h33
    injection h with h
    subst h
    exact evFn_le 0 (g_11_33_ok _ _ _ _ hg)
  rw [nbeq_ne h33, cond_false] at h
  cases h
theorem body_11_0 {R : Type} (K0 : St → Option R) (K1 : Ex → St → Option R) (p0 : List Int) (p1 : List Int) (p2 : List Int) (p3 : List Int) (p4 : List Int) : evLB (evCodeL sm_11 FU (ovr (fun f' => bif Nat.beq f' 33 then some (g_11_33) else none) (evFn sm_11 fns FU 1)) .nil ir11_b0) (St.norm ir11_v0) (T_11_0 p0 p1 p2 p3 p4) K0 K1 =
  bif decide ((↑(List.length p1) : Int) ≥ (64 : Int)) then gd (sl3 (0 : Int) (64 : Int) (↑(List.length p1) : Int)) (Sp.B_11_33_0_0 (Sp.L_11_33_0_0 (4611686018427387904 : Nat) (List.take (64 : Nat) (List.drop (0 : Nat) p1)) (0 : Int) p2 p3 p4 (List.replicate (64 : Nat) (0 : Int))) fun (y19 y20 y21 y22 : List Int) => Sp.B_11_33_1_0 (Sp.L_11_33_1_0 (4611686018427387904 : Nat) (16 : Int) y19 y20 y21 y22) fun (y23 y24 y25 y26 : List Int) => Sp.B_11_33_2_0 (Sp.L_11_33_2_0 (4611686018427387904 : Nat) (0 : Int) y23 y24 y25 y26 y24) fun (y27 y28 y29 y30 : List Int) => Sp.B_11_33_3_0 (Sp.L_11_33_3_0 (4611686018427387904 : Nat) (0 : Int) y27 y28 y29 y30) fun (y31 y32 y33 : List Int) => gd (sl3 (64 : Int) (↑(List.length p1) : Int) (↑(List.length p1) : Int)) (K0 (T_11_0 p0 (List.drop (64 : Nat) p1) y31 y32 y33))) else K1 (Ex.exit (0 : Nat)) (X_11_0_0 p0 p1 p2 p3 p4) := by kernel_rfl
theorem Bgd_11_0 {R : Type} {c : Bool} {x : Option R} {y : Option Sp.E_11_0} {k0 : (List Int) → (List Int) → (List Int) → (List Int) → (List Int) → Option R} (h : x = Sp.B_11_0 y k0) : gd c x = Sp.B_11_0 (gd c y) k0 := by cases c; rfl; exact h
theorem Bcond_11_0 {R : Type} {c : Bool} {x x' : Option R} {y y' : Option Sp.E_11_0} {k0 : (List Int) → (List Int) → (List Int) → (List Int) → (List Int) → Option R} (h : x = Sp.B_11_0 y k0) (h' : x' = Sp.B_11_0 y' k0) : (bif c then x else x') = Sp.B_11_0 (bif c then y else y') k0 := by cases c; exact h'; exact h
theorem Bin_11_0_11_33_0_0 {R : Type} {r : Option Sp.E_11_33_0_0} {k0 : (List Int) → (List Int) → (List Int) → (List Int) → (List Int) → Option R} {f0 : (List Int) → (List Int) → (List Int) → (List Int) → Option R} {g0 : (List Int) → (List Int) → (List Int) → (List Int) → Option Sp.E_11_0} (h0 : ∀ z0 z1 z2 z3, f0 z0 z1 z2 z3 = Sp.B_11_0 (g0 z0 z1 z2 z3) k0) : Sp.B_11_33_0_0 r f0 = Sp.B_11_0 (Sp.B_11_33_0_0 r g0) k0 := by
  cases r with
  | none => rfl
  | some e => cases e with
    | e0 z0 z1 z2 z3 => exact h0 _ _ _ _
theorem Bin_11_0_11_33_1_0 {R : Type} {r : Option Sp.E_11_33_1_0} {k0 : (List Int) → (List Int) → (List Int) → (List Int) → (List Int) → Option R} {f0 : (List Int) → (List Int) → (List Int) → (List Int) → Option R} {g0 : (List Int) → (List Int) → (List Int) → (List Int) → Option Sp.E_11_0} (h0 : ∀ z0 z1 z2 z3, f0 z0 z1 z2 z3 = Sp.B_11_0 (g0 z0 z1 z2 z3) k0) : Sp.B_11_33_1_0 r f0 = Sp.B_11_0 (Sp.B_11_33_1_0 r g0) k0 := by
  cases r with
  | none => rfl
  | some e => cases e with
    | e0 z0 z1 z2 z3 => exact h0 _ _ _ _
theorem Bin_11_0_11_33_2_0 {R : Type} {r : Option Sp.E_11_33_2_0} {k0 : (List Int) → (List Int) → (List Int) → (List Int) → (List Int) → Option R} {f0 : (List Int) → (List Int) → (List Int) → (List Int) → Option R} {g0 : (List Int) → (List Int) → (List Int) → (List Int) → Option Sp.E_11_0} (h0 : ∀ z0 z1 z2 z3, f0 z0 z1 z2 z3 = Sp.B_11_0 (g0 z0 z1 z2 z3) k0) : Sp.B_11_33_2_0 r f0 = Sp.B_11_0 (Sp.B_11_33_2_0 r g0) k0 := by
  cases r with
  | none => rfl
  | some e => cases e with
    | e0 z0 z1 z2 z3 => exact h0 _ _ _ _
theorem Bin_11_0_11_33_3_0 {R : Type} {r : Option Sp.E_11_33_3_0} {k0 : (List Int) → (List Int) → (List Int) → (List Int) → (List Int) → Option R} {f0 : (List Int) → (List Int) → (List Int) → Option R} {g0 : (List Int) → (List Int) → (List Int) → Option Sp.E_11_0} (h0 : ∀ z0 z1 z2, f0 z0 z1 z2 = Sp.B_11_0 (g0 z0 z1 z2) k0) : Sp.B_11_33_3_0 r f0 = Sp.B_11_0 (Sp.B_11_33_3_0 r g0) k0 := by
  cases r with
  | none => rfl
  | some e => cases e with
    | e0 z0 z1 z2 => exact h0 _ _ _
theorem loop_11_0 {R : Type} (k : Ex → St → Option R) : ∀ (m : Nat) (p0 : List Int) (p1 : List Int) (p2 : List Int) (p3 : List Int) (p4 : List Int), evLoopN (evCodeL sm_11 FU (ovr (fun f' => bif Nat.beq f' 33 then some (g_11_33) else none) (evFn sm_11 fns FU 1)) .nil ir11_b0) (St.norm ir11_v0) m (T_11_0 p0 p1 p2 p3 p4) k = Sp.B_11_0 (Sp.L_11_0 m p0 p1 p2 p3 p4) (fun p0 p1 p2 p3 p4 => k (Ex.exit (0 : Nat)) (X_11_0_0 p0 p1 p2 p3 p4))
  | 0, _, _, _, _, _ => rfl
  | m + 1, p0, p1, p2, p3, p4 => by
    rw [evLoopN_succ, body_11_0, Sp.L_11_0]
    repeat' first | apply Bgd_11_0 | apply Bcond_11_0 | (apply Bin_11_0_11_33_0_0 <;> intros) | (apply Bin_11_0_11_33_1_0 <;> intros) | (apply Bin_11_0_11_33_2_0 <;> intros) | (apply Bin_11_0_11_33_3_0 <;> intros) | exact loop_11_0 k m _ _ _ _ _ | rfl
theorem ok_11_0 {R : Type} (T : St) (k : Ex → St → Option R) (r : R) (h0 : o_11_0 G_11_0 T k = some r) : evLoopN (evCode sm_11 FU (evFn sm_11 fns FU 1) ir11_b0) (St.norm ir11_v0) FU T k = some r := by
  obtain ⟨p0, p1, p2, p3, p4, rfl, h⟩ := o_11_0_inv h0
  refine evLoopN_L (t := .nil) ov_11_11_ok trivial _ _ _ _ ?_
  rw [loop_11_0]
  exact h
theorem OK_11_11_0 {R : Type} (T : St) (k : Ex → St → Option R) (r : R) (h : O_11_11_0 T k = some r) : evLoopN (evCode sm_11 FU (evFn sm_11 fns FU 1) ir11_b0) (St.norm ir11_v0) FU T k = some r := ok_11_0 T k r h
theorem body_11_2 {R : Type} (K0 : St → Option R) (K1 : Ex → St → Option R) (p0 : Int) (p1 : Int) (p2 : List Int) (p3 : List Int) (p4 : List Int) (p5 : List Int) : evLB (evCodeL sm_11 FU (ovr (fun f' => bif Nat.beq f' 33 then some (g_11_33) else none) (evFn sm_11 fns FU 1)) .nil ir11_b2) (St.norm ir11_v2) (T_11_2 p0 p1 p2 p3 p4 p5) K0 K1 =
  bif decide (p1 < p0) then gd (sl3 p1 (IntKind.wrap IntKind.i64 (p1 + (64 : Int))) (128 : Int)) (Sp.B_11_33_0_1 (Sp.L_11_33_0_1 (4611686018427387904 : Nat) (Int.toNat p1) (Int.toNat (IntKind.wrap IntKind.i64 (p1 + (64 : Int))) - Int.toNat p1) ((128 : Nat) - Int.toNat p1) (0 : Int) p2 p3 p4 p5 (List.replicate (64 : Nat) (0 : Int))) fun (y19 y20 y21 y22 y23 : List Int) => Sp.B_11_33_1_1 (Sp.L_11_33_1_1 (4611686018427387904 : Nat) (16 : Int) y19 y20 y21 y22 y23) fun (y24 y25 y26 y27 y28 : List Int) => Sp.B_11_33_2_1 (Sp.L_11_33_2_1 (4611686018427387904 : Nat) (0 : Int) y24 y25 y26 y27 y28 y25) fun (y29 y30 y31 y32 y33 : List Int) => Sp.B_11_33_3_1 (Sp.L_11_33_3_1 (4611686018427387904 : Nat) (0 : Int) y29 y30 y31 y32 y33) fun (y34 y35 y36 y37 : List Int) => K0 (T_11_2 p0 (IntKind.wrap IntKind.i64 (p1 + (64 : Int))) y34 y35 y36 y37)) else K1 (Ex.exit (2 : Nat)) (X_11_2_0 p2 p3) := by kernel_rfl
theorem Bgd_11_2 {R : Type} {c : Bool} {x : Option R} {y : Option Sp.E_11_2} {k0 : (List Int) → (List Int) → Option R} (h : x = Sp.B_11_2 y k0) : gd c x = Sp.B_11_2 (gd c y) k0 := by cases c; rfl; exact h
theorem Bcond_11_2 {R : Type} {c : Bool} {x x' : Option R} {y y' : Option Sp.E_11_2} {k0 : (List Int) → (List Int) → Option R} (h : x = Sp.B_11_2 y k0) (h' : x' = Sp.B_11_2 y' k0) : (bif c then x else x') = Sp.B_11_2 (bif c then y else y') k0 := by cases c; exact h'; exact h
theorem Bin_11_2_11_33_0_1 {R : Type} {r : Option Sp.E_11_33_0_1} {k0 : (List Int) → (List Int) → Option R} {f0 : (List Int) → (List Int) → (List Int) → (List Int) → (List Int) → Option R} {g0 : (List Int) → (List Int) → (List Int) → (List Int) → (List Int) → Option Sp.E_11_2} (h0 : ∀ z0 z1 z2 z3 z4, f0 z0 z1 z2 z3 z4 = Sp.B_11_2 (g0 z0 z1 z2 z3 z4) k0) : Sp.B_11_33_0_1 r f0 = Sp.B_11_2 (Sp.B_11_33_0_1 r g0) k0 := by
  cases r with
  | none => rfl
  | some e => cases e with
    | e0 z0 z1 z2 z3 z4 => exact h0 _ _ _ _ _
theorem Bin_11_2_11_33_1_1 {R : Type} {r : Option Sp.E_11_33_1_1} {k0 : (List Int) → (List Int) → Option R} {f0 : (List Int) → (List Int) → (List Int) → (List Int) → (List Int) → Option R} {g0 : (List Int) → (List Int) → (List Int) → (List Int) → (List Int) → Option Sp.E_11_2} (h0 : ∀ z0 z1 z2 z3 z4, f0 z0 z1 z2 z3 z4 = Sp.B_11_2 (g0 z0 z1 z2 z3 z4) k0) : Sp.B_11_33_1_1 r f0 = Sp.B_11_2 (Sp.B_11_33_1_1 r g0) k0 := by
  cases r with
  | none => rfl
  | some e => cases e with
    | e0 z0 z1 z2 z3 z4 => exact h0 _ _ _ _ _
theorem Bin_11_2_11_33_2_1 {R : Type} {r : Option Sp.E_11_33_2_1} {k0 : (List Int) → (List Int) → Option R} {f0 : (List Int) → (List Int) → (List Int) → (List Int) → (List Int) → Option R} {g0 : (List Int) → (List Int) → (List Int) → (List Int) → (List Int) → Option Sp.E_11_2} (h0 : ∀ z0 z1 z2 z3 z4, f0 z0 z1 z2 z3 z4 = Sp.B_11_2 (g0 z0 z1 z2 z3 z4) k0) : Sp.B_11_33_2_1 r f0 = Sp.B_11_2 (Sp.B_11_33_2_1 r g0) k0 := by
  cases r with
  | none => rfl
  | some e => cases e with
    | e0 z0 z1 z2 z3 z4 => exact h0 _ _ _ _ _
theorem Bin_11_2_11_33_3_1 {R : Type} {r : Option Sp.E_11_33_3_1} {k0 : (List Int) → (List Int) → Option R} {f0 : (List Int) → (List Int) → (List Int) → (List Int) → Option R} {g0 : (List Int) → (List Int) → (List Int) → (List Int) → Option Sp.E_11_2} (h0 : ∀ z0 z1 z2 z3, f0 z0 z1 z2 z3 = Sp.B_11_2 (g0 z0 z1 z2 z3) k0) : Sp.B_11_33_3_1 r f0 = Sp.B_11_2 (Sp.B_11_33_3_1 r g0) k0 := by
  cases r with
  | none => rfl
  | some e => cases e with
    | e0 z0 z1 z2 z3 => exact h0 _ _ _ _
theorem loop_11_2 {R : Type} (k : Ex → St → Option R) : ∀ (m : Nat) (p0 : Int) (p1 : Int) (p2 : List Int) (p3 : List Int) (p4 : List Int) (p5 : List Int), evLoopN (evCodeL sm_11 FU (ovr (fun f' => bif Nat.beq f' 33 then some (g_11_33) else none) (evFn sm_11 fns FU 1)) .nil ir11_b2) (St.norm ir11_v2) m (T_11_2 p0 p1 p2 p3 p4 p5) k = Sp.B_11_2 (Sp.L_11_2 m p0 p1 p2 p3 p4 p5) (fun p2 p3 => k (Ex.exit (2 : Nat)) (X_11_2_0 p2 p3))
  | 0, _, _, _, _, _, _ => rfl
  | m + 1, p0, p1, p2, p3, p4, p5 => by
    rw [evLoopN_succ, body_11_2, Sp.L_11_2]
    repeat' first | apply Bgd_11_2 | apply Bcond_11_2 | (apply Bin_11_2_11_33_0_1 <;> intros) | (apply Bin_11_2_11_33_1_1 <;> intros) | (apply Bin_11_2_11_33_2_1 <;> intros) | (apply Bin_11_2_11_33_3_1 <;> intros) | exact loop_11_2 k m _ _ _ _ _ _ | rfl
theorem ok_11_2 {R : Type} (T : St) (k : Ex → St → Option R) (r : R) (h0 : o_11_2 G_11_2 T k = some r) : evLoopN (evCode sm_11 FU (evFn sm_11 fns FU 1) ir11_b2) (St.norm ir11_v2) FU T k = some r := by
  obtain ⟨p0, p1, p2, p3, p4, p5, rfl, h⟩ := o_11_2_inv h0
  refine evLoopN_L (t := .nil) ov_11_11_ok trivial _ _ _ _ ?_
  rw [loop_11_2]
  exact h
theorem OK_11_11_2 {R : Type} (T : St) (k : Ex → St → Option R) (r : R) (h : O_11_11_2 T k = some r) : evLoopN (evCode sm_11 FU (evFn sm_11 fns FU 1) ir11_b2) (St.norm ir11_v2) FU T k = some r := ok_11_2 T k r h
theorem body_11_3 {R : Type} (K0 : St → Option R) (K1 : Ex → St → Option R) (p0 : List Int) (p1 : Int) (p2 : List Int) (p3 : List Int) : evLB (evCodeL sm_11 FU (ovr (fun f' => bif Nat.beq f' 33 then some (g_11_33) else none) (evFn sm_11 fns FU 1)) .nil ir11_b3) (St.norm ir11_v3) (T_11_3 p0 p1 p2 p3) K0 K1 =
  bif decide (p1 < (8 : Int)) then gd (inB p1 (8 : Nat)) (gd (sl3 (IntKind.wrap IntKind.i64 ((4 : Int) * p1)) (32 : Int) (32 : Int)) (gd (inB (0 : Int) ((32 : Nat) - Int.toNat (IntKind.wrap IntKind.i64 ((4 : Int) * p1)))) (gd (decide (Int.toNat (IntKind.wrap IntKind.i64 ((4 : Int) * p1)) + (0 : Nat) < (32 : Nat)) && true) (gd (inB (1 : Int) ((32 : Nat) - Int.toNat (IntKind.wrap IntKind.i64 ((4 : Int) * p1)))) (gd (decide (Int.toNat (IntKind.wrap IntKind.i64 ((4 : Int) * p1)) + (1 : Nat) < (32 : Nat)) && true) (gd (inB (2 : Int) ((32 : Nat) - Int.toNat (IntKind.wrap IntKind.i64 ((4 : Int) * p1)))) (gd (decide (Int.toNat (IntKind.wrap IntKind.i64 ((4 : Int) * p1)) + (2 : Nat) < (32 : Nat)) && true) (gd (inB (3 : Int) ((32 : Nat) - Int.toNat (IntKind.wrap IntKind.i64 ((4 : Int) * p1)))) (gd (decide (Int.toNat (IntKind.wrap IntKind.i64 ((4 : Int) * p1)) + (3 : Nat) < (32 : Nat)) && true) (K0 (T_11_3 p0 (IntKind.wrap IntKind.i64 (p1 + (1 : Int))) p2 (List.set (List.set (List.set (List.set p3 (Int.toNat (IntKind.wrap IntKind.i64 ((4 : Int) * p1)) + (0 : Nat)) (IntKind.wrap IntKind.u8 (Int.fdiv (List.getD p0 (Int.toNat p1) (0 : Int)) (16777216 : Int)))) (Int.toNat (IntKind.wrap IntKind.i64 ((4 : Int) * p1)) + (1 : Nat)) (IntKind.wrap IntKind.u8 (Int.fdiv (List.getD p0 (Int.toNat p1) (0 : Int)) (65536 : Int)))) (Int.toNat (IntKind.wrap IntKind.i64 ((4 : Int) * p1)) + (2 : Nat)) (IntKind.wrap IntKind.u8 (Int.fdiv (List.getD p0 (Int.toNat p1) (0 : Int)) (256 : Int)))) (Int.toNat (IntKind.wrap IntKind.i64 ((4 : Int) * p1)) + (3 : Nat)) (IntKind.wrap IntKind.u8 (List.getD p0 (Int.toNat p1) (0 : Int))))))))))))))) else K1 (Ex.exit (4 : Nat)) (X_11_3_0 p2 p3) := by kernel_rfl
theorem Bgd_11_3 {R : Type} {c : Bool} {x : Option R} {y : Option Sp.E_11_3} {k0 : (List Int) → (List Int) → Option R} (h : x = Sp.B_11_3 y k0) : gd c x = Sp.B_11_3 (gd c y) k0 := by cases c; rfl; exact h
theorem Bcond_11_3 {R : Type} {c : Bool} {x x' : Option R} {y y' : Option Sp.E_11_3} {k0 : (List Int) → (List Int) → Option R} (h : x = Sp.B_11_3 y k0) (h' : x' = Sp.B_11_3 y' k0) : (bif c then x else x') = Sp.B_11_3 (bif c then y else y') k0 := by cases c; exact h'; exact h
theorem loop_11_3 {R : Type} (k : Ex → St → Option R) : ∀ (m : Nat) (p0 : List Int) (p1 : Int) (p2 : List Int) (p3 : List Int), evLoopN (evCodeL sm_11 FU (ovr (fun f' => bif Nat.beq f' 33 then some (g_11_33) else none) (evFn sm_11 fns FU 1)) .nil ir11_b3) (St.norm ir11_v3) m (T_11_3 p0 p1 p2 p3) k = Sp.B_11_3 (Sp.L_11_3 m p0 p1 p2 p3) (fun p2 p3 => k (Ex.exit (4 : Nat)) (X_11_3_0 p2 p3))
  | 0, _, _, _, _ => rfl
  | m + 1, p0, p1, p2, p3 => by
    rw [evLoopN_succ, body_11_3, Sp.L_11_3]
    repeat' first | apply Bgd_11_3 | apply Bcond_11_3 | exact loop_11_3 k m _ _ _ _ | rfl
theorem ok_11_3 {R : Type} (T : St) (k : Ex → St → Option R) (r : R) (h0 : o_11_3 G_11_3 T k = some r) : evLoopN (evCode sm_11 FU (evFn sm_11 fns FU 1) ir11_b3) (St.norm ir11_v3) FU T k = some r := by
  obtain ⟨p0, p1, p2, p3, rfl, h⟩ := o_11_3_inv h0
  refine evLoopN_L (t := .nil) ov_11_11_ok trivial _ _ _ _ ?_
  rw [loop_11_3]
  exact h
theorem OK_11_11_3 {R : Type} (T : St) (k : Ex → St → Option R) (r : R) (h : O_11_11_3 T k = some r) : evLoopN (evCode sm_11 FU (evFn sm_11 fns FU 1) ir11_b3) (St.norm ir11_v3) FU T k = some r := ok_11_3 T k r h
theorem body_11_1 {R : Type} (K1 : Ex → St → Option R) (p0 : List Int) (p1 : Int) (p2 : List Int) (p3 : List Int) (p4 : List Int) (p5 : List Int) : evJ (evCodeL sm_11 FU (ovr (fun f' => bif Nat.beq f' 33 then some (g_11_33) else none) (evFn sm_11 fns FU 1)) (ir11_bt1 O_11_11_2 O_11_11_3) ir11_b1) (T_11_1 p0 p1 p2 p3 p4 p5) K1 =
  gd (sl3 (IntKind.wrap IntKind.i64 (p1 - (8 : Int))) (128 : Int) (128 : Int)) (gd (inB (0 : Int) ((128 : Nat) - Int.toNat (IntKind.wrap IntKind.i64 (p1 - (8 : Int))))) (gd (decide (Int.toNat (IntKind.wrap IntKind.i64 (p1 - (8 : Int))) + (0 : Nat) < (128 : Nat)) && true) (gd (inB (1 : Int) ((128 : Nat) - Int.toNat (IntKind.wrap IntKind.i64 (p1 - (8 : Int))))) (gd (decide (Int.toNat (IntKind.wrap IntKind.i64 (p1 - (8 : Int))) + (1 : Nat) < (128 : Nat)) && true) (gd (inB (2 : Int) ((128 : Nat) - Int.toNat (IntKind.wrap IntKind.i64 (p1 - (8 : Int))))) (gd (decide (Int.toNat (IntKind.wrap IntKind.i64 (p1 - (8 : Int))) + (2 : Nat) < (128 : Nat)) && true) (gd (inB (3 : Int) ((128 : Nat) - Int.toNat (IntKind.wrap IntKind.i64 (p1 - (8 : Int))))) (gd (decide (Int.toNat (IntKind.wrap IntKind.i64 (p1 - (8 : Int))) + (3 : Nat) < (128 : Nat)) && true) (gd (sl3 (IntKind.wrap IntKind.i64 (p1 - (4 : Int))) (128 : Int) (128 : Int)) (gd (inB (0 : Int) ((128 : Nat) - Int.toNat (IntKind.wrap IntKind.i64 (p1 - (4 : Int))))) (gd (decide (Int.toNat (IntKind.wrap IntKind.i64 (p1 - (4 : Int))) + (0 : Nat) < (128 : Nat)) && true) (gd (inB (1 : Int) ((128 : Nat) - Int.toNat (IntKind.wrap IntKind.i64 (p1 - (4 : Int))))) (gd (decide (Int.toNat (IntKind.wrap IntKind.i64 (p1 - (4 : Int))) + (1 : Nat) < (128 : Nat)) && true) (gd (inB (2 : Int) ((128 : Nat) - Int.toNat (IntKind.wrap IntKind.i64 (p1 - (4 : Int))))) (gd (decide (Int.toNat (IntKind.wrap IntKind.i64 (p1 - (4 : Int))) + (2 : Nat) < (128 : Nat)) && true) (gd (inB (3 : Int) ((128 : Nat) - Int.toNat (IntKind.wrap IntKind.i64 (p1 - (4 : Int))))) (gd (decide (Int.toNat (IntKind.wrap IntKind.i64 (p1 - (4 : Int))) + (3 : Nat) < (128 : Nat)) && true) (Sp.B_11_2 (Sp.L_11_2 (4611686018427387904 : Nat) p1 (0 : Int) p2 p3 p4 (List.set (List.set (List.set (List.set (List.set (List.set (List.set (List.set p5 (Int.toNat (IntKind.wrap IntKind.i64 (p1 - (8 : Int))) + (0 : Nat)) (IntKind.wrap IntKind.u8 (Int.fdiv (IntKind.wrap IntKind.u32 (Int.fdiv (IntKind.wrap IntKind.u64 (IntKind.wrap IntKind.u64 (↑(List.length p0) : Int) * (8 : Int))) (4294967296 : Int))) (16777216 : Int)))) (Int.toNat (IntKind.wrap IntKind.i64 (p1 - (8 : Int))) + (1 : Nat)) (IntKind.wrap IntKind.u8 (Int.fdiv (IntKind.wrap IntKind.u32 (Int.fdiv (IntKind.wrap IntKind.u64 (IntKind.wrap IntKind.u64 (↑(List.length p0) : Int) * (8 : Int))) (4294967296 : Int))) (65536 : Int)))) (Int.toNat (IntKind.wrap IntKind.i64 (p1 - (8 : Int))) + (2 : Nat)) (IntKind.wrap IntKind.u8 (Int.fdiv (IntKind.wrap IntKind.u32 (Int.fdiv (IntKind.wrap IntKind.u64 (IntKind.wrap IntKind.u64 (↑(List.length p0) : Int) * (8 : Int))) (4294967296 : Int))) (256 : Int)))) (Int.toNat (IntKind.wrap IntKind.i64 (p1 - (8 : Int))) + (3 : Nat)) (IntKind.wrap IntKind.u8 (IntKind.wrap IntKind.u32 (Int.fdiv (IntKind.wrap IntKind.u64 (IntKind.wrap IntKind.u64 (↑(List.length p0) : Int) * (8 : Int))) (4294967296 : Int))))) (Int.toNat (IntKind.wrap IntKind.i64 (p1 - (4 : Int))) + (0 : Nat)) (IntKind.wrap IntKind.u8 (Int.fdiv (IntKind.wrap IntKind.u32 (IntKind.wrap IntKind.u64 (IntKind.wrap IntKind.u64 (↑(List.length p0) : Int) * (8 : Int)))) (16777216 : Int)))) (Int.toNat (IntKind.wrap IntKind.i64 (p1 - (4 : Int))) + (1 : Nat)) (IntKind.wrap IntKind.u8 (Int.fdiv (IntKind.wrap IntKind.u32 (IntKind.wrap IntKind.u64 (IntKind.wrap IntKind.u64 (↑(List.length p0) : Int) * (8 : Int)))) (65536 : Int)))) (Int.toNat (IntKind.wrap IntKind.i64 (p1 - (4 : Int))) + (2 : Nat)) (IntKind.wrap IntKind.u8 (Int.fdiv (IntKind.wrap IntKind.u32 (IntKind.wrap IntKind.u64 (IntKind.wrap IntKind.u64 (↑(List.length p0) : Int) * (8 : Int)))) (256 : Int)))) (Int.toNat (IntKind.wrap IntKind.i64 (p1 - (4 : Int))) + (3 : Nat)) (IntKind.wrap IntKind.u8 (IntKind.wrap IntKind.u32 (IntKind.wrap IntKind.u64 (IntKind.wrap IntKind.u64 (↑(List.length p0) : Int) * (8 : Int))))))) fun (y4 y5 : List Int) => Sp.B_11_3 (Sp.L_11_3 (4611686018427387904 : Nat) y5 (0 : Int) y4 (List.replicate (32 : Nat) (0 : Int))) fun (y6 y7 : List Int) => K1 Ex.ret (X_11_1_0 y7))))))))))))))))))) := by kernel_rfl
theorem Bgd_11_1 {R : Type} {c : Bool} {x : Option R} {y : Option Sp.E_11_1} {k0 : (List Int) → Option R} (h : x = Sp.B_11_1 y k0) : gd c x = Sp.B_11_1 (gd c y) k0 := by cases c; rfl; exact h
theorem Bcond_11_1 {R : Type} {c : Bool} {x x' : Option R} {y y' : Option Sp.E_11_1} {k0 : (List Int) → Option R} (h : x = Sp.B_11_1 y k0) (h' : x' = Sp.B_11_1 y' k0) : (bif c then x else x') = Sp.B_11_1 (bif c then y else y') k0 := by cases c; exact h'; exact h
theorem Bin_11_1_11_2 {R : Type} {r : Option Sp.E_11_2} {k0 : (List Int) → Option R} {f0 : (List Int) → (List Int) → Option R} {g0 : (List Int) → (List Int) → Option Sp.E_11_1} (h0 : ∀ z0 z1, f0 z0 z1 = Sp.B_11_1 (g0 z0 z1) k0) : Sp.B_11_2 r f0 = Sp.B_11_1 (Sp.B_11_2 r g0) k0 := by
  cases r with
  | none => rfl
  | some e => cases e with
    | e0 z0 z1 => exact h0 _ _
theorem Bin_11_1_11_3 {R : Type} {r : Option Sp.E_11_3} {k0 : (List Int) → Option R} {f0 : (List Int) → (List Int) → Option R} {g0 : (List Int) → (List Int) → Option Sp.E_11_1} (h0 : ∀ z0 z1, f0 z0 z1 = Sp.B_11_1 (g0 z0 z1) k0) : Sp.B_11_3 r f0 = Sp.B_11_1 (Sp.B_11_3 r g0) k0 := by
  cases r with
  | none => rfl
  | some e => cases e with
    | e0 z0 z1 => exact h0 _ _
theorem loop_11_1 {R : Type} (k : Ex → St → Option R) (p0 : List Int) (p1 : Int) (p2 : List Int) (p3 : List Int) (p4 : List Int) (p5 : List Int) : evJ (evCodeL sm_11 FU (ovr (fun f' => bif Nat.beq f' 33 then some (g_11_33) else none) (evFn sm_11 fns FU 1)) (ir11_bt1 O_11_11_2 O_11_11_3) ir11_b1) (T_11_1 p0 p1 p2 p3 p4 p5) k = Sp.B_11_1 (Sp.J_11_1 p0 p1 p2 p3 p4 p5) (fun y7 => k Ex.ret (X_11_1_0 y7)) := by
  rw [body_11_1, Sp.J_11_1]
  repeat' first | apply Bgd_11_1 | apply Bcond_11_1 | (apply Bin_11_1_11_2 <;> intros) | (apply Bin_11_1_11_3 <;> intros) | rfl
theorem ok_11_1 {R : Type} (T : St) (k : Ex → St → Option R) (r : R) (h0 : o_11_1 G_11_1 T k = some r) : evCode sm_11 FU (evFn sm_11 fns FU 1) ir11_b1 T k = some r := by
  obtain ⟨p0, p1, p2, p3, p4, p5, rfl, h⟩ := o_11_1_inv h0
  refine bodyL_sound (t := (ir11_bt1 O_11_11_2 O_11_11_3)) ov_11_11_ok (ir11_bt1ok (fun T k r => OK_11_11_2 T k r) (fun T k r => OK_11_11_3 T k r)) ((loop_11_1 k _ _ _ _ _ _).trans h)
theorem OK_11_11_1 {R : Type} (T : St) (k : Ex → St → Option R) (r : R) (h : O_11_11_1 T k = some r) : evCode sm_11 FU (evFn sm_11 fns FU 1) ir11_b1 T k = some r := ok_11_1 T k r h
def F_11 (a0 : (List Int)) : Option ((List Int) × Unit) :=
  gd Sp.p_32 (Sp.B_11_0 (Sp.L_11_0 (4611686018427387904 : Nat) a0 a0 (List.replicate (32 : Nat) (0 : Int)) [(1779033703 : Int), (3144134277 : Int), (1013904242 : Int), (2773480762 : Int), (1359893119 : Int), (2600822924 : Int), (528734635 : Int), (1541459225 : Int)] (Prod.fst Sp.v_32)) fun (y7 y8 y9 y10 y11 : List Int) => gd (inB (↑(Nat.min (List.length y8) (128 : Nat)) : Int) (128 : Nat)) (gd (decide (Int.toNat (↑(Nat.min (List.length y8) (128 : Nat)) : Int) < (128 : Nat)) && true) (bif decide (IntKind.wrap IntKind.i64 ((↑(Nat.min (List.length y8) (128 : Nat)) : Int) + (9 : Int)) > (64 : Int)) then Sp.B_11_1 (Sp.J_11_1 y7 (128 : Int) y9 y10 y11 (List.set (over (List.replicate (128 : Nat) (0 : Int)) (0 : Nat) (List.take (128 : Nat) y8)) (Int.toNat (↑(Nat.min (List.length y8) (128 : Nat)) : Int)) (128 : Int))) fun (y14 : List Int) => some (y14, PUnit.unit) else Sp.B_11_1 (Sp.J_11_1 y7 (64 : Int) y9 y10 y11 (List.set (over (List.replicate (128 : Nat) (0 : Int)) (0 : Nat) (List.take (128 : Nat) y8)) (Int.toNat (↑(Nat.min (List.length y8) (128 : Nat)) : Int)) (128 : Int))) fun (y15 : List Int) => some (y15, PUnit.unit))))
theorem fn_11 (a0 : (List Int)) : evFnL sm_11 FU (ovr (fun f' => bif Nat.beq f' 33 then some (g_11_33) else none) (evFn sm_11 fns FU 1)) (ir11_t O_11_11_0 O_11_11_1) ir11 (ofH [(.slice (.int .u8))] (a0, ())) [] (pureK [(.arr 32 (.int .u8))]) = F_11 a0 := by kernel_rfl
def Sp.p_11 (a0 : (List Int)) : Bool := (F_11 a0).isSome
def Sp.v_11 (a0 : (List Int)) : (List Int) × Unit := (F_11 a0).getD (dfH [(.arr 32 (.int .u8))])
def s_11 : Summ := shN [(.slice (.int .u8))] [(.arr 32 (.int .u8))] (fun x => Sp.p_11 x.1) (fun x => Sp.v_11 x.1)
theorem pv_11 (a0 : (List Int)) {y : (List Int) × Unit} (h : F_11 a0 = some y) : Sp.p_11 a0 = true ∧ Sp.v_11 a0 = y := ⟨by rw [Sp.p_11, h]; rfl, by rw [Sp.v_11, h]; rfl⟩
theorem run_11 (x : HDen [(.slice (.int .u8))]) (y : HDen [(.arr 32 (.int .u8))]) (h : F_11 x.1 = some y) : evFn sm_11 fns FU 2 11 (ofH [(.slice (.int .u8))] x) [] (pureK [(.arr 32 (.int .u8))]) = some y :=
  evFnL_sound (fn := ir11) (t := (ir11_t O_11_11_0 O_11_11_1)) (o := (fun f' => bif Nat.beq f' 33 then some (g_11_33) else none)) rfl ov_11_11_ok (ir11_tok (fun T k r => OK_11_11_0 T k r) (fun T k r => OK_11_11_1 T k r)) ((fn_11 _).trans h)
end
end Go.Ev
namespace Go.Ev
open Go
set_option maxRecDepth 100000
set_option maxHeartbeats 4000000
set_option linter.unusedVariables false
noncomputable section

def sm_13 : Nat → Option Summ := fun f => none
def T_13_1 (p0 : Int) (p1 : List Int) (p2 : Int) (p3 : List Int) (p4 : Int) (p5 : List Int) : St := St.mk [CV.junk, CV.junk, CV.junk, CV.whole (0 : Nat), CV.int IntKind.i64 p0, CV.junk, CV.junk, CV.junk, CV.junk, CV.pure (Ty.arr (32 : Nat) (Ty.int IntKind.u8)) p1, CV.int IntKind.i64 p2, CV.junk, CV.junk, CV.junk, CV.junk, CV.junk, CV.junk, CV.junk, CV.junk, CV.pure (Ty.arr (2 : Nat) (Ty.int IntKind.i64)) p3, CV.int IntKind.i64 p4, CV.junk, CV.junk, CV.junk, CV.junk, CV.junk, CV.junk, CV.junk, CV.junk, CV.junk, CV.junk, CV.junk, CV.junk, CV.junk, CV.junk, CV.junk, CV.junk, CV.junk, CV.junk, CV.junk, CV.junk, CV.junk, CV.junk] [Blk.vec (3 : Nat) (Ty.int IntKind.i64) p5] (0 : Nat)
def X_13_1_0 (p0 : Int) (p1 : List Int) (p2 : Int) (p5 : List Int) : St := St.mk [CV.junk, CV.junk, CV.junk, CV.whole (0 : Nat), CV.int IntKind.i64 p0, CV.junk, CV.junk, CV.junk, CV.junk, CV.pure (Ty.arr (32 : Nat) (Ty.int IntKind.u8)) p1, CV.int IntKind.i64 p2, CV.junk, CV.junk, CV.junk, CV.junk, CV.junk, CV.junk, CV.junk, CV.junk, CV.junk, CV.junk, CV.junk, CV.junk, CV.junk, CV.junk, CV.junk, CV.junk, CV.junk, CV.junk, CV.junk, CV.junk, CV.junk, CV.junk, CV.junk, CV.junk, CV.junk, CV.junk, CV.junk, CV.junk, CV.junk, CV.junk, CV.junk, CV.junk] [Blk.vec (3 : Nat) (Ty.int IntKind.i64) p5] (0 : Nat)
inductive Sp.E_13_1 where
  | e0 (p0 : Int) (p1 : List Int) (p2 : Int) (p5 : List Int)
def Sp.B_13_1 {R : Type} (r : Option Sp.E_13_1) (k0 : (Int) → (List Int) → (Int) → (List Int) → Option R) : Option R := match r with
  | none => none
  | some (.e0 p0 p1 p2 p5) => k0 p0 p1 p2 p5
def Sp.L_13_1 : Nat → (Int) → (List Int) → (Int) → (List Int) → (Int) → (List Int) → Option Sp.E_13_1
  | 0, _, _, _, _, _, _ => none
  | m + 1, p0, p1, p2, p3, p4, p5 => bif decide (p4 < (2 : Int)) then gd (inB p4 (2 : Nat)) (gd (room (List.length p5 + (1 : Nat)) (8 : Nat)) (Sp.L_13_1 m (IntKind.wrap IntKind.i64 (p0 + IntKind.wrap IntKind.i64 ((15 : Int) - List.getD p3 (Int.toNat p4) (0 : Int)))) p1 p2 p3 (IntKind.wrap IntKind.i64 (p4 + (1 : Int))) (p5 ++ [List.getD p3 (Int.toNat p4) (0 : Int)]))) else some (Sp.E_13_1.e0 p0 p1 p2 p5)
def G_13_1 {R : Type} (p0 : Int) (p1 : List Int) (p2 : Int) (p3 : List Int) (p4 : Int) (p5 : List Int) (k : Ex → St → Option R) : Option R := Sp.B_13_1 (Sp.L_13_1 FU p0 p1 p2 p3 p4 p5) (fun p0 p1 p2 p5 => k (Ex.exit (2 : Nat)) (X_13_1_0 p0 p1 p2 p5))
def o_13_1 {R : Type} (G : (Int) → (List Int) → (Int) → (List Int) → (Int) → (List Int) → (Ex → St → Option R) → Option R) : St → (Ex → St → Option R) → Option R := fun T k => match T.sl.getD 3 .junk, T.sl.getD 4 .junk, T.sl.getD 9 .junk, T.sl.getD 10 .junk, T.sl.getD 19 .junk, T.sl.getD 20 .junk, T.hp with
  | CV.whole (0 : Nat), CV.int IntKind.i64 p0, CV.pure (Ty.arr (32 : Nat) (Ty.int IntKind.u8)) p1, CV.int IntKind.i64 p2, CV.pure (Ty.arr (2 : Nat) (Ty.int IntKind.i64)) p3, CV.int IntKind.i64 p4, ((Blk.vec (3 : Nat) (Ty.int IntKind.i64) p5) :: []) => gd (shapeOK T 43 [3, 4, 9, 10, 19, 20] (0 : Nat)) (G p0 p1 p2 p3 p4 p5 k)
  | _, _, _, _, _, _, _ => none
theorem o_13_1_inv {R : Type} {G : (Int) → (List Int) → (Int) → (List Int) → (Int) → (List Int) → (Ex → St → Option R) → Option R} {T : St} {k : Ex → St → Option R} {r : R} (h : o_13_1 G T k = some r) : ∃ p0 p1 p2 p3 p4 p5, T = T_13_1 p0 p1 p2 p3 p4 p5 ∧ G p0 p1 p2 p3 p4 p5 k = some r := by
  unfold o_13_1 at h
  split at h
  · obtain ⟨hs, h'⟩ := gd_some h
    refine ⟨_, _, _, _, _, _, (st_of (asg := [(3, _), (4, _), (9, _), (10, _), (19, _), (20, _)]) hs ⟨by assumption, by assumption, by assumption, by assumption, by assumption, by assumption, trivial⟩ (by assumption)).trans ?_, h'⟩
    kernel_rfl
  · cases h
def T_13_0 (p0 : Int) (p1 : List Int) (p2 : Int) (p3 : List Int) : St := St.mk [CV.junk, CV.junk, CV.junk, CV.whole (0 : Nat), CV.int IntKind.i64 p0, CV.junk, CV.junk, CV.junk, CV.junk, CV.pure (Ty.arr (32 : Nat) (Ty.int IntKind.u8)) p1, CV.int IntKind.i64 p2, CV.junk, CV.junk, CV.junk, CV.junk, CV.junk, CV.junk, CV.junk, CV.junk, CV.junk, CV.junk, CV.junk, CV.junk, CV.junk, CV.junk, CV.junk, CV.junk, CV.junk, CV.junk, CV.junk, CV.junk, CV.junk, CV.junk, CV.junk, CV.junk, CV.junk, CV.junk, CV.junk, CV.junk, CV.junk, CV.junk, CV.junk, CV.junk] [Blk.vec (3 : Nat) (Ty.int IntKind.i64) p3] (0 : Nat)
def X_13_0_0 (p0 : Int) (p3 : List Int) : St := St.mk [CV.junk, CV.junk, CV.junk, CV.whole (0 : Nat), CV.int IntKind.i64 p0, CV.junk, CV.junk, CV.junk, CV.junk, CV.junk, CV.junk, CV.junk, CV.junk, CV.junk, CV.junk, CV.junk, CV.junk, CV.junk, CV.junk, CV.junk, CV.junk, CV.junk, CV.junk, CV.junk, CV.junk, CV.junk, CV.junk, CV.junk, CV.junk, CV.junk, CV.junk, CV.junk, CV.junk, CV.junk, CV.junk, CV.junk, CV.junk, CV.junk, CV.junk, CV.junk, CV.junk, CV.junk, CV.junk] [Blk.vec (3 : Nat) (Ty.int IntKind.i64) p3] (0 : Nat)
inductive Sp.E_13_0 where
  | e0 (p0 : Int) (p3 : List Int)
def Sp.B_13_0 {R : Type} (r : Option Sp.E_13_0) (k0 : (Int) → (List Int) → Option R) : Option R := match r with
  | none => none
  | some (.e0 p0 p3) => k0 p0 p3
def Sp.L_13_0 : Nat → (Int) → (List Int) → (Int) → (List Int) → Option Sp.E_13_0
  | 0, _, _, _, _ => none
  | m + 1, p0, p1, p2, p3 => bif decide (p2 < (32 : Int)) then gd (inB p2 (32 : Nat)) (Sp.B_13_1 (Sp.L_13_1 (4611686018427387904 : Nat) p0 p1 p2 [IntKind.wrap IntKind.i64 (Int.fdiv (List.getD p1 (Int.toNat p2) (0 : Int)) (16 : Int)), IntKind.wrap IntKind.i64 (Sp.andI IntKind.u8 (List.getD p1 (Int.toNat p2) (0 : Int)) (15 : Int))] (0 : Int) p3) fun (y4 : Int) (y5 : List Int) (y6 : Int) (y7 : List Int) => Sp.L_13_0 m y4 y5 (IntKind.wrap IntKind.i64 (y6 + (1 : Int))) y7) else some (Sp.E_13_0.e0 p0 p3)
def G_13_0 {R : Type} (p0 : Int) (p1 : List Int) (p2 : Int) (p3 : List Int) (k : Ex → St → Option R) : Option R := Sp.B_13_0 (Sp.L_13_0 FU p0 p1 p2 p3) (fun p0 p3 => k (Ex.exit (0 : Nat)) (X_13_0_0 p0 p3))
def o_13_0 {R : Type} (G : (Int) → (List Int) → (Int) → (List Int) → (Ex → St → Option R) → Option R) : St → (Ex → St → Option R) → Option R := fun T k => match T.sl.getD 3 .junk, T.sl.getD 4 .junk, T.sl.getD 9 .junk, T.sl.getD 10 .junk, T.hp with
  | CV.whole (0 : Nat), CV.int IntKind.i64 p0, CV.pure (Ty.arr (32 : Nat) (Ty.int IntKind.u8)) p1, CV.int IntKind.i64 p2, ((Blk.vec (3 : Nat) (Ty.int IntKind.i64) p3) :: []) => gd (shapeOK T 43 [3, 4, 9, 10] (0 : Nat)) (G p0 p1 p2 p3 k)
  | _, _, _, _, _ => none
theorem o_13_0_inv {R : Type} {G : (Int) → (List Int) → (Int) → (List Int) → (Ex → St → Option R) → Option R} {T : St} {k : Ex → St → Option R} {r : R} (h : o_13_0 G T k = some r) : ∃ p0 p1 p2 p3, T = T_13_0 p0 p1 p2 p3 ∧ G p0 p1 p2 p3 k = some r := by
  unfold o_13_0 at h
  split at h
  · obtain ⟨hs, h'⟩ := gd_some h
    refine ⟨_, _, _, _, (st_of (asg := [(3, _), (4, _), (9, _), (10, _)]) hs ⟨by assumption, by assumption, by assumption, by assumption, trivial⟩ (by assumption)).trans ?_, h'⟩
    kernel_rfl
  · cases h
def O_13_13_1 {R : Type} : St → (Ex → St → Option R) → Option R := fun T k => o_13_1 G_13_1 T k
def O_13_13_0 {R : Type} : St → (Ex → St → Option R) → Option R := fun T k => o_13_0 G_13_0 T k
theorem body_13_1 {R : Type} (K0 : St → Option R) (K1 : Ex → St → Option R) (p0 : Int) (p1 : List Int) (p2 : Int) (p3 : List Int) (p4 : Int) (p5 : List Int) : evLB (evCodeL sm_13 FU (ovr noO (evFn sm_13 fns FU 0)) .nil ir13_b1) (St.norm ir13_v1) (T_13_1 p0 p1 p2 p3 p4 p5) K0 K1 =
  bif decide (p4 < (2 : Int)) then gd (inB p4 (2 : Nat)) (gd (room (List.length p5 + (1 : Nat)) (8 : Nat)) (K0 (T_13_1 (IntKind.wrap IntKind.i64 (p0 + IntKind.wrap IntKind.i64 ((15 : Int) - List.getD p3 (Int.toNat p4) (0 : Int)))) p1 p2 p3 (IntKind.wrap IntKind.i64 (p4 + (1 : Int))) (p5 ++ [List.getD p3 (Int.toNat p4) (0 : Int)])))) else K1 (Ex.exit (2 : Nat)) (X_13_1_0 p0 p1 p2 p5) := by kernel_rfl
theorem Bgd_13_1 {R : Type} {c : Bool} {x : Option R} {y : Option Sp.E_13_1} {k0 : (Int) → (List Int) → (Int) → (List Int) → Option R} (h : x = Sp.B_13_1 y k0) : gd c x = Sp.B_13_1 (gd c y) k0 := by cases c; rfl; exact h
theorem Bcond_13_1 {R : Type} {c : Bool} {x x' : Option R} {y y' : Option Sp.E_13_1} {k0 : (Int) → (List Int) → (Int) → (List Int) → Option R} (h : x = Sp.B_13_1 y k0) (h' : x' = Sp.B_13_1 y' k0) : (bif c then x else x') = Sp.B_13_1 (bif c then y else y') k0 := by cases c; exact h'; exact h
theorem loop_13_1 {R : Type} (k : Ex → St → Option R) : ∀ (m : Nat) (p0 : Int) (p1 : List Int) (p2 : Int) (p3 : List Int) (p4 : Int) (p5 : List Int), evLoopN (evCodeL sm_13 FU (ovr noO (evFn sm_13 fns FU 0)) .nil ir13_b1) (St.norm ir13_v1) m (T_13_1 p0 p1 p2 p3 p4 p5) k = Sp.B_13_1 (Sp.L_13_1 m p0 p1 p2 p3 p4 p5) (fun p0 p1 p2 p5 => k (Ex.exit (2 : Nat)) (X_13_1_0 p0 p1 p2 p5))
  | 0, _, _, _, _, _, _ => rfl
  | m + 1, p0, p1, p2, p3, p4, p5 => by
    rw [evLoopN_succ, body_13_1, Sp.L_13_1]
    repeat' first | apply Bgd_13_1 | apply Bcond_13_1 | exact loop_13_1 k m _ _ _ _ _ _ | rfl
theorem ok_13_1 {R : Type} (T : St) (k : Ex → St → Option R) (r : R) (h0 : o_13_1 G_13_1 T k = some r) : evLoopN (evCode sm_13 FU (evFn sm_13 fns FU 0) ir13_b1) (St.norm ir13_v1) FU T k = some r := by
  obtain ⟨p0, p1, p2, p3, p4, p5, rfl, h⟩ := o_13_1_inv h0
  refine evLoopN_L (t := .nil) noO_ok trivial _ _ _ _ ?_
  rw [loop_13_1]
  exact h
theorem OK_13_13_1 {R : Type} (T : St) (k : Ex → St → Option R) (r : R) (h : O_13_13_1 T k = some r) : evLoopN (evCode sm_13 FU (evFn sm_13 fns FU 0) ir13_b1) (St.norm ir13_v1) FU T k = some r := ok_13_1 T k r h
theorem body_13_0 {R : Type} (K0 : St → Option R) (K1 : Ex → St → Option R) (p0 : Int) (p1 : List Int) (p2 : Int) (p3 : List Int) : evLB (evCodeL sm_13 FU (ovr noO (evFn sm_13 fns FU 0)) (ir13_bt0 O_13_13_1) ir13_b0) (St.norm ir13_v0) (T_13_0 p0 p1 p2 p3) K0 K1 =
  bif decide (p2 < (32 : Int)) then gd (inB p2 (32 : Nat)) (Sp.B_13_1 (Sp.L_13_1 (4611686018427387904 : Nat) p0 p1 p2 [IntKind.wrap IntKind.i64 (Int.fdiv (List.getD p1 (Int.toNat p2) (0 : Int)) (16 : Int)), IntKind.wrap IntKind.i64 (Sp.andI IntKind.u8 (List.getD p1 (Int.toNat p2) (0 : Int)) (15 : Int))] (0 : Int) p3) fun (y4 : Int) (y5 : List Int) (y6 : Int) (y7 : List Int) => K0 (T_13_0 y4 y5 (IntKind.wrap IntKind.i64 (y6 + (1 : Int))) y7)) else K1 (Ex.exit (0 : Nat)) (X_13_0_0 p0 p3) := by kernel_rfl
theorem Bgd_13_0 {R : Type} {c : Bool} {x : Option R} {y : Option Sp.E_13_0} {k0 : (Int) → (List Int) → Option R} (h : x = Sp.B_13_0 y k0) : gd c x = Sp.B_13_0 (gd c y) k0 := by cases c; rfl; exact h
theorem Bcond_13_0 {R : Type} {c : Bool} {x x' : Option R} {y y' : Option Sp.E_13_0} {k0 : (Int) → (List Int) → Option R} (h : x = Sp.B_13_0 y k0) (h' : x' = Sp.B_13_0 y' k0) : (bif c then x else x') = Sp.B_13_0 (bif c then y else y') k0 := by cases c; exact h'; exact h
theorem Bin_13_0_13_1 {R : Type} {r : Option Sp.E_13_1} {k0 : (Int) → (List Int) → Option R} {f0 : (Int) → (List Int) → (Int) → (List Int) → Option R} {g0 : (Int) → (List Int) → (Int) → (List Int) → Option Sp.E_13_0} (h0 : ∀ z0 z1 z2 z3, f0 z0 z1 z2 z3 = Sp.B_13_0 (g0 z0 z1 z2 z3) k0) : Sp.B_13_1 r f0 = Sp.B_13_0 (Sp.B_13_1 r g0) k0 := by
  cases r with
  | none => rfl
  | some e => cases e with
    | e0 z0 z1 z2 z3 => exact h0 _ _ _ _
theorem loop_13_0 {R : Type} (k : Ex → St → Option R) : ∀ (m : Nat) (p0 : Int) (p1 : List Int) (p2 : Int) (p3 : List Int), evLoopN (evCodeL sm_13 FU (ovr noO (evFn sm_13 fns FU 0)) (ir13_bt0 O_13_13_1) ir13_b0) (St.norm ir13_v0) m (T_13_0 p0 p1 p2 p3) k = Sp.B_13_0 (Sp.L_13_0 m p0 p1 p2 p3) (fun p0 p3 => k (Ex.exit (0 : Nat)) (X_13_0_0 p0 p3))
  | 0, _, _, _, _ => rfl
  | m + 1, p0, p1, p2, p3 => by
    rw [evLoopN_succ, body_13_0, Sp.L_13_0]
    repeat' first | apply Bgd_13_0 | apply Bcond_13_0 | (apply Bin_13_0_13_1 <;> intros) | exact loop_13_0 k m _ _ _ _ | rfl
theorem ok_13_0 {R : Type} (T : St) (k : Ex → St → Option R) (r : R) (h0 : o_13_0 G_13_0 T k = some r) : evLoopN (evCode sm_13 FU (evFn sm_13 fns FU 0) ir13_b0) (St.norm ir13_v0) FU T k = some r := by
  obtain ⟨p0, p1, p2, p3, rfl, h⟩ := o_13_0_inv h0
  refine evLoopN_L (t := (ir13_bt0 O_13_13_1)) noO_ok (ir13_bt0ok (fun T k r => OK_13_13_1 T k r)) _ _ _ _ ?_
  rw [loop_13_0]
  exact h
theorem OK_13_13_0 {R : Type} (T : St) (k : Ex → St → Option R) (r : R) (h : O_13_13_0 T k = some r) : evLoopN (evCode sm_13 FU (evFn sm_13 fns FU 0) ir13_b0) (St.norm ir13_v0) FU T k = some r := ok_13_0 T k r h
def F_13 (a0 : (List Int)) : Option ((List Int) × Unit) :=
  Sp.B_13_0 (Sp.L_13_0 (4611686018427387904 : Nat) (0 : Int) a0 (0 : Int) []) fun (y2 : Int) (y3 : List Int) => gd (room (List.length y3 + (3 : Nat)) (8 : Nat)) (some (y3 ++ [Int.fdiv y2 (256 : Int), Sp.andI IntKind.i64 (Int.fdiv y2 (16 : Int)) (15 : Int), Sp.andI IntKind.i64 y2 (15 : Int)], PUnit.unit))
theorem fn_13 (a0 : (List Int)) : evFnL sm_13 FU (ovr noO (evFn sm_13 fns FU 0)) (ir13_t O_13_13_0) ir13 (ofH [(.arr 32 (.int .u8))] (a0, ())) [] (pureK [(.slice (.int .i64))]) = F_13 a0 := by kernel_rfl
def Sp.p_13 (a0 : (List Int)) : Bool := (F_13 a0).isSome
def Sp.v_13 (a0 : (List Int)) : (List Int) × Unit := (F_13 a0).getD (dfH [(.slice (.int .i64))])
def s_13 : Summ := shS [(.arr 32 (.int .u8))] [(.slice (.int .i64))] (fun x => Sp.p_13 x.1) (fun x => Sp.v_13 x.1)
theorem pv_13 (a0 : (List Int)) {y : (List Int) × Unit} (h : F_13 a0 = some y) : Sp.p_13 a0 = true ∧ Sp.v_13 a0 = y := ⟨by rw [Sp.p_13, h]; rfl, by rw [Sp.v_13, h]; rfl⟩
theorem run_13 (x : HDen [(.arr 32 (.int .u8))]) (y : HDen [(.slice (.int .i64))]) (h : F_13 x.1 = some y) : evFn sm_13 fns FU 1 13 (ofH [(.arr 32 (.int .u8))] x) [] (pureK [(.slice (.int .i64))]) = some y :=
  evFnL_sound (fn := ir13) (t := (ir13_t O_13_13_0)) (o := noO) rfl noO_ok (ir13_tok (fun T k r => OK_13_13_0 T k r)) ((fn_13 _).trans h)
end
end Go.Ev
namespace Go.Ev
open Go
set_option maxRecDepth 100000
set_option maxHeartbeats 4000000
set_option linter.unusedVariables false
noncomputable section

def sm_10 : Nat → Option Summ := fun f => bif Nat.beq f 11 then some s_11 else bif Nat.beq f 13 then some s_13 else none


def F_10  : Option (Bool × Unit) :=
  gd (Sp.p_11 [(97 : Int), (98 : Int), (99 : Int)]) (gd (Sp.p_11 []) (gd (Sp.p_13 (List.replicate (32 : Nat) (0 : Int))) (bif List.getD (Prod.fst (Sp.v_11 [(97 : Int), (98 : Int), (99 : Int)])) (0 : Nat) (0 : Int) == (186 : Int) then bif List.getD (Prod.fst (Sp.v_11 [(97 : Int), (98 : Int), (99 : Int)])) (1 : Nat) (0 : Int) == (120 : Int) then bif List.getD (Prod.fst (Sp.v_11 [(97 : Int), (98 : Int), (99 : Int)])) (2 : Nat) (0 : Int) == (22 : Int) then bif List.getD (Prod.fst (Sp.v_11 [(97 : Int), (98 : Int), (99 : Int)])) (3 : Nat) (0 : Int) == (191 : Int) then bif List.getD (Prod.fst (Sp.v_11 [])) (0 : Nat) (0 : Int) == (227 : Int) then bif List.getD (Prod.fst (Sp.v_11 [])) (1 : Nat) (0 : Int) == (176 : Int) then bif List.getD (Prod.fst (Sp.v_11 [])) (2 : Nat) (0 : Int) == (196 : Int) then bif List.getD (Prod.fst (Sp.v_11 [])) (3 : Nat) (0 : Int) == (66 : Int) then bif (↑(List.length (Prod.fst (Sp.v_13 (List.replicate (32 : Nat) (0 : Int))))) : Int) == (67 : Int) then gd (inB (64 : Int) (List.length (Prod.fst (Sp.v_13 (List.replicate (32 : Nat) (0 : Int)))))) (bif List.getD (Prod.fst (Sp.v_13 (List.replicate (32 : Nat) (0 : Int)))) (64 : Nat) (0 : Int) == (3 : Int) then gd (inB (65 : Int) (List.length (Prod.fst (Sp.v_13 (List.replicate (32 : Nat) (0 : Int)))))) (bif List.getD (Prod.fst (Sp.v_13 (List.replicate (32 : Nat) (0 : Int)))) (65 : Nat) (0 : Int) == (12 : Int) then gd (inB (66 : Int) (List.length (Prod.fst (Sp.v_13 (List.replicate (32 : Nat) (0 : Int)))))) (some (List.getD (Prod.fst (Sp.v_13 (List.replicate (32 : Nat) (0 : Int)))) (66 : Nat) (0 : Int) == (0 : Int), PUnit.unit)) else some (false, PUnit.unit)) else some (false, PUnit.unit)) else some (false, PUnit.unit) else some (false, PUnit.unit) else some (false, PUnit.unit) else some (false, PUnit.unit) else some (false, PUnit.unit) else some (false, PUnit.unit) else some (false, PUnit.unit) else some (false, PUnit.unit) else some (false, PUnit.unit))))
theorem fn_10  : evFnL sm_10 FU (ovr noO (evFn sm_10 fns FU 0)) .nil ir10 (ofH [] (())) [] (pureK [.bool]) = F_10 := by kernel_rfl
def Sp.p_10  : Bool := (F_10).isSome
def Sp.v_10  : Bool × Unit := (F_10).getD (dfH [.bool])
def s_10 : Summ := shN [] [.bool] (fun x => Sp.p_10 ) (fun x => Sp.v_10 )
theorem pv_10  {y : Bool × Unit} (h : F_10 = some y) : Sp.p_10 = true ∧ Sp.v_10 = y := ⟨by rw [Sp.p_10, h]; rfl, by rw [Sp.v_10, h]; rfl⟩
theorem run_10 (x : HDen []) (y : HDen [.bool]) (h : F_10  = some y) : evFn sm_10 fns FU 1 10 (ofH [] x) [] (pureK [.bool]) = some y :=
  evFnL_sound (fn := ir10) (t := .nil) (o := noO) rfl noO_ok trivial ((fn_10).trans h)
end
end Go.Ev
namespace Go.Ev
open Go
set_option maxRecDepth 100000
set_option maxHeartbeats 4000000
set_option linter.unusedVariables false
noncomputable section

def sm_4 : Nat → Option Summ := fun f => bif Nat.beq f 10 then some s_10 else bif Nat.beq f 13 then some s_13 else none
def T_4_0 (p0 : List Int) (p1 : List Int) (p2 : Bool) (p3 : Bool) (p4 : Int) (p5 : Int) (p6 : Int) (p7 : List Int) (p8 : List Int) : St := St.mk [CV.junk, CV.junk, CV.ptr (0 : Nat) [], CV.ptr (1 : Nat) [], CV.junk, CV.pure (Ty.slice (Ty.int IntKind.i64)) p0, CV.pure (Ty.slice (Ty.int IntKind.i64)) p1, CV.bool p2, CV.bool p3, CV.int IntKind.i64 p4, CV.junk, CV.junk, CV.junk, CV.junk, CV.junk, CV.junk, CV.junk, CV.junk, CV.junk, CV.junk, CV.junk, CV.junk, CV.junk, CV.junk, CV.junk, CV.junk, CV.int IntKind.i64 p5, CV.int IntKind.i64 p6, CV.junk, CV.junk, CV.junk, CV.junk, CV.junk, CV.junk, CV.junk, CV.junk, CV.junk, CV.junk, CV.junk, CV.junk, CV.junk, CV.junk, CV.junk, CV.junk, CV.junk, CV.junk, CV.junk, CV.junk, CV.junk, CV.junk, CV.junk, CV.junk, CV.junk, CV.junk, CV.junk, CV.junk, CV.junk, CV.junk, CV.junk, CV.junk, CV.junk, CV.junk, CV.junk, CV.junk, CV.junk, CV.junk, CV.junk, CV.junk, CV.junk, CV.junk, CV.junk, CV.junk, CV.junk, CV.junk, CV.junk, CV.junk, CV.junk, CV.junk, CV.junk, CV.junk, CV.junk, CV.junk, CV.junk, CV.junk, CV.junk, CV.junk, CV.junk, CV.junk, CV.junk, CV.junk, CV.junk, CV.junk, CV.junk, CV.junk, CV.junk, CV.junk, CV.junk, CV.junk, CV.junk, CV.junk, CV.junk, CV.junk, CV.junk, CV.junk, CV.junk, CV.junk, CV.junk, CV.junk, CV.junk, CV.junk, CV.junk, CV.junk, CV.junk, CV.junk, CV.junk] [Blk.mem (CV.pure (Ty.arr (32 : Nat) (Ty.int IntKind.u8)) p7), Blk.mem (CV.pure (Ty.arr (32 : Nat) (Ty.int IntKind.u8)) p8)] (0 : Nat)
def X_4_0_0 : St := St.mk [CV.junk, CV.junk, CV.junk, CV.junk, CV.bool false, CV.junk, CV.junk, CV.junk, CV.junk, CV.junk, CV.junk, CV.junk, CV.junk, CV.junk, CV.junk, CV.junk, CV.junk, CV.junk, CV.junk, CV.junk, CV.junk, CV.junk, CV.junk, CV.junk, CV.junk, CV.junk, CV.junk, CV.junk, CV.junk, CV.junk, CV.junk, CV.junk, CV.junk, CV.junk, CV.junk, CV.junk, CV.junk, CV.junk, CV.junk, CV.junk, CV.junk, CV.junk, CV.junk, CV.junk, CV.junk, CV.junk, CV.junk, CV.junk, CV.junk, CV.junk, CV.junk, CV.junk, CV.junk, CV.junk, CV.junk, CV.junk, CV.junk, CV.junk, CV.junk, CV.junk, CV.junk, CV.junk, CV.junk, CV.junk, CV.junk, CV.junk, CV.junk, CV.junk, CV.junk, CV.junk, CV.junk, CV.junk, CV.junk, CV.junk, CV.junk, CV.junk, CV.junk, CV.junk, CV.junk, CV.junk, CV.junk, CV.junk, CV.junk, CV.junk, CV.junk, CV.junk, CV.junk, CV.junk, CV.junk, CV.junk, CV.junk, CV.junk, CV.junk, CV.junk, CV.junk, CV.junk, CV.junk, CV.junk, CV.junk, CV.junk, CV.junk, CV.junk, CV.junk, CV.junk, CV.junk, CV.junk, CV.junk, CV.junk, CV.junk, CV.junk, CV.junk, CV.junk, CV.junk, CV.junk, CV.junk] [] (0 : Nat)
def X_4_0_1 (p0 : List Int) (p2 : Bool) (p3 : Bool) (p4 : Int) (p7 : List Int) (p8 : List Int) : St := St.mk [CV.junk, CV.junk, CV.ptr (0 : Nat) [], CV.ptr (1 : Nat) [], CV.junk, CV.pure (Ty.slice (Ty.int IntKind.i64)) p0, CV.junk, CV.bool p2, CV.bool p3, CV.int IntKind.i64 p4, CV.junk, CV.junk, CV.junk, CV.junk, CV.junk, CV.junk, CV.junk, CV.junk, CV.junk, CV.junk, CV.junk, CV.junk, CV.junk, CV.junk, CV.junk, CV.junk, CV.junk, CV.junk, CV.junk, CV.junk, CV.junk, CV.junk, CV.junk, CV.junk, CV.junk, CV.junk, CV.junk, CV.junk, CV.junk, CV.junk, CV.junk, CV.junk, CV.junk, CV.junk, CV.junk, CV.junk, CV.junk, CV.junk, CV.junk, CV.junk, CV.junk, CV.junk, CV.junk, CV.junk, CV.junk, CV.junk, CV.junk, CV.junk, CV.junk, CV.junk, CV.junk, CV.junk, CV.junk, CV.junk, CV.junk, CV.junk, CV.junk, CV.junk, CV.junk, CV.junk, CV.junk, CV.junk, CV.junk, CV.junk, CV.junk, CV.junk, CV.junk, CV.junk, CV.junk, CV.junk, CV.junk, CV.junk, CV.junk, CV.junk, CV.junk, CV.junk, CV.junk, CV.junk, CV.junk, CV.junk, CV.junk, CV.junk, CV.junk, CV.junk, CV.junk, CV.junk, CV.junk, CV.junk, CV.junk, CV.junk, CV.junk, CV.junk, CV.junk, CV.junk, CV.junk, CV.junk, CV.junk, CV.junk, CV.junk, CV.junk, CV.junk, CV.junk, CV.junk, CV.junk, CV.junk] [Blk.mem (CV.pure (Ty.arr (32 : Nat) (Ty.int IntKind.u8)) p7), Blk.mem (CV.pure (Ty.arr (32 : Nat) (Ty.int IntKind.u8)) p8)] (0 : Nat)
inductive Sp.E_4_0 where
  | e0
  | e1 (p0 : List Int) (p2 : Bool) (p3 : Bool) (p4 : Int) (p7 : List Int) (p8 : List Int)
def Sp.B_4_0 {R : Type} (r : Option Sp.E_4_0) (k0 : Option R) (k1 : (List Int) → (Bool) → (Bool) → (Int) → (List Int) → (List Int) → Option R) : Option R := match r with
  | none => none
  | some (.e0) => k0
  | some (.e1 p0 p2 p3 p4 p7 p8) => k1 p0 p2 p3 p4 p7 p8
def Sp.L_4_0 : Nat → (List Int) → (List Int) → (Bool) → (Bool) → (Int) → (Int) → (Int) → (List Int) → (List Int) → Option Sp.E_4_0
  | 0, _, _, _, _, _, _, _, _, _ => none
  | m + 1, p0, p1, p2, p3, p4, p5, p6, p7, p8 => bif decide (p6 < p5) then gd (inB p6 (List.length p0)) (bif decide (List.getD p0 (Int.toNat p6) (0 : Int) < (0 : Int)) then some (Sp.E_4_0.e0) else gd (inB p6 (List.length p0)) (bif decide (List.getD p0 (Int.toNat p6) (0 : Int) > (15 : Int)) then some (Sp.E_4_0.e0) else bif p2 then bif p3 then bif decide (p6 < (64 : Int)) then gd (inB p6 (List.length p0)) (Sp.L_4_0 m p0 p1 true true (IntKind.wrap IntKind.i64 (p4 + IntKind.wrap IntKind.i64 ((15 : Int) - List.getD p0 (Int.toNat p6) (0 : Int)))) p5 (IntKind.wrap IntKind.i64 (p6 + (1 : Int))) p7 p8) else Sp.L_4_0 m p0 p1 true true p4 p5 (IntKind.wrap IntKind.i64 (p6 + (1 : Int))) p7 p8 else gd (inB p6 (List.length p0)) (gd (inB p6 (List.length p1)) (bif decide (p6 < (64 : Int)) then gd (inB p6 (List.length p0)) (Sp.L_4_0 m p0 p1 true (decide (List.getD p0 (Int.toNat p6) (0 : Int) > List.getD p1 (Int.toNat p6) (0 : Int))) (IntKind.wrap IntKind.i64 (p4 + IntKind.wrap IntKind.i64 ((15 : Int) - List.getD p0 (Int.toNat p6) (0 : Int)))) p5 (IntKind.wrap IntKind.i64 (p6 + (1 : Int))) p7 p8) else Sp.L_4_0 m p0 p1 true (decide (List.getD p0 (Int.toNat p6) (0 : Int) > List.getD p1 (Int.toNat p6) (0 : Int))) p4 p5 (IntKind.wrap IntKind.i64 (p6 + (1 : Int))) p7 p8)) else gd (inB p6 (List.length p0)) (gd (inB p6 (List.length p1)) (bif p3 then bif decide (p6 < (64 : Int)) then gd (inB p6 (List.length p0)) (Sp.L_4_0 m p0 p1 (decide (List.getD p0 (Int.toNat p6) (0 : Int) < List.getD p1 (Int.toNat p6) (0 : Int))) true (IntKind.wrap IntKind.i64 (p4 + IntKind.wrap IntKind.i64 ((15 : Int) - List.getD p0 (Int.toNat p6) (0 : Int)))) p5 (IntKind.wrap IntKind.i64 (p6 + (1 : Int))) p7 p8) else Sp.L_4_0 m p0 p1 (decide (List.getD p0 (Int.toNat p6) (0 : Int) < List.getD p1 (Int.toNat p6) (0 : Int))) true p4 p5 (IntKind.wrap IntKind.i64 (p6 + (1 : Int))) p7 p8 else gd (inB p6 (List.length p0)) (gd (inB p6 (List.length p1)) (bif decide (p6 < (64 : Int)) then gd (inB p6 (List.length p0)) (Sp.L_4_0 m p0 p1 (decide (List.getD p0 (Int.toNat p6) (0 : Int) < List.getD p1 (Int.toNat p6) (0 : Int))) (decide (List.getD p0 (Int.toNat p6) (0 : Int) > List.getD p1 (Int.toNat p6) (0 : Int))) (IntKind.wrap IntKind.i64 (p4 + IntKind.wrap IntKind.i64 ((15 : Int) - List.getD p0 (Int.toNat p6) (0 : Int)))) p5 (IntKind.wrap IntKind.i64 (p6 + (1 : Int))) p7 p8) else Sp.L_4_0 m p0 p1 (decide (List.getD p0 (Int.toNat p6) (0 : Int) < List.getD p1 (Int.toNat p6) (0 : Int))) (decide (List.getD p0 (Int.toNat p6) (0 : Int) > List.getD p1 (Int.toNat p6) (0 : Int))) p4 p5 (IntKind.wrap IntKind.i64 (p6 + (1 : Int))) p7 p8)))))) else some (Sp.E_4_0.e1 p0 p2 p3 p4 p7 p8)
def G_4_0 {R : Type} (p0 : List Int) (p1 : List Int) (p2 : Bool) (p3 : Bool) (p4 : Int) (p5 : Int) (p6 : Int) (p7 : List Int) (p8 : List Int) (k : Ex → St → Option R) : Option R := Sp.B_4_0 (Sp.L_4_0 FU p0 p1 p2 p3 p4 p5 p6 p7 p8) (k Ex.ret (X_4_0_0)) (fun p0 p2 p3 p4 p7 p8 => k (Ex.exit (0 : Nat)) (X_4_0_1 p0 p2 p3 p4 p7 p8))
def o_4_0 {R : Type} (G : (List Int) → (List Int) → (Bool) → (Bool) → (Int) → (Int) → (Int) → (List Int) → (List Int) → (Ex → St → Option R) → Option R) : St → (Ex → St → Option R) → Option R := fun T k => match T.sl.getD 2 .junk, T.sl.getD 3 .junk, T.sl.getD 5 .junk, T.sl.getD 6 .junk, T.sl.getD 7 .junk, T.sl.getD 8 .junk, T.sl.getD 9 .junk, T.sl.getD 26 .junk, T.sl.getD 27 .junk, T.hp with
  | CV.ptr (0 : Nat) [], CV.ptr (1 : Nat) [], CV.pure (Ty.slice (Ty.int IntKind.i64)) p0, CV.pure (Ty.slice (Ty.int IntKind.i64)) p1, CV.bool p2, CV.bool p3, CV.int IntKind.i64 p4, CV.int IntKind.i64 p5, CV.int IntKind.i64 p6, ((Blk.mem (CV.pure (Ty.arr (32 : Nat) (Ty.int IntKind.u8)) p7)) :: (Blk.mem (CV.pure (Ty.arr (32 : Nat) (Ty.int IntKind.u8)) p8)) :: []) => gd (shapeOK T 115 [2, 3, 5, 6, 7, 8, 9, 26, 27] (0 : Nat)) (G p0 p1 p2 p3 p4 p5 p6 p7 p8 k)
  | _, _, _, _, _, _, _, _, _, _ => none
theorem o_4_0_inv {R : Type} {G : (List Int) → (List Int) → (Bool) → (Bool) → (Int) → (Int) → (Int) → (List Int) → (List Int) → (Ex → St → Option R) → Option R} {T : St} {k : Ex → St → Option R} {r : R} (h : o_4_0 G T k = some r) : ∃ p0 p1 p2 p3 p4 p5 p6 p7 p8, T = T_4_0 p0 p1 p2 p3 p4 p5 p6 p7 p8 ∧ G p0 p1 p2 p3 p4 p5 p6 p7 p8 k = some r := by
  unfold o_4_0 at h
  split at h
  · obtain ⟨hs, h'⟩ := gd_some h
    refine ⟨_, _, _, _, _, _, _, _, _, (st_of (asg := [(2, _), (3, _), (5, _), (6, _), (7, _), (8, _), (9, _), (26, _), (27, _)]) hs ⟨by assumption, by assumption, by assumption, by assumption, by assumption, by assumption, by assumption, by assumption, by assumption, trivial⟩ (by assumption)).trans ?_, h'⟩
    kernel_rfl
  · cases h
def O_4_4_0 {R : Type} : St → (Ex → St → Option R) → Option R := fun T k => o_4_0 G_4_0 T k
theorem body_4_0 {R : Type} (K0 : St → Option R) (K1 : Ex → St → Option R) (p0 : List Int) (p1 : List Int) (p2 : Bool) (p3 : Bool) (p4 : Int) (p5 : Int) (p6 : Int) (p7 : List Int) (p8 : List Int) : evLB (evCodeL sm_4 FU (ovr noO (evFn sm_4 fns FU 0)) .nil ir4_b0) (St.norm ir4_v0) (T_4_0 p0 p1 p2 p3 p4 p5 p6 p7 p8) K0 K1 =
  bif decide (p6 < p5) then gd (inB p6 (List.length p0)) (bif decide (List.getD p0 (Int.toNat p6) (0 : Int) < (0 : Int)) then K1 Ex.ret X_4_0_0 else gd (inB p6 (List.length p0)) (bif decide (List.getD p0 (Int.toNat p6) (0 : Int) > (15 : Int)) then K1 Ex.ret X_4_0_0 else bif p2 then bif p3 then bif decide (p6 < (64 : Int)) then gd (inB p6 (List.length p0)) (K0 (T_4_0 p0 p1 true true (IntKind.wrap IntKind.i64 (p4 + IntKind.wrap IntKind.i64 ((15 : Int) - List.getD p0 (Int.toNat p6) (0 : Int)))) p5 (IntKind.wrap IntKind.i64 (p6 + (1 : Int))) p7 p8)) else K0 (T_4_0 p0 p1 true true p4 p5 (IntKind.wrap IntKind.i64 (p6 + (1 : Int))) p7 p8) else gd (inB p6 (List.length p0)) (gd (inB p6 (List.length p1)) (bif decide (p6 < (64 : Int)) then gd (inB p6 (List.length p0)) (K0 (T_4_0 p0 p1 true (decide (List.getD p0 (Int.toNat p6) (0 : Int) > List.getD p1 (Int.toNat p6) (0 : Int))) (IntKind.wrap IntKind.i64 (p4 + IntKind.wrap IntKind.i64 ((15 : Int) - List.getD p0 (Int.toNat p6) (0 : Int)))) p5 (IntKind.wrap IntKind.i64 (p6 + (1 : Int))) p7 p8)) else K0 (T_4_0 p0 p1 true (decide (List.getD p0 (Int.toNat p6) (0 : Int) > List.getD p1 (Int.toNat p6) (0 : Int))) p4 p5 (IntKind.wrap IntKind.i64 (p6 + (1 : Int))) p7 p8))) else gd (inB p6 (List.length p0)) (gd (inB p6 (List.length p1)) (bif p3 then bif decide (p6 < (64 : Int)) then gd (inB p6 (List.length p0)) (K0 (T_4_0 p0 p1 (decide (List.getD p0 (Int.toNat p6) (0 : Int) < List.getD p1 (Int.toNat p6) (0 : Int))) true (IntKind.wrap IntKind.i64 (p4 + IntKind.wrap IntKind.i64 ((15 : Int) - List.getD p0 (Int.toNat p6) (0 : Int)))) p5 (IntKind.wrap IntKind.i64 (p6 + (1 : Int))) p7 p8)) else K0 (T_4_0 p0 p1 (decide (List.getD p0 (Int.toNat p6) (0 : Int) < List.getD p1 (Int.toNat p6) (0 : Int))) true p4 p5 (IntKind.wrap IntKind.i64 (p6 + (1 : Int))) p7 p8) else gd (inB p6 (List.length p0)) (gd (inB p6 (List.length p1)) (bif decide (p6 < (64 : Int)) then gd (inB p6 (List.length p0)) (K0 (T_4_0 p0 p1 (decide (List.getD p0 (Int.toNat p6) (0 : Int) < List.getD p1 (Int.toNat p6) (0 : Int))) (decide (List.getD p0 (Int.toNat p6) (0 : Int) > List.getD p1 (Int.toNat p6) (0 : Int))) (IntKind.wrap IntKind.i64 (p4 + IntKind.wrap IntKind.i64 ((15 : Int) - List.getD p0 (Int.toNat p6) (0 : Int)))) p5 (IntKind.wrap IntKind.i64 (p6 + (1 : Int))) p7 p8)) else K0 (T_4_0 p0 p1 (decide (List.getD p0 (Int.toNat p6) (0 : Int) < List.getD p1 (Int.toNat p6) (0 : Int))) (decide (List.getD p0 (Int.toNat p6) (0 : Int) > List.getD p1 (Int.toNat p6) (0 : Int))) p4 p5 (IntKind.wrap IntKind.i64 (p6 + (1 : Int))) p7 p8))))))) else K1 (Ex.exit (0 : Nat)) (X_4_0_1 p0 p2 p3 p4 p7 p8) := by kernel_rfl
theorem Bgd_4_0 {R : Type} {c : Bool} {x : Option R} {y : Option Sp.E_4_0} {k0 : Option R} {k1 : (List Int) → (Bool) → (Bool) → (Int) → (List Int) → (List Int) → Option R} (h : x = Sp.B_4_0 y k0 k1) : gd c x = Sp.B_4_0 (gd c y) k0 k1 := by cases c; rfl; exact h
theorem Bcond_4_0 {R : Type} {c : Bool} {x x' : Option R} {y y' : Option Sp.E_4_0} {k0 : Option R} {k1 : (List Int) → (Bool) → (Bool) → (Int) → (List Int) → (List Int) → Option R} (h : x = Sp.B_4_0 y k0 k1) (h' : x' = Sp.B_4_0 y' k0 k1) : (bif c then x else x') = Sp.B_4_0 (bif c then y else y') k0 k1 := by cases c; exact h'; exact h
theorem loop_4_0 {R : Type} (k : Ex → St → Option R) : ∀ (m : Nat) (p0 : List Int) (p1 : List Int) (p2 : Bool) (p3 : Bool) (p4 : Int) (p5 : Int) (p6 : Int) (p7 : List Int) (p8 : List Int), evLoopN (evCodeL sm_4 FU (ovr noO (evFn sm_4 fns FU 0)) .nil ir4_b0) (St.norm ir4_v0) m (T_4_0 p0 p1 p2 p3 p4 p5 p6 p7 p8) k = Sp.B_4_0 (Sp.L_4_0 m p0 p1 p2 p3 p4 p5 p6 p7 p8) (k Ex.ret (X_4_0_0)) (fun p0 p2 p3 p4 p7 p8 => k (Ex.exit (0 : Nat)) (X_4_0_1 p0 p2 p3 p4 p7 p8))
  | 0, _, _, _, _, _, _, _, _, _ => rfl
  | m + 1, p0, p1, p2, p3, p4, p5, p6, p7, p8 => by
    rw [evLoopN_succ, body_4_0, Sp.L_4_0]
    repeat' first | apply Bgd_4_0 | apply Bcond_4_0 | exact loop_4_0 k m _ _ _ _ _ _ _ _ _ | rfl
theorem ok_4_0 {R : Type} (T : St) (k : Ex → St → Option R) (r : R) (h0 : o_4_0 G_4_0 T k = some r) : evLoopN (evCode sm_4 FU (evFn sm_4 fns FU 0) ir4_b0) (St.norm ir4_v0) FU T k = some r := by
  obtain ⟨p0, p1, p2, p3, p4, p5, p6, p7, p8, rfl, h⟩ := o_4_0_inv h0
  refine evLoopN_L (t := .nil) noO_ok trivial _ _ _ _ ?_
  rw [loop_4_0]
  exact h
theorem OK_4_4_0 {R : Type} (T : St) (k : Ex → St → Option R) (r : R) (h : O_4_4_0 T k = some r) : evLoopN (evCode sm_4 FU (evFn sm_4 fns FU 0) ir4_b0) (St.norm ir4_v0) FU T k = some r := ok_4_0 T k r h
def F_4 (a0 : (List Int)) (a1 : (List Int)) : Option (Bool) :=
  gd Sp.p_10 (bif !Prod.fst Sp.v_10 then some false else gd (Sp.p_13 a0) (gd (Sp.p_13 a1) (bif (↑(List.length (Prod.fst (Sp.v_13 a0))) : Int) != (67 : Int) then some false else bif (↑(List.length (Prod.fst (Sp.v_13 a1))) : Int) != (67 : Int) then some false else Sp.B_4_0 (Sp.L_4_0 (4611686018427387904 : Nat) (Prod.fst (Sp.v_13 a0)) (Prod.fst (Sp.v_13 a1)) false false (0 : Int) (↑(List.length (Prod.fst (Sp.v_13 a0))) : Int) (0 : Int) a0 a1) (some false) fun (y6 : List Int) (y7 y8 : Bool) (y9 : Int) (y10 y11 : List Int) => gd (inB (64 : Int) (List.length y6)) (gd (inB (65 : Int) (List.length y6)) (gd (inB (66 : Int) (List.length y6)) (bif y9 == IntKind.wrap IntKind.i64 (IntKind.wrap IntKind.i64 (IntKind.wrap IntKind.i64 ((256 : Int) * List.getD y6 (64 : Nat) (0 : Int)) + IntKind.wrap IntKind.i64 ((16 : Int) * List.getD y6 (65 : Nat) (0 : Int))) + List.getD y6 (66 : Nat) (0 : Int)) then bif Ty.beq (Ty.arr (32 : Nat) (Ty.int IntKind.u8)) y10 y11 then bif !y7 then bif !y8 then some true else bif !Ty.beq (Ty.arr (32 : Nat) (Ty.int IntKind.u8)) y10 y11 then bif y7 then some y8 else some false else some false else bif !Ty.beq (Ty.arr (32 : Nat) (Ty.int IntKind.u8)) y10 y11 then bif y7 then some y8 else some false else some false else bif !Ty.beq (Ty.arr (32 : Nat) (Ty.int IntKind.u8)) y10 y11 then bif y7 then some y8 else some false else some false else some false))))))
theorem fn_4 (a0 : (List Int)) (a1 : (List Int)) : evFnL sm_4 FU (ovr noO (evFn sm_4 fns FU 0)) (ir4_t O_4_4_0) ir4 (ofH [(.arr 32 (.int .u8)), (.arr 32 (.int .u8))] (a0, a1, ())) [] bk = F_4 a0 a1 := by kernel_rfl
theorem run_4 (a0 : (List Int)) (a1 : (List Int)) {b : Bool} (h : F_4 a0 a1 = some b) : evFn sm_4 fns FU 1 4 (ofH [(.arr 32 (.int .u8)), (.arr 32 (.int .u8))] (a0, a1, ())) [] bk = some b :=
  evFnL_sound (fn := ir4) (t := (ir4_t O_4_4_0)) (o := noO) rfl noO_ok (ir4_tok (fun T k r => OK_4_4_0 T k r)) ((fn_4 _ _).trans h)
end
end Go.Ev
namespace Go.Proofs
open Go.Shelf
end Go.Proofs
namespace Go.Ev
open Go Go.Proofs Go.RowKit
set_option maxRecDepth 100000
set_option maxHeartbeats 4000000
def smB : Nat → Bool := fun f => [10, 11, 12, 13, 14, 15, 16, 17, 18, 19, 20, 21, 22, 23, 24, 25, 26, 27, 28, 29, 30, 31, 32, 35, 36, 37, 38, 39, 40, 41, 42, 43, 44, 45, 46, 47, 48, 49, 50, 51, 52].contains f
theorem hm0 : Try.prog.follows .mixedOrders = true := by kernel_rfl
theorem key3 : fnKey Try.prog smB 3 = ir3.key := by kernel_rfl
theorem key4 : fnKey Try.prog smB 4 = ir4.key := by kernel_rfl
theorem key5 : fnKey Try.prog smB 5 = ir5.key := by kernel_rfl
theorem key6 : fnKey Try.prog smB 6 = ir6.key := by kernel_rfl
theorem key7 : fnKey Try.prog smB 7 = ir7.key := by kernel_rfl
theorem key8 : fnKey Try.prog smB 8 = ir8.key := by kernel_rfl
theorem key9 : fnKey Try.prog smB 9 = ir9.key := by kernel_rfl
theorem key10 : fnKey Try.prog smB 10 = ir10.key := by kernel_rfl
theorem key11 : fnKey Try.prog smB 11 = ir11.key := by kernel_rfl
theorem key12 : fnKey Try.prog smB 12 = ir12.key := by kernel_rfl
theorem key13 : fnKey Try.prog smB 13 = ir13.key := by kernel_rfl
theorem key14 : fnKey Try.prog smB 14 = ir14.key := by kernel_rfl
theorem key15 : fnKey Try.prog smB 15 = ir15.key := by kernel_rfl
theorem key16 : fnKey Try.prog smB 16 = ir16.key := by kernel_rfl
theorem key17 : fnKey Try.prog smB 17 = ir17.key := by kernel_rfl
theorem key18 : fnKey Try.prog smB 18 = ir18.key := by kernel_rfl
theorem key19 : fnKey Try.prog smB 19 = ir19.key := by kernel_rfl
theorem key20 : fnKey Try.prog smB 20 = ir20.key := by kernel_rfl
theorem key21 : fnKey Try.prog smB 21 = ir21.key := by kernel_rfl
theorem key22 : fnKey Try.prog smB 22 = ir22.key := by kernel_rfl
theorem key23 : fnKey Try.prog smB 23 = ir23.key := by kernel_rfl
theorem key24 : fnKey Try.prog smB 24 = ir24.key := by kernel_rfl
theorem key25 : fnKey Try.prog smB 25 = ir25.key := by kernel_rfl
theorem key26 : fnKey Try.prog smB 26 = ir26.key := by kernel_rfl
theorem key27 : fnKey Try.prog smB 27 = ir27.key := by kernel_rfl
theorem key28 : fnKey Try.prog smB 28 = ir28.key := by kernel_rfl
theorem key29 : fnKey Try.prog smB 29 = ir29.key := by kernel_rfl
theorem key30 : fnKey Try.prog smB 30 = ir30.key := by kernel_rfl
theorem key31 : fnKey Try.prog smB 31 = ir31.key := by kernel_rfl
theorem key32 : fnKey Try.prog smB 32 = ir32.key := by kernel_rfl
theorem key33 : fnKey Try.prog smB 33 = ir33.key := by kernel_rfl
theorem key34 : fnKey Try.prog smB 34 = ir34.key := by kernel_rfl
theorem key35 : fnKey Try.prog smB 35 = ir35.key := by kernel_rfl
theorem key36 : fnKey Try.prog smB 36 = ir36.key := by kernel_rfl
theorem key37 : fnKey Try.prog smB 37 = ir37.key := by kernel_rfl
theorem key38 : fnKey Try.prog smB 38 = ir38.key := by kernel_rfl
theorem key39 : fnKey Try.prog smB 39 = ir39.key := by kernel_rfl
theorem key40 : fnKey Try.prog smB 40 = ir40.key := by kernel_rfl
theorem key41 : fnKey Try.prog smB 41 = ir41.key := by kernel_rfl
theorem key42 : fnKey Try.prog smB 42 = ir42.key := by kernel_rfl
theorem key43 : fnKey Try.prog smB 43 = ir43.key := by kernel_rfl
theorem key44 : fnKey Try.prog smB 44 = ir44.key := by kernel_rfl
theorem key45 : fnKey Try.prog smB 45 = ir45.key := by kernel_rfl
theorem key46 : fnKey Try.prog smB 46 = ir46.key := by kernel_rfl
theorem key47 : fnKey Try.prog smB 47 = ir47.key := by kernel_rfl
theorem key48 : fnKey Try.prog smB 48 = ir48.key := by kernel_rfl
theorem key49 : fnKey Try.prog smB 49 = ir49.key := by kernel_rfl
theorem key50 : fnKey Try.prog smB 50 = ir50.key := by kernel_rfl
theorem key51 : fnKey Try.prog smB 51 = ir51.key := by kernel_rfl
theorem key52 : fnKey Try.prog smB 52 = ir52.key := by kernel_rfl
theorem fns_ok : FnsOK Try.prog smB fns := by
  intro f fn h
  unfold fns at h
  split at h
  · simp only [Option.some.injEq] at h; subst h; exact key3
  · simp only [Option.some.injEq] at h; subst h; exact key4
  · simp only [Option.some.injEq] at h; subst h; exact key5
  · simp only [Option.some.injEq] at h; subst h; exact key6
  · simp only [Option.some.injEq] at h; subst h; exact key7
  · simp only [Option.some.injEq] at h; subst h; exact key8
  · simp only [Option.some.injEq] at h; subst h; exact key9
  · simp only [Option.some.injEq] at h; subst h; exact key10
  · simp only [Option.some.injEq] at h; subst h; exact key11
  · simp only [Option.some.injEq] at h; subst h; exact key12
  · simp only [Option.some.injEq] at h; subst h; exact key13
  · simp only [Option.some.injEq] at h; subst h; exact key14
  · simp only [Option.some.injEq] at h; subst h; exact key15
  · simp only [Option.some.injEq] at h; subst h; exact key16
  · simp only [Option.some.injEq] at h; subst h; exact key17
  · simp only [Option.some.injEq] at h; subst h; exact key18
  · simp only [Option.some.injEq] at h; subst h; exact key19
  · simp only [Option.some.injEq] at h; subst h; exact key20
  · simp only [Option.some.injEq] at h; subst h; exact key21
  · simp only [Option.some.injEq] at h; subst h; exact key22
  · simp only [Option.some.injEq] at h; subst h; exact key23
  · simp only [Option.some.injEq] at h; subst h; exact key24
  · simp only [Option.some.injEq] at h; subst h; exact key25
  · simp only [Option.some.injEq] at h; subst h; exact key26
  · simp only [Option.some.injEq] at h; subst h; exact key27
  · simp only [Option.some.injEq] at h; subst h; exact key28
  · simp only [Option.some.injEq] at h; subst h; exact key29
  · simp only [Option.some.injEq] at h; subst h; exact key30
  · simp only [Option.some.injEq] at h; subst h; exact key31
  · simp only [Option.some.injEq] at h; subst h; exact key32
  · simp only [Option.some.injEq] at h; subst h; exact key33
  · simp only [Option.some.injEq] at h; subst h; exact key34
  · simp only [Option.some.injEq] at h; subst h; exact key35
  · simp only [Option.some.injEq] at h; subst h; exact key36
  · simp only [Option.some.injEq] at h; subst h; exact key37
  · simp only [Option.some.injEq] at h; subst h; exact key38
  · simp only [Option.some.injEq] at h; subst h; exact key39
  · simp only [Option.some.injEq] at h; subst h; exact key40
  · simp only [Option.some.injEq] at h; subst h; exact key41
  · simp only [Option.some.injEq] at h; subst h; exact key42
  · simp only [Option.some.injEq] at h; subst h; exact key43
  · simp only [Option.some.injEq] at h; subst h; exact key44
  · simp only [Option.some.injEq] at h; subst h; exact key45
  · simp only [Option.some.injEq] at h; subst h; exact key46
  · simp only [Option.some.injEq] at h; subst h; exact key47
  · simp only [Option.some.injEq] at h; subst h; exact key48
  · simp only [Option.some.injEq] at h; subst h; exact key49
  · simp only [Option.some.injEq] at h; subst h; exact key50
  · simp only [Option.some.injEq] at h; subst h; exact key51
  · simp only [Option.some.injEq] at h; subst h; exact key52
  · cases h
theorem smok_32 : ∀ f s, sm_32 f = some s → SummOK Try.prog f s := by
  intro f s h
  unfold sm_32 at h
  cases h
theorem call_32 {R : Type} (n base : Nat) : CallOK Try.prog base (evFn (R := R) sm_32 fns FU n) := ev_sound hm0 smok_32 (fun f s h => (smok_32 f s h).2.1) fns_ok n
theorem sok_32 : SummOK Try.prog 32 s_32 := summ_shN (by decide) (fun _ => rfl) (fun _ => rfl) (call_32 1) (by kernel_rfl) run_32
theorem smok_47 : ∀ f s, sm_47 f = some s → SummOK Try.prog f s := by
  intro f s h
  unfold sm_47 at h
  cases h
theorem call_47 {R : Type} (n base : Nat) : CallOK Try.prog base (evFn (R := R) sm_47 fns FU n) := ev_sound hm0 smok_47 (fun f s h => (smok_47 f s h).2.1) fns_ok n
theorem sok_47 : SummOK Try.prog 47 s_47 := summ_shN (by decide) (fun _ => rfl) (fun _ => rfl) (call_47 1) (by kernel_rfl) run_47
theorem smok_52 : ∀ f s, sm_52 f = some s → SummOK Try.prog f s := by
  intro f s h
  unfold sm_52 at h
  cases h
theorem call_52 {R : Type} (n base : Nat) : CallOK Try.prog base (evFn (R := R) sm_52 fns FU n) := ev_sound hm0 smok_52 (fun f s h => (smok_52 f s h).2.1) fns_ok n
theorem sok_52 : SummOK Try.prog 52 s_52 := summ_shN (by decide) (fun _ => rfl) (fun _ => rfl) (call_52 1) (by kernel_rfl) run_52
theorem smok_49 : ∀ f s, sm_49 f = some s → SummOK Try.prog f s := by
  intro f s h
  unfold sm_49 at h
  by_cases h52 : f = 52
  · subst h52
    injection h with h
    subst h
    exact sok_52
  rw [nbeq_ne h52, cond_false] at h
  cases h
theorem call_49 {R : Type} (n base : Nat) : CallOK Try.prog base (evFn (R := R) sm_49 fns FU n) := ev_sound hm0 smok_49 (fun f s h => (smok_49 f s h).2.1) fns_ok n
theorem sok_49 : SummOK Try.prog 49 s_49 := summ_shN (by decide) (fun _ => rfl) (fun _ => rfl) (call_49 1) (by kernel_rfl) run_49
theorem smok_11 : ∀ f s, sm_11 f = some s → SummOK Try.prog f s := by
  intro f s h
  unfold sm_11 at h
  by_cases h32 : f = 32
  · subst h32
    injection h with h
    subst h
    exact sok_32
  rw [nbeq_ne h32, cond_false] at h
  by_cases h47 : f = 47
  · subst h47
    injection h with h
    subst h
    exact sok_47
  rw [nbeq_ne h47, cond_false] at h
  by_cases h49 : f = 49
  · subst h49
    injection h with h
    subst h
    exact sok_49
  rw [nbeq_ne h49, cond_false] at h
  cases h
theorem call_11 {R : Type} (n base : Nat) : CallOK Try.prog base (evFn (R := R) sm_11 fns FU n) := ev_sound hm0 smok_11 (fun f s h => (smok_11 f s h).2.1) fns_ok n
theorem sok_11 : SummOK Try.prog 11 s_11 := summ_shN (by decide) (fun _ => rfl) (fun _ => rfl) (call_11 2) (by kernel_rfl) run_11
theorem smok_13 : ∀ f s, sm_13 f = some s → SummOK Try.prog f s := by
  intro f s h
  unfold sm_13 at h
  cases h
theorem call_13 {R : Type} (n base : Nat) : CallOK Try.prog base (evFn (R := R) sm_13 fns FU n) := ev_sound hm0 smok_13 (fun f s h => (smok_13 f s h).2.1) fns_ok n
theorem sok_13 : SummOK Try.prog 13 s_13 := summ_sh (fun _ => rfl) (fun _ => rfl) (call_13 1) (by kernel_rfl) run_13
theorem smok_10 : ∀ f s, sm_10 f = some s → SummOK Try.prog f s := by
  intro f s h
  unfold sm_10 at h
  by_cases h11 : f = 11
  · subst h11
    injection h with h
    subst h
    exact sok_11
  rw [nbeq_ne h11, cond_false] at h
  by_cases h13 : f = 13
  · subst h13
    injection h with h
    subst h
    exact sok_13
  rw [nbeq_ne h13, cond_false] at h
  cases h
theorem call_10 {R : Type} (n base : Nat) : CallOK Try.prog base (evFn (R := R) sm_10 fns FU n) := ev_sound hm0 smok_10 (fun f s h => (smok_10 f s h).2.1) fns_ok n
theorem sok_10 : SummOK Try.prog 10 s_10 := summ_shN (by decide) (fun _ => rfl) (fun _ => rfl) (call_10 1) (by kernel_rfl) run_10
theorem smok_4 : ∀ f s, sm_4 f = some s → SummOK Try.prog f s := by
  intro f s h
  unfold sm_4 at h
  by_cases h10 : f = 10
  · subst h10
    injection h with h
    subst h
    exact sok_10
  rw [nbeq_ne h10, cond_false] at h
  by_cases h13 : f = 13
  · subst h13
    injection h with h
    subst h
    exact sok_13
  rw [nbeq_ne h13, cond_false] at h
  cases h
theorem call_4 {R : Type} (n base : Nat) : CallOK Try.prog base (evFn (R := R) sm_4 fns FU n) := ev_sound hm0 smok_4 (fun f s h => (smok_4 f s h).2.1) fns_ok n
end Go.Ev
