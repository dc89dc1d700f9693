/- Helpers: functions of the program as Lean functions, and what they compute. No condition. -/
import Derived.Test.YtpelnohiecgbgaaEvPart1
import Derived.Test.YtpelnohiecgbgaaEvPart2
import Derived.Test.YtpelnohiecgbgaaG7P0
set_option maxRecDepth 10000
set_option linter.unusedVariables false
set_option linter.unusedSimpArgs false
namespace Go.Ev
open Go
set_option maxRecDepth 100000
set_option maxHeartbeats 4000000
set_option linter.unusedVariables false
noncomputable section

def sm_11 : Nat → Option Summ := fun f => bif Nat.beq f 32 then some s_32 else bif Nat.beq f 47 then some s_47 else bif Nat.beq f 49 then some s_49 else none
def T_11_33_0_0 (p0 : List Int) (p1 : Int) (p2 : List Int) (p3 : List Int) (p4 : List Int) (p5 : List Int) : St := St.mk [CV.ptr (1 : Nat) [], CV.ptr (2 : Nat) [], CV.pure (Ty.slice (Ty.int IntKind.u8)) p0, CV.junk, CV.junk, CV.junk, CV.ptr (3 : Nat) [], CV.junk, CV.junk, CV.junk, CV.junk, CV.junk, CV.junk, CV.junk, CV.junk, CV.junk, CV.junk, CV.junk, CV.junk, CV.junk, CV.int IntKind.i64 p1, CV.junk, CV.junk, CV.junk, CV.junk, CV.junk, CV.junk, CV.junk, CV.junk, CV.junk, CV.junk, CV.junk, CV.junk, CV.junk, CV.junk, CV.junk, CV.junk, CV.junk, CV.junk, CV.junk, CV.junk, CV.junk, CV.junk, CV.junk, CV.junk, CV.junk, CV.junk, CV.junk, CV.junk, CV.junk, CV.junk, CV.junk, CV.junk, CV.junk, CV.junk, CV.junk, CV.junk, CV.junk, CV.junk, CV.junk, CV.junk, CV.junk, CV.junk, CV.junk, CV.junk, CV.junk, CV.junk, CV.junk, CV.junk, CV.junk, CV.junk, CV.junk, CV.junk, CV.junk, CV.junk, CV.junk, CV.junk, CV.junk, CV.junk, CV.junk, CV.junk, CV.junk, CV.junk, CV.junk, CV.junk, CV.junk, CV.junk, CV.junk, CV.junk, CV.junk, CV.junk, CV.junk, CV.junk, CV.junk, CV.junk, CV.junk, CV.junk, CV.junk, CV.junk, CV.junk, CV.junk, CV.junk, CV.junk, CV.junk, CV.junk, CV.junk, CV.junk, CV.junk, CV.junk, CV.junk, CV.junk, CV.junk, CV.junk, CV.junk, CV.junk, CV.junk, CV.junk, CV.junk, CV.junk, CV.junk, CV.junk, CV.junk, CV.junk, CV.junk, CV.junk, CV.junk, CV.junk, CV.junk, CV.junk, CV.junk, CV.junk, CV.junk, CV.junk, CV.junk, CV.junk, CV.junk, CV.junk, CV.junk, CV.junk, CV.junk, CV.junk, CV.junk, CV.junk, CV.junk, CV.junk, CV.junk, CV.junk, CV.junk, CV.junk, CV.junk, CV.junk, CV.junk, CV.junk, CV.junk, CV.junk, CV.junk, CV.junk, CV.junk, CV.junk, CV.junk, CV.junk, CV.junk, CV.junk, CV.junk, CV.junk, CV.junk, CV.junk, CV.junk, CV.junk, CV.junk, CV.junk, CV.junk, CV.junk, CV.junk, CV.junk, CV.junk] [Blk.mem (CV.pure (Ty.arr (32 : Nat) (Ty.int IntKind.u8)) p2), Blk.mem (CV.pure (Ty.arr (8 : Nat) (Ty.int IntKind.u32)) p3), Blk.mem (CV.pure (Ty.arr (64 : Nat) (Ty.int IntKind.u32)) p4), Blk.mem (CV.pure (Ty.arr (64 : Nat) (Ty.int IntKind.u32)) p5)] (3 : Nat)
def X_11_33_0_0_0 (p2 : List Int) (p3 : List Int) (p4 : List Int) (p5 : List Int) : St := St.mk [CV.ptr (1 : Nat) [], CV.ptr (2 : Nat) [], CV.junk, CV.junk, CV.junk, CV.junk, CV.ptr (3 : Nat) [], CV.junk, CV.junk, CV.junk, CV.junk, CV.junk, CV.junk, CV.junk, CV.junk, CV.junk, CV.junk, CV.junk, CV.junk, CV.junk, CV.junk, CV.junk, CV.junk, CV.junk, CV.junk, CV.junk, CV.junk, CV.junk, CV.junk, CV.junk, CV.junk, CV.junk, CV.junk, CV.junk, CV.junk, CV.junk, CV.junk, CV.junk, CV.junk, CV.junk, CV.junk, CV.junk, CV.junk, CV.junk, CV.junk, CV.junk, CV.junk, CV.junk, CV.junk, CV.junk, CV.junk, CV.junk, CV.junk, CV.junk, CV.junk, CV.junk, CV.junk, CV.junk, CV.junk, CV.junk, CV.junk, CV.junk, CV.junk, CV.junk, CV.junk, CV.junk, CV.junk, CV.junk, CV.junk, CV.junk, CV.junk, CV.junk, CV.junk, CV.junk, CV.junk, CV.junk, CV.junk, CV.junk, CV.junk, CV.junk, CV.junk, CV.junk, CV.junk, CV.junk, CV.junk, CV.junk, CV.junk, CV.junk, CV.junk, CV.junk, CV.junk, CV.junk, CV.junk, CV.junk, CV.junk, CV.junk, CV.junk, CV.junk, CV.junk, CV.junk, CV.junk, CV.junk, CV.junk, CV.junk, CV.junk, CV.junk, CV.junk, CV.junk, CV.junk, CV.junk, CV.junk, CV.junk, CV.junk, CV.junk, CV.junk, CV.junk, CV.junk, CV.junk, CV.junk, CV.junk, CV.junk, CV.junk, CV.junk, CV.junk, CV.junk, CV.junk, CV.junk, CV.junk, CV.junk, CV.junk, CV.junk, CV.junk, CV.junk, CV.junk, CV.junk, CV.junk, CV.junk, CV.junk, CV.junk, CV.junk, CV.junk, CV.junk, CV.junk, CV.junk, CV.junk, CV.junk, CV.junk, CV.junk, CV.junk, CV.junk, CV.junk, CV.junk, CV.junk, CV.junk, CV.junk, CV.junk, CV.junk, CV.junk, CV.junk, CV.junk, CV.junk, CV.junk, CV.junk, CV.junk, CV.junk, CV.junk, CV.junk, CV.junk, CV.junk, CV.junk, CV.junk, CV.junk, CV.junk, CV.junk, CV.junk, CV.junk] [Blk.mem (CV.pure (Ty.arr (32 : Nat) (Ty.int IntKind.u8)) p2), Blk.mem (CV.pure (Ty.arr (8 : Nat) (Ty.int IntKind.u32)) p3), Blk.mem (CV.pure (Ty.arr (64 : Nat) (Ty.int IntKind.u32)) p4), Blk.mem (CV.pure (Ty.arr (64 : Nat) (Ty.int IntKind.u32)) p5)] (3 : Nat)
inductive Sp.E_11_33_0_0 where
  | e0 (p2 : List Int) (p3 : List Int) (p4 : List Int) (p5 : List Int)
def Sp.B_11_33_0_0 {R : Type} (r : Option Sp.E_11_33_0_0) (k0 : (List Int) → (List Int) → (List Int) → (List Int) → Option R) : Option R := match r with
  | none => none
  | some (.e0 p2 p3 p4 p5) => k0 p2 p3 p4 p5
def Sp.L_11_33_0_0 : Nat → (List Int) → (Int) → (List Int) → (List Int) → (List Int) → (List Int) → Option Sp.E_11_33_0_0
  | 0, _, _, _, _, _, _ => none
  | m + 1, p0, p1, p2, p3, p4, p5 => bif decide (p1 < (16 : Int)) then gd (sl3 (IntKind.wrap IntKind.i64 ((4 : Int) * p1)) (↑(List.length p0) : Int) (↑(List.length p0) : Int)) (gd (Sp.p_47 (List.drop (Int.toNat (IntKind.wrap IntKind.i64 ((4 : Int) * p1))) p0)) (gd (inB p1 (64 : Nat)) (gd (decide (Int.toNat p1 < (64 : Nat)) && true) (Sp.L_11_33_0_0 m p0 (IntKind.wrap IntKind.i64 (p1 + (1 : Int))) p2 p3 p4 (List.set p5 (Int.toNat p1) (Prod.fst (Sp.v_47 (List.drop (Int.toNat (IntKind.wrap IntKind.i64 ((4 : Int) * p1))) p0)))))))) else some (Sp.E_11_33_0_0.e0 p2 p3 p4 p5)
def G_11_33_0_0 {R : Type} (p0 : List Int) (p1 : Int) (p2 : List Int) (p3 : List Int) (p4 : List Int) (p5 : List Int) (k : Ex → St → Option R) : Option R := Sp.B_11_33_0_0 (Sp.L_11_33_0_0 FU p0 p1 p2 p3 p4 p5) (fun p2 p3 p4 p5 => k (Ex.exit (0 : Nat)) (X_11_33_0_0_0 p2 p3 p4 p5))
def m_11_33_0_0 : St → Bool := fun T => match T.sl.getD 0 .junk, T.sl.getD 1 .junk, T.sl.getD 2 .junk, T.sl.getD 6 .junk, T.sl.getD 20 .junk, T.hp with
  | CV.ptr (1 : Nat) [], CV.ptr (2 : Nat) [], CV.pure (Ty.slice (Ty.int IntKind.u8)) p0, CV.ptr (3 : Nat) [], CV.int IntKind.i64 p1, ((Blk.mem (CV.pure (Ty.arr (32 : Nat) (Ty.int IntKind.u8)) p2)) :: (Blk.mem (CV.pure (Ty.arr (8 : Nat) (Ty.int IntKind.u32)) p3)) :: (Blk.mem (CV.pure (Ty.arr (64 : Nat) (Ty.int IntKind.u32)) p4)) :: (Blk.mem (CV.pure (Ty.arr (64 : Nat) (Ty.int IntKind.u32)) p5)) :: []) => shapeOK T 176 [0, 1, 2, 6, 20] (3 : Nat)
  | _, _, _, _, _, _ => false
def o_11_33_0_0 {R : Type} (G : (List Int) → (Int) → (List Int) → (List Int) → (List Int) → (List Int) → (Ex → St → Option R) → Option R) : St → (Ex → St → Option R) → Option R := fun T k => match T.sl.getD 0 .junk, T.sl.getD 1 .junk, T.sl.getD 2 .junk, T.sl.getD 6 .junk, T.sl.getD 20 .junk, T.hp with
  | CV.ptr (1 : Nat) [], CV.ptr (2 : Nat) [], CV.pure (Ty.slice (Ty.int IntKind.u8)) p0, CV.ptr (3 : Nat) [], CV.int IntKind.i64 p1, ((Blk.mem (CV.pure (Ty.arr (32 : Nat) (Ty.int IntKind.u8)) p2)) :: (Blk.mem (CV.pure (Ty.arr (8 : Nat) (Ty.int IntKind.u32)) p3)) :: (Blk.mem (CV.pure (Ty.arr (64 : Nat) (Ty.int IntKind.u32)) p4)) :: (Blk.mem (CV.pure (Ty.arr (64 : Nat) (Ty.int IntKind.u32)) p5)) :: []) => gd (shapeOK T 176 [0, 1, 2, 6, 20] (3 : Nat)) (G p0 p1 p2 p3 p4 p5 k)
  | _, _, _, _, _, _ => none
theorem o_11_33_0_0_inv {R : Type} {G : (List Int) → (Int) → (List Int) → (List Int) → (List Int) → (List Int) → (Ex → St → Option R) → Option R} {T : St} {k : Ex → St → Option R} {r : R} (h : o_11_33_0_0 G T k = some r) : ∃ p0 p1 p2 p3 p4 p5, T = T_11_33_0_0 p0 p1 p2 p3 p4 p5 ∧ G p0 p1 p2 p3 p4 p5 k = some r := by
  unfold o_11_33_0_0 at h
  split at h
  · obtain ⟨hs, h'⟩ := gd_some h
    refine ⟨_, _, _, _, _, _, (st_of (asg := [(0, _), (1, _), (2, _), (6, _), (20, _)]) hs ⟨by assumption, by assumption, by assumption, by assumption, by assumption, trivial⟩ (by assumption)).trans ?_, h'⟩
    kernel_rfl
  · cases h
def T_11_33_1_0 (p0 : Int) (p1 : List Int) (p2 : List Int) (p3 : List Int) (p4 : List Int) : St := St.mk [CV.ptr (1 : Nat) [], CV.ptr (2 : Nat) [], CV.junk, CV.junk, CV.junk, CV.junk, CV.ptr (3 : Nat) [], CV.junk, CV.int IntKind.i64 p0, CV.junk, CV.junk, CV.junk, CV.junk, CV.junk, CV.junk, CV.junk, CV.junk, CV.junk, CV.junk, CV.junk, CV.junk, CV.junk, CV.junk, CV.junk, CV.junk, CV.junk, CV.junk, CV.junk, CV.junk, CV.junk, CV.junk, CV.junk, CV.junk, CV.junk, CV.junk, CV.junk, CV.junk, CV.junk, CV.junk, CV.junk, CV.junk, CV.junk, CV.junk, CV.junk, CV.junk, CV.junk, CV.junk, CV.junk, CV.junk, CV.junk, CV.junk, CV.junk, CV.junk, CV.junk, CV.junk, CV.junk, CV.junk, CV.junk, CV.junk, CV.junk, CV.junk, CV.junk, CV.junk, CV.junk, CV.junk, CV.junk, CV.junk, CV.junk, CV.junk, CV.junk, CV.junk, CV.junk, CV.junk, CV.junk, CV.junk, CV.junk, CV.junk, CV.junk, CV.junk, CV.junk, CV.junk, CV.junk, CV.junk, CV.junk, CV.junk, CV.junk, CV.junk, CV.junk, CV.junk, CV.junk, CV.junk, CV.junk, CV.junk, CV.junk, CV.junk, CV.junk, CV.junk, CV.junk, CV.junk, CV.junk, CV.junk, CV.junk, CV.junk, CV.junk, CV.junk, CV.junk, CV.junk, CV.junk, CV.junk, CV.junk, CV.junk, CV.junk, CV.junk, CV.junk, CV.junk, CV.junk, CV.junk, CV.junk, CV.junk, CV.junk, CV.junk, CV.junk, CV.junk, CV.junk, CV.junk, CV.junk, CV.junk, CV.junk, CV.junk, CV.junk, CV.junk, CV.junk, CV.junk, CV.junk, CV.junk, CV.junk, CV.junk, CV.junk, CV.junk, CV.junk, CV.junk, CV.junk, CV.junk, CV.junk, CV.junk, CV.junk, CV.junk, CV.junk, CV.junk, CV.junk, CV.junk, CV.junk, CV.junk, CV.junk, CV.junk, CV.junk, CV.junk, CV.junk, CV.junk, CV.junk, CV.junk, CV.junk, CV.junk, CV.junk, CV.junk, CV.junk, CV.junk, CV.junk, CV.junk, CV.junk, CV.junk, CV.junk, CV.junk, CV.junk, CV.junk, CV.junk] [Blk.mem (CV.pure (Ty.arr (32 : Nat) (Ty.int IntKind.u8)) p1), Blk.mem (CV.pure (Ty.arr (8 : Nat) (Ty.int IntKind.u32)) p2), Blk.mem (CV.pure (Ty.arr (64 : Nat) (Ty.int IntKind.u32)) p3), Blk.mem (CV.pure (Ty.arr (64 : Nat) (Ty.int IntKind.u32)) p4)] (3 : Nat)
def X_11_33_1_0_0 (p1 : List Int) (p2 : List Int) (p3 : List Int) (p4 : List Int) : St := St.mk [CV.ptr (1 : Nat) [], CV.ptr (2 : Nat) [], CV.junk, CV.junk, CV.junk, CV.junk, CV.ptr (3 : Nat) [], CV.junk, CV.junk, CV.junk, CV.junk, CV.junk, CV.junk, CV.junk, CV.junk, CV.junk, CV.junk, CV.junk, CV.junk, CV.junk, CV.junk, CV.junk, CV.junk, CV.junk, CV.junk, CV.junk, CV.junk, CV.junk, CV.junk, CV.junk, CV.junk, CV.junk, CV.junk, CV.junk, CV.junk, CV.junk, CV.junk, CV.junk, CV.junk, CV.junk, CV.junk, CV.junk, CV.junk, CV.junk, CV.junk, CV.junk, CV.junk, CV.junk, CV.junk, CV.junk, CV.junk, CV.junk, CV.junk, CV.junk, CV.junk, CV.junk, CV.junk, CV.junk, CV.junk, CV.junk, CV.junk, CV.junk, CV.junk, CV.junk, CV.junk, CV.junk, CV.junk, CV.junk, CV.junk, CV.junk, CV.junk, CV.junk, CV.junk, CV.junk, CV.junk, CV.junk, CV.junk, CV.junk, CV.junk, CV.junk, CV.junk, CV.junk, CV.junk, CV.junk, CV.junk, CV.junk, CV.junk, CV.junk, CV.junk, CV.junk, CV.junk, CV.junk, CV.junk, CV.junk, CV.junk, CV.junk, CV.junk, CV.junk, CV.junk, CV.junk, CV.junk, CV.junk, CV.junk, CV.junk, CV.junk, CV.junk, CV.junk, CV.junk, CV.junk, CV.junk, CV.junk, CV.junk, CV.junk, CV.junk, CV.junk, CV.junk, CV.junk, CV.junk, CV.junk, CV.junk, CV.junk, CV.junk, CV.junk, CV.junk, CV.junk, CV.junk, CV.junk, CV.junk, CV.junk, CV.junk, CV.junk, CV.junk, CV.junk, CV.junk, CV.junk, CV.junk, CV.junk, CV.junk, CV.junk, CV.junk, CV.junk, CV.junk, CV.junk, CV.junk, CV.junk, CV.junk, CV.junk, CV.junk, CV.junk, CV.junk, CV.junk, CV.junk, CV.junk, CV.junk, CV.junk, CV.junk, CV.junk, CV.junk, CV.junk, CV.junk, CV.junk, CV.junk, CV.junk, CV.junk, CV.junk, CV.junk, CV.junk, CV.junk, CV.junk, CV.junk, CV.junk, CV.junk, CV.junk, CV.junk, CV.junk, CV.junk] [Blk.mem (CV.pure (Ty.arr (32 : Nat) (Ty.int IntKind.u8)) p1), Blk.mem (CV.pure (Ty.arr (8 : Nat) (Ty.int IntKind.u32)) p2), Blk.mem (CV.pure (Ty.arr (64 : Nat) (Ty.int IntKind.u32)) p3), Blk.mem (CV.pure (Ty.arr (64 : Nat) (Ty.int IntKind.u32)) p4)] (3 : Nat)
inductive Sp.E_11_33_1_0 where
  | e0 (p1 : List Int) (p2 : List Int) (p3 : List Int) (p4 : List Int)
def Sp.B_11_33_1_0 {R : Type} (r : Option Sp.E_11_33_1_0) (k0 : (List Int) → (List Int) → (List Int) → (List Int) → Option R) : Option R := match r with
  | none => none
  | some (.e0 p1 p2 p3 p4) => k0 p1 p2 p3 p4
def Sp.L_11_33_1_0 : Nat → (Int) → (List Int) → (List Int) → (List Int) → (List Int) → Option Sp.E_11_33_1_0
  | 0, _, _, _, _, _ => none
  | m + 1, p0, p1, p2, p3, p4 => bif decide (p0 < (64 : Int)) then gd (inB (IntKind.wrap IntKind.i64 (p0 - (15 : Int))) (64 : Nat)) (gd (decide (Int.toNat (IntKind.wrap IntKind.i64 (p0 - (15 : Int))) < (64 : Nat)) && true) (gd (inB (IntKind.wrap IntKind.i64 (p0 - (2 : Int))) (64 : Nat)) (gd (decide (Int.toNat (IntKind.wrap IntKind.i64 (p0 - (2 : Int))) < (64 : Nat)) && true) (gd (Sp.p_49 (List.getD p4 (Int.toNat (IntKind.wrap IntKind.i64 (p0 - (15 : Int)))) (0 : Int)) (7 : Int)) (gd (Sp.p_49 (List.getD p4 (Int.toNat (IntKind.wrap IntKind.i64 (p0 - (15 : Int)))) (0 : Int)) (18 : Int)) (gd (Sp.p_49 (List.getD p4 (Int.toNat (IntKind.wrap IntKind.i64 (p0 - (2 : Int)))) (0 : Int)) (17 : Int)) (gd (Sp.p_49 (List.getD p4 (Int.toNat (IntKind.wrap IntKind.i64 (p0 - (2 : Int)))) (0 : Int)) (19 : Int)) (gd (inB (IntKind.wrap IntKind.i64 (p0 - (7 : Int))) (64 : Nat)) (gd (decide (Int.toNat (IntKind.wrap IntKind.i64 (p0 - (7 : Int))) < (64 : Nat)) && true) (gd (inB (IntKind.wrap IntKind.i64 (p0 - (16 : Int))) (64 : Nat)) (gd (decide (Int.toNat (IntKind.wrap IntKind.i64 (p0 - (16 : Int))) < (64 : Nat)) && true) (gd (inB p0 (64 : Nat)) (gd (decide (Int.toNat p0 < (64 : Nat)) && true) (Sp.L_11_33_1_0 m (IntKind.wrap IntKind.i64 (p0 + (1 : Int))) p1 p2 p3 (List.set p4 (Int.toNat p0) (IntKind.wrap IntKind.u32 (IntKind.wrap IntKind.u32 (IntKind.wrap IntKind.u32 (Sp.xorI IntKind.u32 (Sp.xorI IntKind.u32 (Prod.fst (Sp.v_49 (List.getD p4 (Int.toNat (IntKind.wrap IntKind.i64 (p0 - (2 : Int)))) (0 : Int)) (17 : Int))) (Prod.fst (Sp.v_49 (List.getD p4 (Int.toNat (IntKind.wrap IntKind.i64 (p0 - (2 : Int)))) (0 : Int)) (19 : Int)))) (Int.fdiv (List.getD p4 (Int.toNat (IntKind.wrap IntKind.i64 (p0 - (2 : Int)))) (0 : Int)) (1024 : Int)) + List.getD p4 (Int.toNat (IntKind.wrap IntKind.i64 (p0 - (7 : Int)))) (0 : Int)) + Sp.xorI IntKind.u32 (Sp.xorI IntKind.u32 (Prod.fst (Sp.v_49 (List.getD p4 (Int.toNat (IntKind.wrap IntKind.i64 (p0 - (15 : Int)))) (0 : Int)) (7 : Int))) (Prod.fst (Sp.v_49 (List.getD p4 (Int.toNat (IntKind.wrap IntKind.i64 (p0 - (15 : Int)))) (0 : Int)) (18 : Int)))) (Int.fdiv (List.getD p4 (Int.toNat (IntKind.wrap IntKind.i64 (p0 - (15 : Int)))) (0 : Int)) (8 : Int))) + List.getD p4 (Int.toNat (IntKind.wrap IntKind.i64 (p0 - (16 : Int)))) (0 : Int)))))))))))))))))) else some (Sp.E_11_33_1_0.e0 p1 p2 p3 p4)
def G_11_33_1_0 {R : Type} (p0 : Int) (p1 : List Int) (p2 : List Int) (p3 : List Int) (p4 : List Int) (k : Ex → St → Option R) : Option R := Sp.B_11_33_1_0 (Sp.L_11_33_1_0 FU p0 p1 p2 p3 p4) (fun p1 p2 p3 p4 => k (Ex.exit (2 : Nat)) (X_11_33_1_0_0 p1 p2 p3 p4))
def m_11_33_1_0 : St → Bool := fun T => match T.sl.getD 0 .junk, T.sl.getD 1 .junk, T.sl.getD 6 .junk, T.sl.getD 8 .junk, T.hp with
  | CV.ptr (1 : Nat) [], CV.ptr (2 : Nat) [], CV.ptr (3 : Nat) [], CV.int IntKind.i64 p0, ((Blk.mem (CV.pure (Ty.arr (32 : Nat) (Ty.int IntKind.u8)) p1)) :: (Blk.mem (CV.pure (Ty.arr (8 : Nat) (Ty.int IntKind.u32)) p2)) :: (Blk.mem (CV.pure (Ty.arr (64 : Nat) (Ty.int IntKind.u32)) p3)) :: (Blk.mem (CV.pure (Ty.arr (64 : Nat) (Ty.int IntKind.u32)) p4)) :: []) => shapeOK T 176 [0, 1, 6, 8] (3 : Nat)
  | _, _, _, _, _ => false
def o_11_33_1_0 {R : Type} (G : (Int) → (List Int) → (List Int) → (List Int) → (List Int) → (Ex → St → Option R) → Option R) : St → (Ex → St → Option R) → Option R := fun T k => match T.sl.getD 0 .junk, T.sl.getD 1 .junk, T.sl.getD 6 .junk, T.sl.getD 8 .junk, T.hp with
  | CV.ptr (1 : Nat) [], CV.ptr (2 : Nat) [], CV.ptr (3 : Nat) [], CV.int IntKind.i64 p0, ((Blk.mem (CV.pure (Ty.arr (32 : Nat) (Ty.int IntKind.u8)) p1)) :: (Blk.mem (CV.pure (Ty.arr (8 : Nat) (Ty.int IntKind.u32)) p2)) :: (Blk.mem (CV.pure (Ty.arr (64 : Nat) (Ty.int IntKind.u32)) p3)) :: (Blk.mem (CV.pure (Ty.arr (64 : Nat) (Ty.int IntKind.u32)) p4)) :: []) => gd (shapeOK T 176 [0, 1, 6, 8] (3 : Nat)) (G p0 p1 p2 p3 p4 k)
  | _, _, _, _, _ => none
theorem o_11_33_1_0_inv {R : Type} {G : (Int) → (List Int) → (List Int) → (List Int) → (List Int) → (Ex → St → Option R) → Option R} {T : St} {k : Ex → St → Option R} {r : R} (h : o_11_33_1_0 G T k = some r) : ∃ p0 p1 p2 p3 p4, T = T_11_33_1_0 p0 p1 p2 p3 p4 ∧ G p0 p1 p2 p3 p4 k = some r := by
  unfold o_11_33_1_0 at h
  split at h
  · obtain ⟨hs, h'⟩ := gd_some h
    refine ⟨_, _, _, _, _, (st_of (asg := [(0, _), (1, _), (6, _), (8, _)]) hs ⟨by assumption, by assumption, by assumption, by assumption, trivial⟩ (by assumption)).trans ?_, h'⟩
    kernel_rfl
  · cases h
def T_11_33_2_0 (p0 : Int) (p1 : List Int) (p2 : List Int) (p3 : List Int) (p4 : List Int) (p5 : List Int) : St := St.mk [CV.ptr (1 : Nat) [], CV.ptr (2 : Nat) [], CV.junk, CV.junk, CV.junk, CV.junk, CV.ptr (3 : Nat) [], CV.junk, CV.junk, CV.junk, CV.junk, CV.junk, CV.junk, CV.ptr (4 : Nat) [], CV.junk, CV.junk, CV.junk, CV.junk, CV.junk, CV.junk, CV.junk, CV.junk, CV.junk, CV.junk, CV.junk, CV.junk, CV.junk, CV.junk, CV.junk, CV.junk, CV.junk, CV.junk, CV.junk, CV.junk, CV.junk, CV.junk, CV.junk, CV.junk, CV.junk, CV.junk, CV.junk, CV.junk, CV.junk, CV.junk, CV.junk, CV.junk, CV.junk, CV.junk, CV.junk, CV.junk, CV.junk, CV.junk, CV.junk, CV.junk, CV.junk, CV.junk, CV.junk, CV.junk, CV.junk, CV.junk, CV.junk, CV.junk, CV.junk, CV.junk, CV.junk, CV.junk, CV.junk, CV.junk, CV.junk, CV.junk, CV.junk, CV.junk, CV.junk, CV.junk, CV.junk, CV.junk, CV.junk, CV.int IntKind.i64 p0, CV.junk, CV.junk, CV.junk, CV.junk, CV.junk, CV.junk, CV.junk, CV.junk, CV.junk, CV.junk, CV.junk, CV.junk, CV.junk, CV.junk, CV.junk, CV.junk, CV.junk, CV.junk, CV.junk, CV.junk, CV.junk, CV.junk, CV.junk, CV.junk, CV.junk, CV.junk, CV.junk, CV.junk, CV.junk, CV.junk, CV.junk, CV.junk, CV.junk, CV.junk, CV.junk, CV.junk, CV.junk, CV.junk, CV.junk, CV.junk, CV.junk, CV.junk, CV.junk, CV.junk, CV.junk, CV.junk, CV.junk, CV.junk, CV.junk, CV.junk, CV.junk, CV.junk, CV.junk, CV.junk, CV.junk, CV.junk, CV.junk, CV.junk, CV.junk, CV.junk, CV.junk, CV.junk, CV.junk, CV.junk, CV.junk, CV.junk, CV.junk, CV.junk, CV.junk, CV.junk, CV.junk, CV.junk, CV.junk, CV.junk, CV.junk, CV.junk, CV.junk, CV.junk, CV.junk, CV.junk, CV.junk, CV.junk, CV.junk, CV.junk, CV.junk, CV.junk, CV.junk, CV.junk, CV.junk, CV.junk, CV.junk, CV.junk, CV.junk, CV.junk, CV.junk, CV.junk, CV.junk, CV.junk] [Blk.mem (CV.pure (Ty.arr (32 : Nat) (Ty.int IntKind.u8)) p1), Blk.mem (CV.pure (Ty.arr (8 : Nat) (Ty.int IntKind.u32)) p2), Blk.mem (CV.pure (Ty.arr (64 : Nat) (Ty.int IntKind.u32)) p3), Blk.mem (CV.pure (Ty.arr (64 : Nat) (Ty.int IntKind.u32)) p4), Blk.mem (CV.pure (Ty.arr (8 : Nat) (Ty.int IntKind.u32)) p5)] (3 : Nat)
def X_11_33_2_0_0 (p1 : List Int) (p2 : List Int) (p3 : List Int) (p5 : List Int) : St := St.mk [CV.ptr (1 : Nat) [], CV.junk, CV.junk, CV.junk, CV.junk, CV.junk, CV.junk, CV.junk, CV.junk, CV.junk, CV.junk, CV.junk, CV.junk, CV.ptr (3 : Nat) [], CV.junk, CV.junk, CV.junk, CV.junk, CV.junk, CV.junk, CV.junk, CV.junk, CV.junk, CV.junk, CV.junk, CV.junk, CV.junk, CV.junk, CV.junk, CV.junk, CV.junk, CV.junk, CV.junk, CV.junk, CV.junk, CV.junk, CV.junk, CV.junk, CV.junk, CV.junk, CV.junk, CV.junk, CV.junk, CV.junk, CV.junk, CV.junk, CV.junk, CV.junk, CV.junk, CV.junk, CV.junk, CV.junk, CV.junk, CV.junk, CV.junk, CV.junk, CV.junk, CV.junk, CV.junk, CV.junk, CV.junk, CV.junk, CV.junk, CV.junk, CV.junk, CV.junk, CV.junk, CV.junk, CV.junk, CV.junk, CV.junk, CV.junk, CV.junk, CV.junk, CV.junk, CV.junk, CV.junk, CV.junk, CV.junk, CV.junk, CV.junk, CV.junk, CV.junk, CV.junk, CV.junk, CV.junk, CV.junk, CV.junk, CV.junk, CV.junk, CV.junk, CV.junk, CV.junk, CV.junk, CV.junk, CV.junk, CV.junk, CV.junk, CV.junk, CV.junk, CV.junk, CV.junk, CV.junk, CV.junk, CV.junk, CV.junk, CV.junk, CV.junk, CV.junk, CV.junk, CV.junk, CV.junk, CV.junk, CV.junk, CV.junk, CV.junk, CV.junk, CV.junk, CV.junk, CV.junk, CV.junk, CV.junk, CV.junk, CV.junk, CV.junk, CV.junk, CV.junk, CV.junk, CV.junk, CV.junk, CV.junk, CV.junk, CV.junk, CV.junk, CV.junk, CV.junk, CV.junk, CV.junk, CV.junk, CV.junk, CV.junk, CV.junk, CV.junk, CV.junk, CV.junk, CV.junk, CV.junk, CV.junk, CV.junk, CV.junk, CV.junk, CV.junk, CV.junk, CV.junk, CV.junk, CV.junk, CV.junk, CV.junk, CV.junk, CV.junk, CV.junk, CV.junk, CV.junk, CV.junk, CV.junk, CV.junk, CV.junk, CV.junk, CV.junk, CV.junk, CV.junk, CV.junk, CV.junk, CV.junk, CV.junk, CV.junk] [Blk.mem (CV.pure (Ty.arr (32 : Nat) (Ty.int IntKind.u8)) p1), Blk.mem (CV.pure (Ty.arr (8 : Nat) (Ty.int IntKind.u32)) p2), Blk.mem (CV.pure (Ty.arr (64 : Nat) (Ty.int IntKind.u32)) p3), Blk.mem (CV.pure (Ty.arr (8 : Nat) (Ty.int IntKind.u32)) p5)] (3 : Nat)
inductive Sp.E_11_33_2_0 where
  | e0 (p1 : List Int) (p2 : List Int) (p3 : List Int) (p5 : List Int)
def Sp.B_11_33_2_0 {R : Type} (r : Option Sp.E_11_33_2_0) (k0 : (List Int) → (List Int) → (List Int) → (List Int) → Option R) : Option R := match r with
  | none => none
  | some (.e0 p1 p2 p3 p5) => k0 p1 p2 p3 p5
def Sp.L_11_33_2_0 : Nat → (Int) → (List Int) → (List Int) → (List Int) → (List Int) → (List Int) → Option Sp.E_11_33_2_0
  | 0, _, _, _, _, _, _ => none
  | m + 1, p0, p1, p2, p3, p4, p5 => bif decide (p0 < (64 : Int)) then gd (Sp.p_49 (List.getD p5 (4 : Nat) (0 : Int)) (6 : Int)) (gd (Sp.p_49 (List.getD p5 (4 : Nat) (0 : Int)) (11 : Int)) (gd (Sp.p_49 (List.getD p5 (4 : Nat) (0 : Int)) (25 : Int)) (gd (inB p0 (64 : Nat)) (gd (decide (Int.toNat p0 < (64 : Nat)) && true) (gd (inB p0 (64 : Nat)) (gd (decide (Int.toNat p0 < (64 : Nat)) && true) (gd (Sp.p_49 (List.getD p5 (0 : Nat) (0 : Int)) (2 : Int)) (gd (Sp.p_49 (List.getD p5 (0 : Nat) (0 : Int)) (13 : Int)) (gd (Sp.p_49 (List.getD p5 (0 : Nat) (0 : Int)) (22 : Int)) (Sp.L_11_33_2_0 m (IntKind.wrap IntKind.i64 (p0 + (1 : Int))) p1 p2 p3 p4 [IntKind.wrap IntKind.u32 (IntKind.wrap IntKind.u32 (IntKind.wrap IntKind.u32 (IntKind.wrap IntKind.u32 (IntKind.wrap IntKind.u32 (List.getD p5 (7 : Nat) (0 : Int) + Sp.xorI IntKind.u32 (Sp.xorI IntKind.u32 (Prod.fst (Sp.v_49 (List.getD p5 (4 : Nat) (0 : Int)) (6 : Int))) (Prod.fst (Sp.v_49 (List.getD p5 (4 : Nat) (0 : Int)) (11 : Int)))) (Prod.fst (Sp.v_49 (List.getD p5 (4 : Nat) (0 : Int)) (25 : Int)))) + Sp.xorI IntKind.u32 (Sp.andI IntKind.u32 (List.getD p5 (4 : Nat) (0 : Int)) (List.getD p5 (5 : Nat) (0 : Int))) (Sp.andI IntKind.u32 (Sp.xorI IntKind.u32 (4294967295 : Int) (List.getD p5 (4 : Nat) (0 : Int))) (List.getD p5 (6 : Nat) (0 : Int)))) + List.getD p3 (Int.toNat p0) (0 : Int)) + List.getD p4 (Int.toNat p0) (0 : Int)) + IntKind.wrap IntKind.u32 (Sp.xorI IntKind.u32 (Sp.xorI IntKind.u32 (Prod.fst (Sp.v_49 (List.getD p5 (0 : Nat) (0 : Int)) (2 : Int))) (Prod.fst (Sp.v_49 (List.getD p5 (0 : Nat) (0 : Int)) (13 : Int)))) (Prod.fst (Sp.v_49 (List.getD p5 (0 : Nat) (0 : Int)) (22 : Int))) + Sp.xorI IntKind.u32 (Sp.xorI IntKind.u32 (Sp.andI IntKind.u32 (List.getD p5 (0 : Nat) (0 : Int)) (List.getD p5 (1 : Nat) (0 : Int))) (Sp.andI IntKind.u32 (List.getD p5 (0 : Nat) (0 : Int)) (List.getD p5 (2 : Nat) (0 : Int)))) (Sp.andI IntKind.u32 (List.getD p5 (1 : Nat) (0 : Int)) (List.getD p5 (2 : Nat) (0 : Int))))), List.getD p5 (0 : Nat) (0 : Int), List.getD p5 (1 : Nat) (0 : Int), List.getD p5 (2 : Nat) (0 : Int), IntKind.wrap IntKind.u32 (List.getD p5 (3 : Nat) (0 : Int) + IntKind.wrap IntKind.u32 (IntKind.wrap IntKind.u32 (IntKind.wrap IntKind.u32 (IntKind.wrap IntKind.u32 (List.getD p5 (7 : Nat) (0 : Int) + Sp.xorI IntKind.u32 (Sp.xorI IntKind.u32 (Prod.fst (Sp.v_49 (List.getD p5 (4 : Nat) (0 : Int)) (6 : Int))) (Prod.fst (Sp.v_49 (List.getD p5 (4 : Nat) (0 : Int)) (11 : Int)))) (Prod.fst (Sp.v_49 (List.getD p5 (4 : Nat) (0 : Int)) (25 : Int)))) + Sp.xorI IntKind.u32 (Sp.andI IntKind.u32 (List.getD p5 (4 : Nat) (0 : Int)) (List.getD p5 (5 : Nat) (0 : Int))) (Sp.andI IntKind.u32 (Sp.xorI IntKind.u32 (4294967295 : Int) (List.getD p5 (4 : Nat) (0 : Int))) (List.getD p5 (6 : Nat) (0 : Int)))) + List.getD p3 (Int.toNat p0) (0 : Int)) + List.getD p4 (Int.toNat p0) (0 : Int))), List.getD p5 (4 : Nat) (0 : Int), List.getD p5 (5 : Nat) (0 : Int), List.getD p5 (6 : Nat) (0 : Int)])))))))))) else some (Sp.E_11_33_2_0.e0 p1 p2 p3 p5)
def G_11_33_2_0 {R : Type} (p0 : Int) (p1 : List Int) (p2 : List Int) (p3 : List Int) (p4 : List Int) (p5 : List Int) (k : Ex → St → Option R) : Option R := Sp.B_11_33_2_0 (Sp.L_11_33_2_0 FU p0 p1 p2 p3 p4 p5) (fun p1 p2 p3 p5 => k (Ex.exit (4 : Nat)) (X_11_33_2_0_0 p1 p2 p3 p5))
def m_11_33_2_0 : St → Bool := fun T => match T.sl.getD 0 .junk, T.sl.getD 1 .junk, T.sl.getD 6 .junk, T.sl.getD 13 .junk, T.sl.getD 77 .junk, T.hp with
  | CV.ptr (1 : Nat) [], CV.ptr (2 : Nat) [], CV.ptr (3 : Nat) [], CV.ptr (4 : Nat) [], CV.int IntKind.i64 p0, ((Blk.mem (CV.pure (Ty.arr (32 : Nat) (Ty.int IntKind.u8)) p1)) :: (Blk.mem (CV.pure (Ty.arr (8 : Nat) (Ty.int IntKind.u32)) p2)) :: (Blk.mem (CV.pure (Ty.arr (64 : Nat) (Ty.int IntKind.u32)) p3)) :: (Blk.mem (CV.pure (Ty.arr (64 : Nat) (Ty.int IntKind.u32)) p4)) :: (Blk.mem (CV.pure (Ty.arr (8 : Nat) (Ty.int IntKind.u32)) p5)) :: []) => shapeOK T 176 [0, 1, 6, 13, 77] (3 : Nat)
  | _, _, _, _, _, _ => false
def o_11_33_2_0 {R : Type} (G : (Int) → (List Int) → (List Int) → (List Int) → (List Int) → (List Int) → (Ex → St → Option R) → Option R) : St → (Ex → St → Option R) → Option R := fun T k => match T.sl.getD 0 .junk, T.sl.getD 1 .junk, T.sl.getD 6 .junk, T.sl.getD 13 .junk, T.sl.getD 77 .junk, T.hp with
  | CV.ptr (1 : Nat) [], CV.ptr (2 : Nat) [], CV.ptr (3 : Nat) [], CV.ptr (4 : Nat) [], CV.int IntKind.i64 p0, ((Blk.mem (CV.pure (Ty.arr (32 : Nat) (Ty.int IntKind.u8)) p1)) :: (Blk.mem (CV.pure (Ty.arr (8 : Nat) (Ty.int IntKind.u32)) p2)) :: (Blk.mem (CV.pure (Ty.arr (64 : Nat) (Ty.int IntKind.u32)) p3)) :: (Blk.mem (CV.pure (Ty.arr (64 : Nat) (Ty.int IntKind.u32)) p4)) :: (Blk.mem (CV.pure (Ty.arr (8 : Nat) (Ty.int IntKind.u32)) p5)) :: []) => gd (shapeOK T 176 [0, 1, 6, 13, 77] (3 : Nat)) (G p0 p1 p2 p3 p4 p5 k)
  | _, _, _, _, _, _ => none
theorem o_11_33_2_0_inv {R : Type} {G : (Int) → (List Int) → (List Int) → (List Int) → (List Int) → (List Int) → (Ex → St → Option R) → Option R} {T : St} {k : Ex → St → Option R} {r : R} (h : o_11_33_2_0 G T k = some r) : ∃ p0 p1 p2 p3 p4 p5, T = T_11_33_2_0 p0 p1 p2 p3 p4 p5 ∧ G p0 p1 p2 p3 p4 p5 k = some r := by
  unfold o_11_33_2_0 at h
  split at h
  · obtain ⟨hs, h'⟩ := gd_some h
    refine ⟨_, _, _, _, _, _, (st_of (asg := [(0, _), (1, _), (6, _), (13, _), (77, _)]) hs ⟨by assumption, by assumption, by assumption, by assumption, by assumption, trivial⟩ (by assumption)).trans ?_, h'⟩
    kernel_rfl
  · cases h
def T_11_33_3_0 (p0 : Int) (p1 : List Int) (p2 : List Int) (p3 : List Int) (p4 : List Int) : St := St.mk [CV.ptr (1 : Nat) [], CV.junk, CV.junk, CV.junk, CV.junk, CV.junk, CV.junk, CV.junk, CV.junk, CV.junk, CV.junk, CV.junk, CV.junk, CV.ptr (3 : Nat) [], CV.junk, CV.junk, CV.junk, CV.junk, CV.junk, CV.junk, CV.junk, CV.junk, CV.junk, CV.junk, CV.junk, CV.junk, CV.junk, CV.junk, CV.junk, CV.junk, CV.junk, CV.junk, CV.junk, CV.junk, CV.junk, CV.junk, CV.junk, CV.junk, CV.junk, CV.junk, CV.junk, CV.junk, CV.junk, CV.junk, CV.junk, CV.junk, CV.junk, CV.junk, CV.junk, CV.junk, CV.junk, CV.junk, CV.junk, CV.junk, CV.junk, CV.junk, CV.junk, CV.junk, CV.junk, CV.junk, CV.junk, CV.junk, CV.junk, CV.junk, CV.junk, CV.junk, CV.junk, CV.junk, CV.junk, CV.junk, CV.junk, CV.junk, CV.junk, CV.junk, CV.junk, CV.junk, CV.junk, CV.junk, CV.junk, CV.junk, CV.junk, CV.junk, CV.junk, CV.junk, CV.junk, CV.junk, CV.junk, CV.junk, CV.junk, CV.junk, CV.junk, CV.junk, CV.junk, CV.junk, CV.junk, CV.junk, CV.junk, CV.junk, CV.junk, CV.junk, CV.junk, CV.junk, CV.junk, CV.junk, CV.junk, CV.junk, CV.junk, CV.junk, CV.junk, CV.junk, CV.junk, CV.junk, CV.junk, CV.junk, CV.junk, CV.junk, CV.junk, CV.junk, CV.junk, CV.junk, CV.junk, CV.junk, CV.junk, CV.junk, CV.junk, CV.junk, CV.junk, CV.junk, CV.junk, CV.junk, CV.junk, CV.junk, CV.junk, CV.junk, CV.junk, CV.junk, CV.junk, CV.junk, CV.junk, CV.junk, CV.junk, CV.junk, CV.junk, CV.junk, CV.junk, CV.junk, CV.junk, CV.junk, CV.junk, CV.junk, CV.junk, CV.junk, CV.junk, CV.junk, CV.junk, CV.junk, CV.junk, CV.junk, CV.junk, CV.junk, CV.junk, CV.int IntKind.i64 p0, CV.junk, CV.junk, CV.junk, CV.junk, CV.junk, CV.junk, CV.junk, CV.junk, CV.junk, CV.junk, CV.junk, CV.junk, CV.junk, CV.junk] [Blk.mem (CV.pure (Ty.arr (32 : Nat) (Ty.int IntKind.u8)) p1), Blk.mem (CV.pure (Ty.arr (8 : Nat) (Ty.int IntKind.u32)) p2), Blk.mem (CV.pure (Ty.arr (64 : Nat) (Ty.int IntKind.u32)) p3), Blk.mem (CV.pure (Ty.arr (8 : Nat) (Ty.int IntKind.u32)) p4)] (3 : Nat)
def X_11_33_3_0_0 (p1 : List Int) (p2 : List Int) (p3 : List Int) : St := St.mk [CV.junk, CV.junk, CV.junk, CV.junk, CV.junk, CV.junk, CV.junk, CV.junk, CV.junk, CV.junk, CV.junk, CV.junk, CV.junk, CV.junk, CV.junk, CV.junk, CV.junk, CV.junk, CV.junk, CV.junk, CV.junk, CV.junk, CV.junk, CV.junk, CV.junk, CV.junk, CV.junk, CV.junk, CV.junk, CV.junk, CV.junk, CV.junk, CV.junk, CV.junk, CV.junk, CV.junk, CV.junk, CV.junk, CV.junk, CV.junk, CV.junk, CV.junk, CV.junk, CV.junk, CV.junk, CV.junk, CV.junk, CV.junk, CV.junk, CV.junk, CV.junk, CV.junk, CV.junk, CV.junk, CV.junk, CV.junk, CV.junk, CV.junk, CV.junk, CV.junk, CV.junk, CV.junk, CV.junk, CV.junk, CV.junk, CV.junk, CV.junk, CV.junk, CV.junk, CV.junk, CV.junk, CV.junk, CV.junk, CV.junk, CV.junk, CV.junk, CV.junk, CV.junk, CV.junk, CV.junk, CV.junk, CV.junk, CV.junk, CV.junk, CV.junk, CV.junk, CV.junk, CV.junk, CV.junk, CV.junk, CV.junk, CV.junk, CV.junk, CV.junk, CV.junk, CV.junk, CV.junk, CV.junk, CV.junk, CV.junk, CV.junk, CV.junk, CV.junk, CV.junk, CV.junk, CV.junk, CV.junk, CV.junk, CV.junk, CV.junk, CV.junk, CV.junk, CV.junk, CV.junk, CV.junk, CV.junk, CV.junk, CV.junk, CV.junk, CV.junk, CV.junk, CV.junk, CV.junk, CV.junk, CV.junk, CV.junk, CV.junk, CV.junk, CV.junk, CV.junk, CV.junk, CV.junk, CV.junk, CV.junk, CV.junk, CV.junk, CV.junk, CV.junk, CV.junk, CV.junk, CV.junk, CV.junk, CV.junk, CV.junk, CV.junk, CV.junk, CV.junk, CV.junk, CV.junk, CV.junk, CV.junk, CV.junk, CV.junk, CV.junk, CV.junk, CV.junk, CV.junk, CV.junk, CV.junk, CV.junk, CV.junk, CV.junk, CV.junk, CV.junk, CV.junk, CV.junk, CV.junk, CV.junk, CV.junk, CV.junk, CV.junk, CV.junk, CV.junk, CV.junk, CV.junk, CV.junk] [Blk.mem (CV.pure (Ty.arr (32 : Nat) (Ty.int IntKind.u8)) p1), Blk.mem (CV.pure (Ty.arr (8 : Nat) (Ty.int IntKind.u32)) p2), Blk.mem (CV.pure (Ty.arr (64 : Nat) (Ty.int IntKind.u32)) p3)] (3 : Nat)
inductive Sp.E_11_33_3_0 where
  | e0 (p1 : List Int) (p2 : List Int) (p3 : List Int)
def Sp.B_11_33_3_0 {R : Type} (r : Option Sp.E_11_33_3_0) (k0 : (List Int) → (List Int) → (List Int) → Option R) : Option R := match r with
  | none => none
  | some (.e0 p1 p2 p3) => k0 p1 p2 p3
def Sp.L_11_33_3_0 : Nat → (Int) → (List Int) → (List Int) → (List Int) → (List Int) → Option Sp.E_11_33_3_0
  | 0, _, _, _, _, _ => none
  | m + 1, p0, p1, p2, p3, p4 => bif decide (p0 < (8 : Int)) then gd (inB p0 (8 : Nat)) (gd (decide (Int.toNat p0 < (8 : Nat)) && true) (gd (inB p0 (8 : Nat)) (gd (decide (Int.toNat p0 < (8 : Nat)) && true) (gd (inB p0 (8 : Nat)) (gd (decide (Int.toNat p0 < (8 : Nat)) && true) (Sp.L_11_33_3_0 m (IntKind.wrap IntKind.i64 (p0 + (1 : Int))) p1 (List.set p2 (Int.toNat p0) (IntKind.wrap IntKind.u32 (List.getD p2 (Int.toNat p0) (0 : Int) + List.getD p4 (Int.toNat p0) (0 : Int)))) p3 p4)))))) else some (Sp.E_11_33_3_0.e0 p1 p2 p3)
def G_11_33_3_0 {R : Type} (p0 : Int) (p1 : List Int) (p2 : List Int) (p3 : List Int) (p4 : List Int) (k : Ex → St → Option R) : Option R := Sp.B_11_33_3_0 (Sp.L_11_33_3_0 FU p0 p1 p2 p3 p4) (fun p1 p2 p3 => k (Ex.exit (6 : Nat)) (X_11_33_3_0_0 p1 p2 p3))
def m_11_33_3_0 : St → Bool := fun T => match T.sl.getD 0 .junk, T.sl.getD 13 .junk, T.sl.getD 161 .junk, T.hp with
  | CV.ptr (1 : Nat) [], CV.ptr (3 : Nat) [], CV.int IntKind.i64 p0, ((Blk.mem (CV.pure (Ty.arr (32 : Nat) (Ty.int IntKind.u8)) p1)) :: (Blk.mem (CV.pure (Ty.arr (8 : Nat) (Ty.int IntKind.u32)) p2)) :: (Blk.mem (CV.pure (Ty.arr (64 : Nat) (Ty.int IntKind.u32)) p3)) :: (Blk.mem (CV.pure (Ty.arr (8 : Nat) (Ty.int IntKind.u32)) p4)) :: []) => shapeOK T 176 [0, 13, 161] (3 : Nat)
  | _, _, _, _ => false
def o_11_33_3_0 {R : Type} (G : (Int) → (List Int) → (List Int) → (List Int) → (List Int) → (Ex → St → Option R) → Option R) : St → (Ex → St → Option R) → Option R := fun T k => match T.sl.getD 0 .junk, T.sl.getD 13 .junk, T.sl.getD 161 .junk, T.hp with
  | CV.ptr (1 : Nat) [], CV.ptr (3 : Nat) [], CV.int IntKind.i64 p0, ((Blk.mem (CV.pure (Ty.arr (32 : Nat) (Ty.int IntKind.u8)) p1)) :: (Blk.mem (CV.pure (Ty.arr (8 : Nat) (Ty.int IntKind.u32)) p2)) :: (Blk.mem (CV.pure (Ty.arr (64 : Nat) (Ty.int IntKind.u32)) p3)) :: (Blk.mem (CV.pure (Ty.arr (8 : Nat) (Ty.int IntKind.u32)) p4)) :: []) => gd (shapeOK T 176 [0, 13, 161] (3 : Nat)) (G p0 p1 p2 p3 p4 k)
  | _, _, _, _ => none
theorem o_11_33_3_0_inv {R : Type} {G : (Int) → (List Int) → (List Int) → (List Int) → (List Int) → (Ex → St → Option R) → Option R} {T : St} {k : Ex → St → Option R} {r : R} (h : o_11_33_3_0 G T k = some r) : ∃ p0 p1 p2 p3 p4, T = T_11_33_3_0 p0 p1 p2 p3 p4 ∧ G p0 p1 p2 p3 p4 k = some r := by
  unfold o_11_33_3_0 at h
  split at h
  · obtain ⟨hs, h'⟩ := gd_some h
    refine ⟨_, _, _, _, _, (st_of (asg := [(0, _), (13, _), (161, _)]) hs ⟨by assumption, by assumption, by assumption, trivial⟩ (by assumption)).trans ?_, h'⟩
    kernel_rfl
  · cases h
def T_11_0 (p0 : List Int) (p1 : List Int) (p2 : List Int) (p3 : List Int) (p4 : List Int) : St := St.mk [CV.pure (Ty.slice (Ty.int IntKind.u8)) p0, CV.junk, CV.ptr (0 : Nat) [], CV.ptr (1 : Nat) [], CV.ptr (2 : Nat) [], CV.pure (Ty.slice (Ty.int IntKind.u8)) p1, CV.junk, CV.junk, CV.junk, CV.junk, CV.junk, CV.junk, CV.junk, CV.junk, CV.junk, CV.junk, CV.junk, CV.junk, CV.junk, CV.junk, CV.junk, CV.junk, CV.junk, CV.junk, CV.junk, CV.junk, CV.junk, CV.junk, CV.junk, CV.junk, CV.junk, CV.junk, CV.junk, CV.junk, CV.junk, CV.junk, CV.junk, CV.junk, CV.junk, CV.junk, CV.junk, CV.junk, CV.junk, CV.junk, CV.junk, CV.junk, CV.junk, CV.junk, CV.junk, CV.junk, CV.junk, CV.junk, CV.junk, CV.junk, CV.junk, CV.junk, CV.junk, CV.junk, CV.junk, CV.junk, CV.junk, CV.junk, CV.junk, CV.junk, CV.junk, CV.junk, CV.junk, CV.junk, CV.junk, CV.junk, CV.junk, CV.junk] [Blk.mem (CV.pure (Ty.arr (32 : Nat) (Ty.int IntKind.u8)) p2), Blk.mem (CV.pure (Ty.arr (8 : Nat) (Ty.int IntKind.u32)) p3), Blk.mem (CV.pure (Ty.arr (64 : Nat) (Ty.int IntKind.u32)) p4)] (0 : Nat)
def X_11_0_0 (p0 : List Int) (p1 : List Int) (p2 : List Int) (p3 : List Int) (p4 : List Int) : St := St.mk [CV.pure (Ty.slice (Ty.int IntKind.u8)) p0, CV.junk, CV.ptr (0 : Nat) [], CV.ptr (1 : Nat) [], CV.ptr (2 : Nat) [], CV.pure (Ty.slice (Ty.int IntKind.u8)) p1, CV.junk, CV.junk, CV.junk, CV.junk, CV.junk, CV.junk, CV.junk, CV.junk, CV.junk, CV.junk, CV.junk, CV.junk, CV.junk, CV.junk, CV.junk, CV.junk, CV.junk, CV.junk, CV.junk, CV.junk, CV.junk, CV.junk, CV.junk, CV.junk, CV.junk, CV.junk, CV.junk, CV.junk, CV.junk, CV.junk, CV.junk, CV.junk, CV.junk, CV.junk, CV.junk, CV.junk, CV.junk, CV.junk, CV.junk, CV.junk, CV.junk, CV.junk, CV.junk, CV.junk, CV.junk, CV.junk, CV.junk, CV.junk, CV.junk, CV.junk, CV.junk, CV.junk, CV.junk, CV.junk, CV.junk, CV.junk, CV.junk, CV.junk, CV.junk, CV.junk, CV.junk, CV.junk, CV.junk, CV.junk, CV.junk, CV.junk] [Blk.mem (CV.pure (Ty.arr (32 : Nat) (Ty.int IntKind.u8)) p2), Blk.mem (CV.pure (Ty.arr (8 : Nat) (Ty.int IntKind.u32)) p3), Blk.mem (CV.pure (Ty.arr (64 : Nat) (Ty.int IntKind.u32)) p4)] (0 : Nat)
inductive Sp.E_11_0 where
  | e0 (p0 : List Int) (p1 : List Int) (p2 : List Int) (p3 : List Int) (p4 : List Int)
def Sp.B_11_0 {R : Type} (r : Option Sp.E_11_0) (k0 : (List Int) → (List Int) → (List Int) → (List Int) → (List Int) → Option R) : Option R := match r with
  | none => none
  | some (.e0 p0 p1 p2 p3 p4) => k0 p0 p1 p2 p3 p4
def Sp.L_11_0 : Nat → (List Int) → (List Int) → (List Int) → (List Int) → (List Int) → Option Sp.E_11_0
  | 0, _, _, _, _, _ => none
  | m + 1, p0, p1, p2, p3, p4 => bif decide ((↑(List.length p1) : Int) ≥ (64 : Int)) then gd (sl3 (0 : Int) (64 : Int) (↑(List.length p1) : Int)) (Sp.B_11_33_0_0 (Sp.L_11_33_0_0 (4611686018427387904 : Nat) (List.take (64 : Nat) (List.drop (0 : Nat) p1)) (0 : Int) p2 p3 p4 (List.replicate (64 : Nat) (0 : Int))) fun (y19 y20 y21 y22 : List Int) => Sp.B_11_33_1_0 (Sp.L_11_33_1_0 (4611686018427387904 : Nat) (16 : Int) y19 y20 y21 y22) fun (y23 y24 y25 y26 : List Int) => Sp.B_11_33_2_0 (Sp.L_11_33_2_0 (4611686018427387904 : Nat) (0 : Int) y23 y24 y25 y26 y24) fun (y27 y28 y29 y30 : List Int) => Sp.B_11_33_3_0 (Sp.L_11_33_3_0 (4611686018427387904 : Nat) (0 : Int) y27 y28 y29 y30) fun (y31 y32 y33 : List Int) => gd (sl3 (64 : Int) (↑(List.length p1) : Int) (↑(List.length p1) : Int)) (Sp.L_11_0 m p0 (List.drop (64 : Nat) p1) y31 y32 y33)) else some (Sp.E_11_0.e0 p0 p1 p2 p3 p4)
def G_11_0 {R : Type} (p0 : List Int) (p1 : List Int) (p2 : List Int) (p3 : List Int) (p4 : List Int) (k : Ex → St → Option R) : Option R := Sp.B_11_0 (Sp.L_11_0 FU p0 p1 p2 p3 p4) (fun p0 p1 p2 p3 p4 => k (Ex.exit (0 : Nat)) (X_11_0_0 p0 p1 p2 p3 p4))
def o_11_0 {R : Type} (G : (List Int) → (List Int) → (List Int) → (List Int) → (List Int) → (Ex → St → Option R) → Option R) : St → (Ex → St → Option R) → Option R := fun T k => match T.sl.getD 0 .junk, T.sl.getD 2 .junk, T.sl.getD 3 .junk, T.sl.getD 4 .junk, T.sl.getD 5 .junk, T.hp with
  | CV.pure (Ty.slice (Ty.int IntKind.u8)) p0, CV.ptr (0 : Nat) [], CV.ptr (1 : Nat) [], CV.ptr (2 : Nat) [], CV.pure (Ty.slice (Ty.int IntKind.u8)) p1, ((Blk.mem (CV.pure (Ty.arr (32 : Nat) (Ty.int IntKind.u8)) p2)) :: (Blk.mem (CV.pure (Ty.arr (8 : Nat) (Ty.int IntKind.u32)) p3)) :: (Blk.mem (CV.pure (Ty.arr (64 : Nat) (Ty.int IntKind.u32)) p4)) :: []) => gd (shapeOK T 72 [0, 2, 3, 4, 5] (0 : Nat)) (G p0 p1 p2 p3 p4 k)
  | _, _, _, _, _, _ => none
theorem o_11_0_inv {R : Type} {G : (List Int) → (List Int) → (List Int) → (List Int) → (List Int) → (Ex → St → Option R) → Option R} {T : St} {k : Ex → St → Option R} {r : R} (h : o_11_0 G T k = some r) : ∃ p0 p1 p2 p3 p4, T = T_11_0 p0 p1 p2 p3 p4 ∧ G p0 p1 p2 p3 p4 k = some r := by
  unfold o_11_0 at h
  split at h
  · obtain ⟨hs, h'⟩ := gd_some h
    refine ⟨_, _, _, _, _, (st_of (asg := [(0, _), (2, _), (3, _), (4, _), (5, _)]) hs ⟨by assumption, by assumption, by assumption, by assumption, by assumption, trivial⟩ (by assumption)).trans ?_, h'⟩
    kernel_rfl
  · cases h
def T_11_33_0_1 (p0 : Nat) (p1 : Nat) (p2 : Nat) (p3 : Int) (p4 : List Int) (p5 : List Int) (p6 : List Int) (p7 : List Int) (p8 : List Int) : St := St.mk [CV.ptr (1 : Nat) [], CV.ptr (2 : Nat) [], CV.sub (3 : Nat) [] (1 : Nat) p0 p1 (some p2), CV.junk, CV.junk, CV.junk, CV.ptr (4 : Nat) [], CV.junk, CV.junk, CV.junk, CV.junk, CV.junk, CV.junk, CV.junk, CV.junk, CV.junk, CV.junk, CV.junk, CV.junk, CV.junk, CV.int IntKind.i64 p3, CV.junk, CV.junk, CV.junk, CV.junk, CV.junk, CV.junk, CV.junk, CV.junk, CV.junk, CV.junk, CV.junk, CV.junk, CV.junk, CV.junk, CV.junk, CV.junk, CV.junk, CV.junk, CV.junk, CV.junk, CV.junk, CV.junk, CV.junk, CV.junk, CV.junk, CV.junk, CV.junk, CV.junk, CV.junk, CV.junk, CV.junk, CV.junk, CV.junk, CV.junk, CV.junk, CV.junk, CV.junk, CV.junk, CV.junk, CV.junk, CV.junk, CV.junk, CV.junk, CV.junk, CV.junk, CV.junk, CV.junk, CV.junk, CV.junk, CV.junk, CV.junk, CV.junk, CV.junk, CV.junk, CV.junk, CV.junk, CV.junk, CV.junk, CV.junk, CV.junk, CV.junk, CV.junk, CV.junk, CV.junk, CV.junk, CV.junk, CV.junk, CV.junk, CV.junk, CV.junk, CV.junk, CV.junk, CV.junk, CV.junk, CV.junk, CV.junk, CV.junk, CV.junk, CV.junk, CV.junk, CV.junk, CV.junk, CV.junk, CV.junk, CV.junk, CV.junk, CV.junk, CV.junk, CV.junk, CV.junk, CV.junk, CV.junk, CV.junk, CV.junk, CV.junk, CV.junk, CV.junk, CV.junk, CV.junk, CV.junk, CV.junk, CV.junk, CV.junk, CV.junk, CV.junk, CV.junk, CV.junk, CV.junk, CV.junk, CV.junk, CV.junk, CV.junk, CV.junk, CV.junk, CV.junk, CV.junk, CV.junk, CV.junk, CV.junk, CV.junk, CV.junk, CV.junk, CV.junk, CV.junk, CV.junk, CV.junk, CV.junk, CV.junk, CV.junk, CV.junk, CV.junk, CV.junk, CV.junk, CV.junk, CV.junk, CV.junk, CV.junk, CV.junk, CV.junk, CV.junk, CV.junk, CV.junk, CV.junk, CV.junk, CV.junk, CV.junk, CV.junk, CV.junk, CV.junk, CV.junk, CV.junk, CV.junk, CV.junk, CV.junk, CV.junk] [Blk.mem (CV.pure (Ty.arr (32 : Nat) (Ty.int IntKind.u8)) p4), Blk.mem (CV.pure (Ty.arr (8 : Nat) (Ty.int IntKind.u32)) p5), Blk.mem (CV.pure (Ty.arr (64 : Nat) (Ty.int IntKind.u32)) p6), Blk.mem (CV.pure (Ty.arr (128 : Nat) (Ty.int IntKind.u8)) p7), Blk.mem (CV.pure (Ty.arr (64 : Nat) (Ty.int IntKind.u32)) p8)] (4 : Nat)
def X_11_33_0_1_0 (p4 : List Int) (p5 : List Int) (p6 : List Int) (p7 : List Int) (p8 : List Int) : St := St.mk [CV.ptr (1 : Nat) [], CV.ptr (2 : Nat) [], CV.junk, CV.junk, CV.junk, CV.junk, CV.ptr (4 : Nat) [], CV.junk, CV.junk, CV.junk, CV.junk, CV.junk, CV.junk, CV.junk, CV.junk, CV.junk, CV.junk, CV.junk, CV.junk, CV.junk, CV.junk, CV.junk, CV.junk, CV.junk, CV.junk, CV.junk, CV.junk, CV.junk, CV.junk, CV.junk, CV.junk, CV.junk, CV.junk, CV.junk, CV.junk, CV.junk, CV.junk, CV.junk, CV.junk, CV.junk, CV.junk, CV.junk, CV.junk, CV.junk, CV.junk, CV.junk, CV.junk, CV.junk, CV.junk, CV.junk, CV.junk, CV.junk, CV.junk, CV.junk, CV.junk, CV.junk, CV.junk, CV.junk, CV.junk, CV.junk, CV.junk, CV.junk, CV.junk, CV.junk, CV.junk, CV.junk, CV.junk, CV.junk, CV.junk, CV.junk, CV.junk, CV.junk, CV.junk, CV.junk, CV.junk, CV.junk, CV.junk, CV.junk, CV.junk, CV.junk, CV.junk, CV.junk, CV.junk, CV.junk, CV.junk, CV.junk, CV.junk, CV.junk, CV.junk, CV.junk, CV.junk, CV.junk, CV.junk, CV.junk, CV.junk, CV.junk, CV.junk, CV.junk, CV.junk, CV.junk, CV.junk, CV.junk, CV.junk, CV.junk, CV.junk, CV.junk, CV.junk, CV.junk, CV.junk, CV.junk, CV.junk, CV.junk, CV.junk, CV.junk, CV.junk, CV.junk, CV.junk, CV.junk, CV.junk, CV.junk, CV.junk, CV.junk, CV.junk, CV.junk, CV.junk, CV.junk, CV.junk, CV.junk, CV.junk, CV.junk, CV.junk, CV.junk, CV.junk, CV.junk, CV.junk, CV.junk, CV.junk, CV.junk, CV.junk, CV.junk, CV.junk, CV.junk, CV.junk, CV.junk, CV.junk, CV.junk, CV.junk, CV.junk, CV.junk, CV.junk, CV.junk, CV.junk, CV.junk, CV.junk, CV.junk, CV.junk, CV.junk, CV.junk, CV.junk, CV.junk, CV.junk, CV.junk, CV.junk, CV.junk, CV.junk, CV.junk, CV.junk, CV.junk, CV.junk, CV.junk, CV.junk, CV.junk, CV.junk, CV.junk, CV.junk, CV.junk] [Blk.mem (CV.pure (Ty.arr (32 : Nat) (Ty.int IntKind.u8)) p4), Blk.mem (CV.pure (Ty.arr (8 : Nat) (Ty.int IntKind.u32)) p5), Blk.mem (CV.pure (Ty.arr (64 : Nat) (Ty.int IntKind.u32)) p6), Blk.mem (CV.pure (Ty.arr (128 : Nat) (Ty.int IntKind.u8)) p7), Blk.mem (CV.pure (Ty.arr (64 : Nat) (Ty.int IntKind.u32)) p8)] (4 : Nat)
inductive Sp.E_11_33_0_1 where
  | e0 (p4 : List Int) (p5 : List Int) (p6 : List Int) (p7 : List Int) (p8 : List Int)
def Sp.B_11_33_0_1 {R : Type} (r : Option Sp.E_11_33_0_1) (k0 : (List Int) → (List Int) → (List Int) → (List Int) → (List Int) → Option R) : Option R := match r with
  | none => none
  | some (.e0 p4 p5 p6 p7 p8) => k0 p4 p5 p6 p7 p8
def Sp.L_11_33_0_1 : Nat → (Nat) → (Nat) → (Nat) → (Int) → (List Int) → (List Int) → (List Int) → (List Int) → (List Int) → Option Sp.E_11_33_0_1
  | 0, _, _, _, _, _, _, _, _, _ => none
  | m + 1, p0, p1, p2, p3, p4, p5, p6, p7, p8 => bif decide (p3 < (16 : Int)) then gd (sl3 (IntKind.wrap IntKind.i64 ((4 : Int) * p3)) (↑p1 : Int) (↑p1 : Int)) (gd (decide (p0 + Int.toNat (IntKind.wrap IntKind.i64 ((4 : Int) * p3)) + (Int.toNat (↑p1 : Int) - Int.toNat (IntKind.wrap IntKind.i64 ((4 : Int) * p3))) ≤ (128 : Nat)) && true && Sp.p_47 (List.take (Int.toNat (↑p1 : Int) - Int.toNat (IntKind.wrap IntKind.i64 ((4 : Int) * p3))) (List.drop (p0 + Int.toNat (IntKind.wrap IntKind.i64 ((4 : Int) * p3))) p7))) (gd (inB p3 (64 : Nat)) (gd (decide (Int.toNat p3 < (64 : Nat)) && true) (Sp.L_11_33_0_1 m p0 p1 p2 (IntKind.wrap IntKind.i64 (p3 + (1 : Int))) p4 p5 p6 p7 (List.set p8 (Int.toNat p3) (Prod.fst (Sp.v_47 (List.take (Int.toNat (↑p1 : Int) - Int.toNat (IntKind.wrap IntKind.i64 ((4 : Int) * p3))) (List.drop (p0 + Int.toNat (IntKind.wrap IntKind.i64 ((4 : Int) * p3))) p7))))))))) else some (Sp.E_11_33_0_1.e0 p4 p5 p6 p7 p8)
def G_11_33_0_1 {R : Type} (p0 : Nat) (p1 : Nat) (p2 : Nat) (p3 : Int) (p4 : List Int) (p5 : List Int) (p6 : List Int) (p7 : List Int) (p8 : List Int) (k : Ex → St → Option R) : Option R := Sp.B_11_33_0_1 (Sp.L_11_33_0_1 FU p0 p1 p2 p3 p4 p5 p6 p7 p8) (fun p4 p5 p6 p7 p8 => k (Ex.exit (0 : Nat)) (X_11_33_0_1_0 p4 p5 p6 p7 p8))
def m_11_33_0_1 : St → Bool := fun T => match T.sl.getD 0 .junk, T.sl.getD 1 .junk, T.sl.getD 2 .junk, T.sl.getD 6 .junk, T.sl.getD 20 .junk, T.hp with
  | CV.ptr (1 : Nat) [], CV.ptr (2 : Nat) [], CV.sub (3 : Nat) [] (1 : Nat) p0 p1 (some p2), CV.ptr (4 : Nat) [], CV.int IntKind.i64 p3, ((Blk.mem (CV.pure (Ty.arr (32 : Nat) (Ty.int IntKind.u8)) p4)) :: (Blk.mem (CV.pure (Ty.arr (8 : Nat) (Ty.int IntKind.u32)) p5)) :: (Blk.mem (CV.pure (Ty.arr (64 : Nat) (Ty.int IntKind.u32)) p6)) :: (Blk.mem (CV.pure (Ty.arr (128 : Nat) (Ty.int IntKind.u8)) p7)) :: (Blk.mem (CV.pure (Ty.arr (64 : Nat) (Ty.int IntKind.u32)) p8)) :: []) => shapeOK T 176 [0, 1, 2, 6, 20] (4 : Nat)
  | _, _, _, _, _, _ => false
def o_11_33_0_1 {R : Type} (G : (Nat) → (Nat) → (Nat) → (Int) → (List Int) → (List Int) → (List Int) → (List Int) → (List Int) → (Ex → St → Option R) → Option R) : St → (Ex → St → Option R) → Option R := fun T k => match T.sl.getD 0 .junk, T.sl.getD 1 .junk, T.sl.getD 2 .junk, T.sl.getD 6 .junk, T.sl.getD 20 .junk, T.hp with
  | CV.ptr (1 : Nat) [], CV.ptr (2 : Nat) [], CV.sub (3 : Nat) [] (1 : Nat) p0 p1 (some p2), CV.ptr (4 : Nat) [], CV.int IntKind.i64 p3, ((Blk.mem (CV.pure (Ty.arr (32 : Nat) (Ty.int IntKind.u8)) p4)) :: (Blk.mem (CV.pure (Ty.arr (8 : Nat) (Ty.int IntKind.u32)) p5)) :: (Blk.mem (CV.pure (Ty.arr (64 : Nat) (Ty.int IntKind.u32)) p6)) :: (Blk.mem (CV.pure (Ty.arr (128 : Nat) (Ty.int IntKind.u8)) p7)) :: (Blk.mem (CV.pure (Ty.arr (64 : Nat) (Ty.int IntKind.u32)) p8)) :: []) => gd (shapeOK T 176 [0, 1, 2, 6, 20] (4 : Nat)) (G p0 p1 p2 p3 p4 p5 p6 p7 p8 k)
  | _, _, _, _, _, _ => none
theorem o_11_33_0_1_inv {R : Type} {G : (Nat) → (Nat) → (Nat) → (Int) → (List Int) → (List Int) → (List Int) → (List Int) → (List Int) → (Ex → St → Option R) → Option R} {T : St} {k : Ex → St → Option R} {r : R} (h : o_11_33_0_1 G T k = some r) : ∃ p0 p1 p2 p3 p4 p5 p6 p7 p8, T = T_11_33_0_1 p0 p1 p2 p3 p4 p5 p6 p7 p8 ∧ G p0 p1 p2 p3 p4 p5 p6 p7 p8 k = some r := by
  unfold o_11_33_0_1 at h
  split at h
  · obtain ⟨hs, h'⟩ := gd_some h
    refine ⟨_, _, _, _, _, _, _, _, _, (st_of (asg := [(0, _), (1, _), (2, _), (6, _), (20, _)]) hs ⟨by assumption, by assumption, by assumption, by assumption, by assumption, trivial⟩ (by assumption)).trans ?_, h'⟩
    kernel_rfl
  · cases h
def T_11_33_1_1 (p0 : Int) (p1 : List Int) (p2 : List Int) (p3 : List Int) (p4 : List Int) (p5 : List Int) : St := St.mk [CV.ptr (1 : Nat) [], CV.ptr (2 : Nat) [], CV.junk, CV.junk, CV.junk, CV.junk, CV.ptr (4 : Nat) [], CV.junk, CV.int IntKind.i64 p0, CV.junk, CV.junk, CV.junk, CV.junk, CV.junk, CV.junk, CV.junk, CV.junk, CV.junk, CV.junk, CV.junk, CV.junk, CV.junk, CV.junk, CV.junk, CV.junk, CV.junk, CV.junk, CV.junk, CV.junk, CV.junk, CV.junk, CV.junk, CV.junk, CV.junk, CV.junk, CV.junk, CV.junk, CV.junk, CV.junk, CV.junk, CV.junk, CV.junk, CV.junk, CV.junk, CV.junk, CV.junk, CV.junk, CV.junk, CV.junk, CV.junk, CV.junk, CV.junk, CV.junk, CV.junk, CV.junk, CV.junk, CV.junk, CV.junk, CV.junk, CV.junk, CV.junk, CV.junk, CV.junk, CV.junk, CV.junk, CV.junk, CV.junk, CV.junk, CV.junk, CV.junk, CV.junk, CV.junk, CV.junk, CV.junk, CV.junk, CV.junk, CV.junk, CV.junk, CV.junk, CV.junk, CV.junk, CV.junk, CV.junk, CV.junk, CV.junk, CV.junk, CV.junk, CV.junk, CV.junk, CV.junk, CV.junk, CV.junk, CV.junk, CV.junk, CV.junk, CV.junk, CV.junk, CV.junk, CV.junk, CV.junk, CV.junk, CV.junk, CV.junk, CV.junk, CV.junk, CV.junk, CV.junk, CV.junk, CV.junk, CV.junk, CV.junk, CV.junk, CV.junk, CV.junk, CV.junk, CV.junk, CV.junk, CV.junk, CV.junk, CV.junk, CV.junk, CV.junk, CV.junk, CV.junk, CV.junk, CV.junk, CV.junk, CV.junk, CV.junk, CV.junk, CV.junk, CV.junk, CV.junk, CV.junk, CV.junk, CV.junk, CV.junk, CV.junk, CV.junk, CV.junk, CV.junk, CV.junk, CV.junk, CV.junk, CV.junk, CV.junk, CV.junk, CV.junk, CV.junk, CV.junk, CV.junk, CV.junk, CV.junk, CV.junk, CV.junk, CV.junk, CV.junk, CV.junk, CV.junk, CV.junk, CV.junk, CV.junk, CV.junk, CV.junk, CV.junk, CV.junk, CV.junk, CV.junk, CV.junk, CV.junk, CV.junk, CV.junk, CV.junk, CV.junk, CV.junk, CV.junk] [Blk.mem (CV.pure (Ty.arr (32 : Nat) (Ty.int IntKind.u8)) p1), Blk.mem (CV.pure (Ty.arr (8 : Nat) (Ty.int IntKind.u32)) p2), Blk.mem (CV.pure (Ty.arr (64 : Nat) (Ty.int IntKind.u32)) p3), Blk.mem (CV.pure (Ty.arr (128 : Nat) (Ty.int IntKind.u8)) p4), Blk.mem (CV.pure (Ty.arr (64 : Nat) (Ty.int IntKind.u32)) p5)] (4 : Nat)
def X_11_33_1_1_0 (p1 : List Int) (p2 : List Int) (p3 : List Int) (p4 : List Int) (p5 : List Int) : St := St.mk [CV.ptr (1 : Nat) [], CV.ptr (2 : Nat) [], CV.junk, CV.junk, CV.junk, CV.junk, CV.ptr (4 : Nat) [], CV.junk, CV.junk, CV.junk, CV.junk, CV.junk, CV.junk, CV.junk, CV.junk, CV.junk, CV.junk, CV.junk, CV.junk, CV.junk, CV.junk, CV.junk, CV.junk, CV.junk, CV.junk, CV.junk, CV.junk, CV.junk, CV.junk, CV.junk, CV.junk, CV.junk, CV.junk, CV.junk, CV.junk, CV.junk, CV.junk, CV.junk, CV.junk, CV.junk, CV.junk, CV.junk, CV.junk, CV.junk, CV.junk, CV.junk, CV.junk, CV.junk, CV.junk, CV.junk, CV.junk, CV.junk, CV.junk, CV.junk, CV.junk, CV.junk, CV.junk, CV.junk, CV.junk, CV.junk, CV.junk, CV.junk, CV.junk, CV.junk, CV.junk, CV.junk, CV.junk, CV.junk, CV.junk, CV.junk, CV.junk, CV.junk, CV.junk, CV.junk, CV.junk, CV.junk, CV.junk, CV.junk, CV.junk, CV.junk, CV.junk, CV.junk, CV.junk, CV.junk, CV.junk, CV.junk, CV.junk, CV.junk, CV.junk, CV.junk, CV.junk, CV.junk, CV.junk, CV.junk, CV.junk, CV.junk, CV.junk, CV.junk, CV.junk, CV.junk, CV.junk, CV.junk, CV.junk, CV.junk, CV.junk, CV.junk, CV.junk, CV.junk, CV.junk, CV.junk, CV.junk, CV.junk, CV.junk, CV.junk, CV.junk, CV.junk, CV.junk, CV.junk, CV.junk, CV.junk, CV.junk, CV.junk, CV.junk, CV.junk, CV.junk, CV.junk, CV.junk, CV.junk, CV.junk, CV.junk, CV.junk, CV.junk, CV.junk, CV.junk, CV.junk, CV.junk, CV.junk, CV.junk, CV.junk, CV.junk, CV.junk, CV.junk, CV.junk, CV.junk, CV.junk, CV.junk, CV.junk, CV.junk, CV.junk, CV.junk, CV.junk, CV.junk, CV.junk, CV.junk, CV.junk, CV.junk, CV.junk, CV.junk, CV.junk, CV.junk, CV.junk, CV.junk, CV.junk, CV.junk, CV.junk, CV.junk, CV.junk, CV.junk, CV.junk, CV.junk, CV.junk, CV.junk, CV.junk, CV.junk, CV.junk, CV.junk] [Blk.mem (CV.pure (Ty.arr (32 : Nat) (Ty.int IntKind.u8)) p1), Blk.mem (CV.pure (Ty.arr (8 : Nat) (Ty.int IntKind.u32)) p2), Blk.mem (CV.pure (Ty.arr (64 : Nat) (Ty.int IntKind.u32)) p3), Blk.mem (CV.pure (Ty.arr (128 : Nat) (Ty.int IntKind.u8)) p4), Blk.mem (CV.pure (Ty.arr (64 : Nat) (Ty.int IntKind.u32)) p5)] (4 : Nat)
inductive Sp.E_11_33_1_1 where
  | e0 (p1 : List Int) (p2 : List Int) (p3 : List Int) (p4 : List Int) (p5 : List Int)
def Sp.B_11_33_1_1 {R : Type} (r : Option Sp.E_11_33_1_1) (k0 : (List Int) → (List Int) → (List Int) → (List Int) → (List Int) → Option R) : Option R := match r with
  | none => none
  | some (.e0 p1 p2 p3 p4 p5) => k0 p1 p2 p3 p4 p5
def Sp.L_11_33_1_1 : Nat → (Int) → (List Int) → (List Int) → (List Int) → (List Int) → (List Int) → Option Sp.E_11_33_1_1
  | 0, _, _, _, _, _, _ => none
  | m + 1, p0, p1, p2, p3, p4, p5 => bif decide (p0 < (64 : Int)) then gd (inB (IntKind.wrap IntKind.i64 (p0 - (15 : Int))) (64 : Nat)) (gd (decide (Int.toNat (IntKind.wrap IntKind.i64 (p0 - (15 : Int))) < (64 : Nat)) && true) (gd (inB (IntKind.wrap IntKind.i64 (p0 - (2 : Int))) (64 : Nat)) (gd (decide (Int.toNat (IntKind.wrap IntKind.i64 (p0 - (2 : Int))) < (64 : Nat)) && true) (gd (Sp.p_49 (List.getD p5 (Int.toNat (IntKind.wrap IntKind.i64 (p0 - (15 : Int)))) (0 : Int)) (7 : Int)) (gd (Sp.p_49 (List.getD p5 (Int.toNat (IntKind.wrap IntKind.i64 (p0 - (15 : Int)))) (0 : Int)) (18 : Int)) (gd (Sp.p_49 (List.getD p5 (Int.toNat (IntKind.wrap IntKind.i64 (p0 - (2 : Int)))) (0 : Int)) (17 : Int)) (gd (Sp.p_49 (List.getD p5 (Int.toNat (IntKind.wrap IntKind.i64 (p0 - (2 : Int)))) (0 : Int)) (19 : Int)) (gd (inB (IntKind.wrap IntKind.i64 (p0 - (7 : Int))) (64 : Nat)) (gd (decide (Int.toNat (IntKind.wrap IntKind.i64 (p0 - (7 : Int))) < (64 : Nat)) && true) (gd (inB (IntKind.wrap IntKind.i64 (p0 - (16 : Int))) (64 : Nat)) (gd (decide (Int.toNat (IntKind.wrap IntKind.i64 (p0 - (16 : Int))) < (64 : Nat)) && true) (gd (inB p0 (64 : Nat)) (gd (decide (Int.toNat p0 < (64 : Nat)) && true) (Sp.L_11_33_1_1 m (IntKind.wrap IntKind.i64 (p0 + (1 : Int))) p1 p2 p3 p4 (List.set p5 (Int.toNat p0) (IntKind.wrap IntKind.u32 (IntKind.wrap IntKind.u32 (IntKind.wrap IntKind.u32 (Sp.xorI IntKind.u32 (Sp.xorI IntKind.u32 (Prod.fst (Sp.v_49 (List.getD p5 (Int.toNat (IntKind.wrap IntKind.i64 (p0 - (2 : Int)))) (0 : Int)) (17 : Int))) (Prod.fst (Sp.v_49 (List.getD p5 (Int.toNat (IntKind.wrap IntKind.i64 (p0 - (2 : Int)))) (0 : Int)) (19 : Int)))) (Int.fdiv (List.getD p5 (Int.toNat (IntKind.wrap IntKind.i64 (p0 - (2 : Int)))) (0 : Int)) (1024 : Int)) + List.getD p5 (Int.toNat (IntKind.wrap IntKind.i64 (p0 - (7 : Int)))) (0 : Int)) + Sp.xorI IntKind.u32 (Sp.xorI IntKind.u32 (Prod.fst (Sp.v_49 (List.getD p5 (Int.toNat (IntKind.wrap IntKind.i64 (p0 - (15 : Int)))) (0 : Int)) (7 : Int))) (Prod.fst (Sp.v_49 (List.getD p5 (Int.toNat (IntKind.wrap IntKind.i64 (p0 - (15 : Int)))) (0 : Int)) (18 : Int)))) (Int.fdiv (List.getD p5 (Int.toNat (IntKind.wrap IntKind.i64 (p0 - (15 : Int)))) (0 : Int)) (8 : Int))) + List.getD p5 (Int.toNat (IntKind.wrap IntKind.i64 (p0 - (16 : Int)))) (0 : Int)))))))))))))))))) else some (Sp.E_11_33_1_1.e0 p1 p2 p3 p4 p5)
def G_11_33_1_1 {R : Type} (p0 : Int) (p1 : List Int) (p2 : List Int) (p3 : List Int) (p4 : List Int) (p5 : List Int) (k : Ex → St → Option R) : Option R := Sp.B_11_33_1_1 (Sp.L_11_33_1_1 FU p0 p1 p2 p3 p4 p5) (fun p1 p2 p3 p4 p5 => k (Ex.exit (2 : Nat)) (X_11_33_1_1_0 p1 p2 p3 p4 p5))
def m_11_33_1_1 : St → Bool := fun T => match T.sl.getD 0 .junk, T.sl.getD 1 .junk, T.sl.getD 6 .junk, T.sl.getD 8 .junk, T.hp with
  | CV.ptr (1 : Nat) [], CV.ptr (2 : Nat) [], CV.ptr (4 : Nat) [], CV.int IntKind.i64 p0, ((Blk.mem (CV.pure (Ty.arr (32 : Nat) (Ty.int IntKind.u8)) p1)) :: (Blk.mem (CV.pure (Ty.arr (8 : Nat) (Ty.int IntKind.u32)) p2)) :: (Blk.mem (CV.pure (Ty.arr (64 : Nat) (Ty.int IntKind.u32)) p3)) :: (Blk.mem (CV.pure (Ty.arr (128 : Nat) (Ty.int IntKind.u8)) p4)) :: (Blk.mem (CV.pure (Ty.arr (64 : Nat) (Ty.int IntKind.u32)) p5)) :: []) => shapeOK T 176 [0, 1, 6, 8] (4 : Nat)
  | _, _, _, _, _ => false
def o_11_33_1_1 {R : Type} (G : (Int) → (List Int) → (List Int) → (List Int) → (List Int) → (List Int) → (Ex → St → Option R) → Option R) : St → (Ex → St → Option R) → Option R := fun T k => match T.sl.getD 0 .junk, T.sl.getD 1 .junk, T.sl.getD 6 .junk, T.sl.getD 8 .junk, T.hp with
  | CV.ptr (1 : Nat) [], CV.ptr (2 : Nat) [], CV.ptr (4 : Nat) [], CV.int IntKind.i64 p0, ((Blk.mem (CV.pure (Ty.arr (32 : Nat) (Ty.int IntKind.u8)) p1)) :: (Blk.mem (CV.pure (Ty.arr (8 : Nat) (Ty.int IntKind.u32)) p2)) :: (Blk.mem (CV.pure (Ty.arr (64 : Nat) (Ty.int IntKind.u32)) p3)) :: (Blk.mem (CV.pure (Ty.arr (128 : Nat) (Ty.int IntKind.u8)) p4)) :: (Blk.mem (CV.pure (Ty.arr (64 : Nat) (Ty.int IntKind.u32)) p5)) :: []) => gd (shapeOK T 176 [0, 1, 6, 8] (4 : Nat)) (G p0 p1 p2 p3 p4 p5 k)
  | _, _, _, _, _ => none
theorem o_11_33_1_1_inv {R : Type} {G : (Int) → (List Int) → (List Int) → (List Int) → (List Int) → (List Int) → (Ex → St → Option R) → Option R} {T : St} {k : Ex → St → Option R} {r : R} (h : o_11_33_1_1 G T k = some r) : ∃ p0 p1 p2 p3 p4 p5, T = T_11_33_1_1 p0 p1 p2 p3 p4 p5 ∧ G p0 p1 p2 p3 p4 p5 k = some r := by
  unfold o_11_33_1_1 at h
  split at h
  · obtain ⟨hs, h'⟩ := gd_some h
    refine ⟨_, _, _, _, _, _, (st_of (asg := [(0, _), (1, _), (6, _), (8, _)]) hs ⟨by assumption, by assumption, by assumption, by assumption, trivial⟩ (by assumption)).trans ?_, h'⟩
    kernel_rfl
  · cases h
def T_11_33_2_1 (p0 : Int) (p1 : List Int) (p2 : List Int) (p3 : List Int) (p4 : List Int) (p5 : List Int) (p6 : List Int) : St := St.mk [CV.ptr (1 : Nat) [], CV.ptr (2 : Nat) [], CV.junk, CV.junk, CV.junk, CV.junk, CV.ptr (4 : Nat) [], CV.junk, CV.junk, CV.junk, CV.junk, CV.junk, CV.junk, CV.ptr (5 : Nat) [], CV.junk, CV.junk, CV.junk, CV.junk, CV.junk, CV.junk, CV.junk, CV.junk, CV.junk, CV.junk, CV.junk, CV.junk, CV.junk, CV.junk, CV.junk, CV.junk, CV.junk, CV.junk, CV.junk, CV.junk, CV.junk, CV.junk, CV.junk, CV.junk, CV.junk, CV.junk, CV.junk, CV.junk, CV.junk, CV.junk, CV.junk, CV.junk, CV.junk, CV.junk, CV.junk, CV.junk, CV.junk, CV.junk, CV.junk, CV.junk, CV.junk, CV.junk, CV.junk, CV.junk, CV.junk, CV.junk, CV.junk, CV.junk, CV.junk, CV.junk, CV.junk, CV.junk, CV.junk, CV.junk, CV.junk, CV.junk, CV.junk, CV.junk, CV.junk, CV.junk, CV.junk, CV.junk, CV.junk, CV.int IntKind.i64 p0, CV.junk, CV.junk, CV.junk, CV.junk, CV.junk, CV.junk, CV.junk, CV.junk, CV.junk, CV.junk, CV.junk, CV.junk, CV.junk, CV.junk, CV.junk, CV.junk, CV.junk, CV.junk, CV.junk, CV.junk, CV.junk, CV.junk, CV.junk, CV.junk, CV.junk, CV.junk, CV.junk, CV.junk, CV.junk, CV.junk, CV.junk, CV.junk, CV.junk, CV.junk, CV.junk, CV.junk, CV.junk, CV.junk, CV.junk, CV.junk, CV.junk, CV.junk, CV.junk, CV.junk, CV.junk, CV.junk, CV.junk, CV.junk, CV.junk, CV.junk, CV.junk, CV.junk, CV.junk, CV.junk, CV.junk, CV.junk, CV.junk, CV.junk, CV.junk, CV.junk, CV.junk, CV.junk, CV.junk, CV.junk, CV.junk, CV.junk, CV.junk, CV.junk, CV.junk, CV.junk, CV.junk, CV.junk, CV.junk, CV.junk, CV.junk, CV.junk, CV.junk, CV.junk, CV.junk, CV.junk, CV.junk, CV.junk, CV.junk, CV.junk, CV.junk, CV.junk, CV.junk, CV.junk, CV.junk, CV.junk, CV.junk, CV.junk, CV.junk, CV.junk, CV.junk, CV.junk, CV.junk, CV.junk] [Blk.mem (CV.pure (Ty.arr (32 : Nat) (Ty.int IntKind.u8)) p1), Blk.mem (CV.pure (Ty.arr (8 : Nat) (Ty.int IntKind.u32)) p2), Blk.mem (CV.pure (Ty.arr (64 : Nat) (Ty.int IntKind.u32)) p3), Blk.mem (CV.pure (Ty.arr (128 : Nat) (Ty.int IntKind.u8)) p4), Blk.mem (CV.pure (Ty.arr (64 : Nat) (Ty.int IntKind.u32)) p5), Blk.mem (CV.pure (Ty.arr (8 : Nat) (Ty.int IntKind.u32)) p6)] (4 : Nat)
def X_11_33_2_1_0 (p1 : List Int) (p2 : List Int) (p3 : List Int) (p4 : List Int) (p6 : List Int) : St := St.mk [CV.ptr (1 : Nat) [], CV.junk, CV.junk, CV.junk, CV.junk, CV.junk, CV.junk, CV.junk, CV.junk, CV.junk, CV.junk, CV.junk, CV.junk, CV.ptr (4 : Nat) [], CV.junk, CV.junk, CV.junk, CV.junk, CV.junk, CV.junk, CV.junk, CV.junk, CV.junk, CV.junk, CV.junk, CV.junk, CV.junk, CV.junk, CV.junk, CV.junk, CV.junk, CV.junk, CV.junk, CV.junk, CV.junk, CV.junk, CV.junk, CV.junk, CV.junk, CV.junk, CV.junk, CV.junk, CV.junk, CV.junk, CV.junk, CV.junk, CV.junk, CV.junk, CV.junk, CV.junk, CV.junk, CV.junk, CV.junk, CV.junk, CV.junk, CV.junk, CV.junk, CV.junk, CV.junk, CV.junk, CV.junk, CV.junk, CV.junk, CV.junk, CV.junk, CV.junk, CV.junk, CV.junk, CV.junk, CV.junk, CV.junk, CV.junk, CV.junk, CV.junk, CV.junk, CV.junk, CV.junk, CV.junk, CV.junk, CV.junk, CV.junk, CV.junk, CV.junk, CV.junk, CV.junk, CV.junk, CV.junk, CV.junk, CV.junk, CV.junk, CV.junk, CV.junk, CV.junk, CV.junk, CV.junk, CV.junk, CV.junk, CV.junk, CV.junk, CV.junk, CV.junk, CV.junk, CV.junk, CV.junk, CV.junk, CV.junk, CV.junk, CV.junk, CV.junk, CV.junk, CV.junk, CV.junk, CV.junk, CV.junk, CV.junk, CV.junk, CV.junk, CV.junk, CV.junk, CV.junk, CV.junk, CV.junk, CV.junk, CV.junk, CV.junk, CV.junk, CV.junk, CV.junk, CV.junk, CV.junk, CV.junk, CV.junk, CV.junk, CV.junk, CV.junk, CV.junk, CV.junk, CV.junk, CV.junk, CV.junk, CV.junk, CV.junk, CV.junk, CV.junk, CV.junk, CV.junk, CV.junk, CV.junk, CV.junk, CV.junk, CV.junk, CV.junk, CV.junk, CV.junk, CV.junk, CV.junk, CV.junk, CV.junk, CV.junk, CV.junk, CV.junk, CV.junk, CV.junk, CV.junk, CV.junk, CV.junk, CV.junk, CV.junk, CV.junk, CV.junk, CV.junk, CV.junk, CV.junk, CV.junk, CV.junk, CV.junk] [Blk.mem (CV.pure (Ty.arr (32 : Nat) (Ty.int IntKind.u8)) p1), Blk.mem (CV.pure (Ty.arr (8 : Nat) (Ty.int IntKind.u32)) p2), Blk.mem (CV.pure (Ty.arr (64 : Nat) (Ty.int IntKind.u32)) p3), Blk.mem (CV.pure (Ty.arr (128 : Nat) (Ty.int IntKind.u8)) p4), Blk.mem (CV.pure (Ty.arr (8 : Nat) (Ty.int IntKind.u32)) p6)] (4 : Nat)
inductive Sp.E_11_33_2_1 where
  | e0 (p1 : List Int) (p2 : List Int) (p3 : List Int) (p4 : List Int) (p6 : List Int)
def Sp.B_11_33_2_1 {R : Type} (r : Option Sp.E_11_33_2_1) (k0 : (List Int) → (List Int) → (List Int) → (List Int) → (List Int) → Option R) : Option R := match r with
  | none => none
  | some (.e0 p1 p2 p3 p4 p6) => k0 p1 p2 p3 p4 p6
def Sp.L_11_33_2_1 : Nat → (Int) → (List Int) → (List Int) → (List Int) → (List Int) → (List Int) → (List Int) → Option Sp.E_11_33_2_1
  | 0, _, _, _, _, _, _, _ => none
  | m + 1, p0, p1, p2, p3, p4, p5, p6 => bif decide (p0 < (64 : Int)) then gd (Sp.p_49 (List.getD p6 (4 : Nat) (0 : Int)) (6 : Int)) (gd (Sp.p_49 (List.getD p6 (4 : Nat) (0 : Int)) (11 : Int)) (gd (Sp.p_49 (List.getD p6 (4 : Nat) (0 : Int)) (25 : Int)) (gd (inB p0 (64 : Nat)) (gd (decide (Int.toNat p0 < (64 : Nat)) && true) (gd (inB p0 (64 : Nat)) (gd (decide (Int.toNat p0 < (64 : Nat)) && true) (gd (Sp.p_49 (List.getD p6 (0 : Nat) (0 : Int)) (2 : Int)) (gd (Sp.p_49 (List.getD p6 (0 : Nat) (0 : Int)) (13 : Int)) (gd (Sp.p_49 (List.getD p6 (0 : Nat) (0 : Int)) (22 : Int)) (Sp.L_11_33_2_1 m (IntKind.wrap IntKind.i64 (p0 + (1 : Int))) p1 p2 p3 p4 p5 [IntKind.wrap IntKind.u32 (IntKind.wrap IntKind.u32 (IntKind.wrap IntKind.u32 (IntKind.wrap IntKind.u32 (IntKind.wrap IntKind.u32 (List.getD p6 (7 : Nat) (0 : Int) + Sp.xorI IntKind.u32 (Sp.xorI IntKind.u32 (Prod.fst (Sp.v_49 (List.getD p6 (4 : Nat) (0 : Int)) (6 : Int))) (Prod.fst (Sp.v_49 (List.getD p6 (4 : Nat) (0 : Int)) (11 : Int)))) (Prod.fst (Sp.v_49 (List.getD p6 (4 : Nat) (0 : Int)) (25 : Int)))) + Sp.xorI IntKind.u32 (Sp.andI IntKind.u32 (List.getD p6 (4 : Nat) (0 : Int)) (List.getD p6 (5 : Nat) (0 : Int))) (Sp.andI IntKind.u32 (Sp.xorI IntKind.u32 (4294967295 : Int) (List.getD p6 (4 : Nat) (0 : Int))) (List.getD p6 (6 : Nat) (0 : Int)))) + List.getD p3 (Int.toNat p0) (0 : Int)) + List.getD p5 (Int.toNat p0) (0 : Int)) + IntKind.wrap IntKind.u32 (Sp.xorI IntKind.u32 (Sp.xorI IntKind.u32 (Prod.fst (Sp.v_49 (List.getD p6 (0 : Nat) (0 : Int)) (2 : Int))) (Prod.fst (Sp.v_49 (List.getD p6 (0 : Nat) (0 : Int)) (13 : Int)))) (Prod.fst (Sp.v_49 (List.getD p6 (0 : Nat) (0 : Int)) (22 : Int))) + Sp.xorI IntKind.u32 (Sp.xorI IntKind.u32 (Sp.andI IntKind.u32 (List.getD p6 (0 : Nat) (0 : Int)) (List.getD p6 (1 : Nat) (0 : Int))) (Sp.andI IntKind.u32 (List.getD p6 (0 : Nat) (0 : Int)) (List.getD p6 (2 : Nat) (0 : Int)))) (Sp.andI IntKind.u32 (List.getD p6 (1 : Nat) (0 : Int)) (List.getD p6 (2 : Nat) (0 : Int))))), List.getD p6 (0 : Nat) (0 : Int), List.getD p6 (1 : Nat) (0 : Int), List.getD p6 (2 : Nat) (0 : Int), IntKind.wrap IntKind.u32 (List.getD p6 (3 : Nat) (0 : Int) + IntKind.wrap IntKind.u32 (IntKind.wrap IntKind.u32 (IntKind.wrap IntKind.u32 (IntKind.wrap IntKind.u32 (List.getD p6 (7 : Nat) (0 : Int) + Sp.xorI IntKind.u32 (Sp.xorI IntKind.u32 (Prod.fst (Sp.v_49 (List.getD p6 (4 : Nat) (0 : Int)) (6 : Int))) (Prod.fst (Sp.v_49 (List.getD p6 (4 : Nat) (0 : Int)) (11 : Int)))) (Prod.fst (Sp.v_49 (List.getD p6 (4 : Nat) (0 : Int)) (25 : Int)))) + Sp.xorI IntKind.u32 (Sp.andI IntKind.u32 (List.getD p6 (4 : Nat) (0 : Int)) (List.getD p6 (5 : Nat) (0 : Int))) (Sp.andI IntKind.u32 (Sp.xorI IntKind.u32 (4294967295 : Int) (List.getD p6 (4 : Nat) (0 : Int))) (List.getD p6 (6 : Nat) (0 : Int)))) + List.getD p3 (Int.toNat p0) (0 : Int)) + List.getD p5 (Int.toNat p0) (0 : Int))), List.getD p6 (4 : Nat) (0 : Int), List.getD p6 (5 : Nat) (0 : Int), List.getD p6 (6 : Nat) (0 : Int)])))))))))) else some (Sp.E_11_33_2_1.e0 p1 p2 p3 p4 p6)
def G_11_33_2_1 {R : Type} (p0 : Int) (p1 : List Int) (p2 : List Int) (p3 : List Int) (p4 : List Int) (p5 : List Int) (p6 : List Int) (k : Ex → St → Option R) : Option R := Sp.B_11_33_2_1 (Sp.L_11_33_2_1 FU p0 p1 p2 p3 p4 p5 p6) (fun p1 p2 p3 p4 p6 => k (Ex.exit (4 : Nat)) (X_11_33_2_1_0 p1 p2 p3 p4 p6))
def m_11_33_2_1 : St → Bool := fun T => match T.sl.getD 0 .junk, T.sl.getD 1 .junk, T.sl.getD 6 .junk, T.sl.getD 13 .junk, T.sl.getD 77 .junk, T.hp with
  | CV.ptr (1 : Nat) [], CV.ptr (2 : Nat) [], CV.ptr (4 : Nat) [], CV.ptr (5 : Nat) [], CV.int IntKind.i64 p0, ((Blk.mem (CV.pure (Ty.arr (32 : Nat) (Ty.int IntKind.u8)) p1)) :: (Blk.mem (CV.pure (Ty.arr (8 : Nat) (Ty.int IntKind.u32)) p2)) :: (Blk.mem (CV.pure (Ty.arr (64 : Nat) (Ty.int IntKind.u32)) p3)) :: (Blk.mem (CV.pure (Ty.arr (128 : Nat) (Ty.int IntKind.u8)) p4)) :: (Blk.mem (CV.pure (Ty.arr (64 : Nat) (Ty.int IntKind.u32)) p5)) :: (Blk.mem (CV.pure (Ty.arr (8 : Nat) (Ty.int IntKind.u32)) p6)) :: []) => shapeOK T 176 [0, 1, 6, 13, 77] (4 : Nat)
  | _, _, _, _, _, _ => false
def o_11_33_2_1 {R : Type} (G : (Int) → (List Int) → (List Int) → (List Int) → (List Int) → (List Int) → (List Int) → (Ex → St → Option R) → Option R) : St → (Ex → St → Option R) → Option R := fun T k => match T.sl.getD 0 .junk, T.sl.getD 1 .junk, T.sl.getD 6 .junk, T.sl.getD 13 .junk, T.sl.getD 77 .junk, T.hp with
  | CV.ptr (1 : Nat) [], CV.ptr (2 : Nat) [], CV.ptr (4 : Nat) [], CV.ptr (5 : Nat) [], CV.int IntKind.i64 p0, ((Blk.mem (CV.pure (Ty.arr (32 : Nat) (Ty.int IntKind.u8)) p1)) :: (Blk.mem (CV.pure (Ty.arr (8 : Nat) (Ty.int IntKind.u32)) p2)) :: (Blk.mem (CV.pure (Ty.arr (64 : Nat) (Ty.int IntKind.u32)) p3)) :: (Blk.mem (CV.pure (Ty.arr (128 : Nat) (Ty.int IntKind.u8)) p4)) :: (Blk.mem (CV.pure (Ty.arr (64 : Nat) (Ty.int IntKind.u32)) p5)) :: (Blk.mem (CV.pure (Ty.arr (8 : Nat) (Ty.int IntKind.u32)) p6)) :: []) => gd (shapeOK T 176 [0, 1, 6, 13, 77] (4 : Nat)) (G p0 p1 p2 p3 p4 p5 p6 k)
  | _, _, _, _, _, _ => none
theorem o_11_33_2_1_inv {R : Type} {G : (Int) → (List Int) → (List Int) → (List Int) → (List Int) → (List Int) → (List Int) → (Ex → St → Option R) → Option R} {T : St} {k : Ex → St → Option R} {r : R} (h : o_11_33_2_1 G T k = some r) : ∃ p0 p1 p2 p3 p4 p5 p6, T = T_11_33_2_1 p0 p1 p2 p3 p4 p5 p6 ∧ G p0 p1 p2 p3 p4 p5 p6 k = some r := by
  unfold o_11_33_2_1 at h
  split at h
  · obtain ⟨hs, h'⟩ := gd_some h
    refine ⟨_, _, _, _, _, _, _, (st_of (asg := [(0, _), (1, _), (6, _), (13, _), (77, _)]) hs ⟨by assumption, by assumption, by assumption, by assumption, by assumption, trivial⟩ (by assumption)).trans ?_, h'⟩
    kernel_rfl
  · cases h
def T_11_33_3_1 (p0 : Int) (p1 : List Int) (p2 : List Int) (p3 : List Int) (p4 : List Int) (p5 : List Int) : St := St.mk [CV.ptr (1 : Nat) [], CV.junk, CV.junk, CV.junk, CV.junk, CV.junk, CV.junk, CV.junk, CV.junk, CV.junk, CV.junk, CV.junk, CV.junk, CV.ptr (4 : Nat) [], CV.junk, CV.junk, CV.junk, CV.junk, CV.junk, CV.junk, CV.junk, CV.junk, CV.junk, CV.junk, CV.junk, CV.junk, CV.junk, CV.junk, CV.junk, CV.junk, CV.junk, CV.junk, CV.junk, CV.junk, CV.junk, CV.junk, CV.junk, CV.junk, CV.junk, CV.junk, CV.junk, CV.junk, CV.junk, CV.junk, CV.junk, CV.junk, CV.junk, CV.junk, CV.junk, CV.junk, CV.junk, CV.junk, CV.junk, CV.junk, CV.junk, CV.junk, CV.junk, CV.junk, CV.junk, CV.junk, CV.junk, CV.junk, CV.junk, CV.junk, CV.junk, CV.junk, CV.junk, CV.junk, CV.junk, CV.junk, CV.junk, CV.junk, CV.junk, CV.junk, CV.junk, CV.junk, CV.junk, CV.junk, CV.junk, CV.junk, CV.junk, CV.junk, CV.junk, CV.junk, CV.junk, CV.junk, CV.junk, CV.junk, CV.junk, CV.junk, CV.junk, CV.junk, CV.junk, CV.junk, CV.junk, CV.junk, CV.junk, CV.junk, CV.junk, CV.junk, CV.junk, CV.junk, CV.junk, CV.junk, CV.junk, CV.junk, CV.junk, CV.junk, CV.junk, CV.junk, CV.junk, CV.junk, CV.junk, CV.junk, CV.junk, CV.junk, CV.junk, CV.junk, CV.junk, CV.junk, CV.junk, CV.junk, CV.junk, CV.junk, CV.junk, CV.junk, CV.junk, CV.junk, CV.junk, CV.junk, CV.junk, CV.junk, CV.junk, CV.junk, CV.junk, CV.junk, CV.junk, CV.junk, CV.junk, CV.junk, CV.junk, CV.junk, CV.junk, CV.junk, CV.junk, CV.junk, CV.junk, CV.junk, CV.junk, CV.junk, CV.junk, CV.junk, CV.junk, CV.junk, CV.junk, CV.junk, CV.junk, CV.junk, CV.junk, CV.junk, CV.junk, CV.int IntKind.i64 p0, CV.junk, CV.junk, CV.junk, CV.junk, CV.junk, CV.junk, CV.junk, CV.junk, CV.junk, CV.junk, CV.junk, CV.junk, CV.junk, CV.junk] [Blk.mem (CV.pure (Ty.arr (32 : Nat) (Ty.int IntKind.u8)) p1), Blk.mem (CV.pure (Ty.arr (8 : Nat) (Ty.int IntKind.u32)) p2), Blk.mem (CV.pure (Ty.arr (64 : Nat) (Ty.int IntKind.u32)) p3), Blk.mem (CV.pure (Ty.arr (128 : Nat) (Ty.int IntKind.u8)) p4), Blk.mem (CV.pure (Ty.arr (8 : Nat) (Ty.int IntKind.u32)) p5)] (4 : Nat)
def X_11_33_3_1_0 (p1 : List Int) (p2 : List Int) (p3 : List Int) (p4 : List Int) : St := St.mk [CV.junk, CV.junk, CV.junk, CV.junk, CV.junk, CV.junk, CV.junk, CV.junk, CV.junk, CV.junk, CV.junk, CV.junk, CV.junk, CV.junk, CV.junk, CV.junk, CV.junk, CV.junk, CV.junk, CV.junk, CV.junk, CV.junk, CV.junk, CV.junk, CV.junk, CV.junk, CV.junk, CV.junk, CV.junk, CV.junk, CV.junk, CV.junk, CV.junk, CV.junk, CV.junk, CV.junk, CV.junk, CV.junk, CV.junk, CV.junk, CV.junk, CV.junk, CV.junk, CV.junk, CV.junk, CV.junk, CV.junk, CV.junk, CV.junk, CV.junk, CV.junk, CV.junk, CV.junk, CV.junk, CV.junk, CV.junk, CV.junk, CV.junk, CV.junk, CV.junk, CV.junk, CV.junk, CV.junk, CV.junk, CV.junk, CV.junk, CV.junk, CV.junk, CV.junk, CV.junk, CV.junk, CV.junk, CV.junk, CV.junk, CV.junk, CV.junk, CV.junk, CV.junk, CV.junk, CV.junk, CV.junk, CV.junk, CV.junk, CV.junk, CV.junk, CV.junk, CV.junk, CV.junk, CV.junk, CV.junk, CV.junk, CV.junk, CV.junk, CV.junk, CV.junk, CV.junk, CV.junk, CV.junk, CV.junk, CV.junk, CV.junk, CV.junk, CV.junk, CV.junk, CV.junk, CV.junk, CV.junk, CV.junk, CV.junk, CV.junk, CV.junk, CV.junk, CV.junk, CV.junk, CV.junk, CV.junk, CV.junk, CV.junk, CV.junk, CV.junk, CV.junk, CV.junk, CV.junk, CV.junk, CV.junk, CV.junk, CV.junk, CV.junk, CV.junk, CV.junk, CV.junk, CV.junk, CV.junk, CV.junk, CV.junk, CV.junk, CV.junk, CV.junk, CV.junk, CV.junk, CV.junk, CV.junk, CV.junk, CV.junk, CV.junk, CV.junk, CV.junk, CV.junk, CV.junk, CV.junk, CV.junk, CV.junk, CV.junk, CV.junk, CV.junk, CV.junk, CV.junk, CV.junk, CV.junk, CV.junk, CV.junk, CV.junk, CV.junk, CV.junk, CV.junk, CV.junk, CV.junk, CV.junk, CV.junk, CV.junk, CV.junk, CV.junk, CV.junk, CV.junk, CV.junk, CV.junk] [Blk.mem (CV.pure (Ty.arr (32 : Nat) (Ty.int IntKind.u8)) p1), Blk.mem (CV.pure (Ty.arr (8 : Nat) (Ty.int IntKind.u32)) p2), Blk.mem (CV.pure (Ty.arr (64 : Nat) (Ty.int IntKind.u32)) p3), Blk.mem (CV.pure (Ty.arr (128 : Nat) (Ty.int IntKind.u8)) p4)] (4 : Nat)
inductive Sp.E_11_33_3_1 where
  | e0 (p1 : List Int) (p2 : List Int) (p3 : List Int) (p4 : List Int)
def Sp.B_11_33_3_1 {R : Type} (r : Option Sp.E_11_33_3_1) (k0 : (List Int) → (List Int) → (List Int) → (List Int) → Option R) : Option R := match r with
  | none => none
  | some (.e0 p1 p2 p3 p4) => k0 p1 p2 p3 p4
def Sp.L_11_33_3_1 : Nat → (Int) → (List Int) → (List Int) → (List Int) → (List Int) → (List Int) → Option Sp.E_11_33_3_1
  | 0, _, _, _, _, _, _ => none
  | m + 1, p0, p1, p2, p3, p4, p5 => bif decide (p0 < (8 : Int)) then gd (inB p0 (8 : Nat)) (gd (decide (Int.toNat p0 < (8 : Nat)) && true) (gd (inB p0 (8 : Nat)) (gd (decide (Int.toNat p0 < (8 : Nat)) && true) (gd (inB p0 (8 : Nat)) (gd (decide (Int.toNat p0 < (8 : Nat)) && true) (Sp.L_11_33_3_1 m (IntKind.wrap IntKind.i64 (p0 + (1 : Int))) p1 (List.set p2 (Int.toNat p0) (IntKind.wrap IntKind.u32 (List.getD p2 (Int.toNat p0) (0 : Int) + List.getD p5 (Int.toNat p0) (0 : Int)))) p3 p4 p5)))))) else some (Sp.E_11_33_3_1.e0 p1 p2 p3 p4)
def G_11_33_3_1 {R : Type} (p0 : Int) (p1 : List Int) (p2 : List Int) (p3 : List Int) (p4 : List Int) (p5 : List Int) (k : Ex → St → Option R) : Option R := Sp.B_11_33_3_1 (Sp.L_11_33_3_1 FU p0 p1 p2 p3 p4 p5) (fun p1 p2 p3 p4 => k (Ex.exit (6 : Nat)) (X_11_33_3_1_0 p1 p2 p3 p4))
def m_11_33_3_1 : St → Bool := fun T => match T.sl.getD 0 .junk, T.sl.getD 13 .junk, T.sl.getD 161 .junk, T.hp with
  | CV.ptr (1 : Nat) [], CV.ptr (4 : Nat) [], CV.int IntKind.i64 p0, ((Blk.mem (CV.pure (Ty.arr (32 : Nat) (Ty.int IntKind.u8)) p1)) :: (Blk.mem (CV.pure (Ty.arr (8 : Nat) (Ty.int IntKind.u32)) p2)) :: (Blk.mem (CV.pure (Ty.arr (64 : Nat) (Ty.int IntKind.u32)) p3)) :: (Blk.mem (CV.pure (Ty.arr (128 : Nat) (Ty.int IntKind.u8)) p4)) :: (Blk.mem (CV.pure (Ty.arr (8 : Nat) (Ty.int IntKind.u32)) p5)) :: []) => shapeOK T 176 [0, 13, 161] (4 : Nat)
  | _, _, _, _ => false
def o_11_33_3_1 {R : Type} (G : (Int) → (List Int) → (List Int) → (List Int) → (List Int) → (List Int) → (Ex → St → Option R) → Option R) : St → (Ex → St → Option R) → Option R := fun T k => match T.sl.getD 0 .junk, T.sl.getD 13 .junk, T.sl.getD 161 .junk, T.hp with
  | CV.ptr (1 : Nat) [], CV.ptr (4 : Nat) [], CV.int IntKind.i64 p0, ((Blk.mem (CV.pure (Ty.arr (32 : Nat) (Ty.int IntKind.u8)) p1)) :: (Blk.mem (CV.pure (Ty.arr (8 : Nat) (Ty.int IntKind.u32)) p2)) :: (Blk.mem (CV.pure (Ty.arr (64 : Nat) (Ty.int IntKind.u32)) p3)) :: (Blk.mem (CV.pure (Ty.arr (128 : Nat) (Ty.int IntKind.u8)) p4)) :: (Blk.mem (CV.pure (Ty.arr (8 : Nat) (Ty.int IntKind.u32)) p5)) :: []) => gd (shapeOK T 176 [0, 13, 161] (4 : Nat)) (G p0 p1 p2 p3 p4 p5 k)
  | _, _, _, _ => none
theorem o_11_33_3_1_inv {R : Type} {G : (Int) → (List Int) → (List Int) → (List Int) → (List Int) → (List Int) → (Ex → St → Option R) → Option R} {T : St} {k : Ex → St → Option R} {r : R} (h : o_11_33_3_1 G T k = some r) : ∃ p0 p1 p2 p3 p4 p5, T = T_11_33_3_1 p0 p1 p2 p3 p4 p5 ∧ G p0 p1 p2 p3 p4 p5 k = some r := by
  unfold o_11_33_3_1 at h
  split at h
  · obtain ⟨hs, h'⟩ := gd_some h
    refine ⟨_, _, _, _, _, _, (st_of (asg := [(0, _), (13, _), (161, _)]) hs ⟨by assumption, by assumption, by assumption, trivial⟩ (by assumption)).trans ?_, h'⟩
    kernel_rfl
  · cases h
def T_11_2 (p0 : Int) (p1 : Int) (p2 : List Int) (p3 : List Int) (p4 : List Int) (p5 : List Int) : St := St.mk [CV.junk, CV.junk, CV.ptr (0 : Nat) [], CV.ptr (1 : Nat) [], CV.ptr (2 : Nat) [], CV.junk, CV.ptr (3 : Nat) [], CV.junk, CV.int IntKind.i64 p0, CV.junk, CV.int IntKind.i64 p1, CV.junk, CV.junk, CV.junk, CV.junk, CV.junk, CV.junk, CV.junk, CV.junk, CV.junk, CV.junk, CV.junk, CV.junk, CV.junk, CV.junk, CV.junk, CV.junk, CV.junk, CV.junk, CV.junk, CV.junk, CV.junk, CV.junk, CV.junk, CV.junk, CV.junk, CV.junk, CV.junk, CV.junk, CV.junk, CV.junk, CV.junk, CV.junk, CV.junk, CV.junk, CV.junk, CV.junk, CV.junk, CV.junk, CV.junk, CV.junk, CV.junk, CV.junk, CV.junk, CV.junk, CV.junk, CV.junk, CV.junk, CV.junk, CV.junk, CV.junk, CV.junk, CV.junk, CV.junk, CV.junk, CV.junk, CV.junk, CV.junk, CV.junk, CV.junk, CV.junk, CV.junk] [Blk.mem (CV.pure (Ty.arr (32 : Nat) (Ty.int IntKind.u8)) p2), Blk.mem (CV.pure (Ty.arr (8 : Nat) (Ty.int IntKind.u32)) p3), Blk.mem (CV.pure (Ty.arr (64 : Nat) (Ty.int IntKind.u32)) p4), Blk.mem (CV.pure (Ty.arr (128 : Nat) (Ty.int IntKind.u8)) p5)] (0 : Nat)
def X_11_2_0 (p2 : List Int) (p3 : List Int) : St := St.mk [CV.junk, CV.junk, CV.ptr (0 : Nat) [], CV.ptr (1 : Nat) [], CV.junk, CV.junk, CV.junk, CV.junk, CV.junk, CV.junk, CV.junk, CV.junk, CV.junk, CV.junk, CV.junk, CV.junk, CV.junk, CV.junk, CV.junk, CV.junk, CV.junk, CV.junk, CV.junk, CV.junk, CV.junk, CV.junk, CV.junk, CV.junk, CV.junk, CV.junk, CV.junk, CV.junk, CV.junk, CV.junk, CV.junk, CV.junk, CV.junk, CV.junk, CV.junk, CV.junk, CV.junk, CV.junk, CV.junk, CV.junk, CV.junk, CV.junk, CV.junk, CV.junk, CV.junk, CV.junk, CV.junk, CV.junk, CV.junk, CV.junk, CV.junk, CV.junk, CV.junk, CV.junk, CV.junk, CV.junk, CV.junk, CV.junk, CV.junk, CV.junk, CV.junk, CV.junk, CV.junk, CV.junk, CV.junk, CV.junk, CV.junk, CV.junk] [Blk.mem (CV.pure (Ty.arr (32 : Nat) (Ty.int IntKind.u8)) p2), Blk.mem (CV.pure (Ty.arr (8 : Nat) (Ty.int IntKind.u32)) p3)] (0 : Nat)
inductive Sp.E_11_2 where
  | e0 (p2 : List Int) (p3 : List Int)
def Sp.B_11_2 {R : Type} (r : Option Sp.E_11_2) (k0 : (List Int) → (List Int) → Option R) : Option R := match r with
  | none => none
  | some (.e0 p2 p3) => k0 p2 p3
def Sp.L_11_2 : Nat → (Int) → (Int) → (List Int) → (List Int) → (List Int) → (List Int) → Option Sp.E_11_2
  | 0, _, _, _, _, _, _ => none
  | m + 1, p0, p1, p2, p3, p4, p5 => bif decide (p1 < p0) then gd (sl3 p1 (IntKind.wrap IntKind.i64 (p1 + (64 : Int))) (128 : Int)) (Sp.B_11_33_0_1 (Sp.L_11_33_0_1 (4611686018427387904 : Nat) (Int.toNat p1) (Int.toNat (IntKind.wrap IntKind.i64 (p1 + (64 : Int))) - Int.toNat p1) ((128 : Nat) - Int.toNat p1) (0 : Int) p2 p3 p4 p5 (List.replicate (64 : Nat) (0 : Int))) fun (y19 y20 y21 y22 y23 : List Int) => Sp.B_11_33_1_1 (Sp.L_11_33_1_1 (4611686018427387904 : Nat) (16 : Int) y19 y20 y21 y22 y23) fun (y24 y25 y26 y27 y28 : List Int) => Sp.B_11_33_2_1 (Sp.L_11_33_2_1 (4611686018427387904 : Nat) (0 : Int) y24 y25 y26 y27 y28 y25) fun (y29 y30 y31 y32 y33 : List Int) => Sp.B_11_33_3_1 (Sp.L_11_33_3_1 (4611686018427387904 : Nat) (0 : Int) y29 y30 y31 y32 y33) fun (y34 y35 y36 y37 : List Int) => Sp.L_11_2 m p0 (IntKind.wrap IntKind.i64 (p1 + (64 : Int))) y34 y35 y36 y37) else some (Sp.E_11_2.e0 p2 p3)
def G_11_2 {R : Type} (p0 : Int) (p1 : Int) (p2 : List Int) (p3 : List Int) (p4 : List Int) (p5 : List Int) (k : Ex → St → Option R) : Option R := Sp.B_11_2 (Sp.L_11_2 FU p0 p1 p2 p3 p4 p5) (fun p2 p3 => k (Ex.exit (2 : Nat)) (X_11_2_0 p2 p3))
def o_11_2 {R : Type} (G : (Int) → (Int) → (List Int) → (List Int) → (List Int) → (List Int) → (Ex → St → Option R) → Option R) : St → (Ex → St → Option R) → Option R := fun T k => match T.sl.getD 2 .junk, T.sl.getD 3 .junk, T.sl.getD 4 .junk, T.sl.getD 6 .junk, T.sl.getD 8 .junk, T.sl.getD 10 .junk, T.hp with
  | CV.ptr (0 : Nat) [], CV.ptr (1 : Nat) [], CV.ptr (2 : Nat) [], CV.ptr (3 : Nat) [], CV.int IntKind.i64 p0, CV.int IntKind.i64 p1, ((Blk.mem (CV.pure (Ty.arr (32 : Nat) (Ty.int IntKind.u8)) p2)) :: (Blk.mem (CV.pure (Ty.arr (8 : Nat) (Ty.int IntKind.u32)) p3)) :: (Blk.mem (CV.pure (Ty.arr (64 : Nat) (Ty.int IntKind.u32)) p4)) :: (Blk.mem (CV.pure (Ty.arr (128 : Nat) (Ty.int IntKind.u8)) p5)) :: []) => gd (shapeOK T 72 [2, 3, 4, 6, 8, 10] (0 : Nat)) (G p0 p1 p2 p3 p4 p5 k)
  | _, _, _, _, _, _, _ => none
theorem o_11_2_inv {R : Type} {G : (Int) → (Int) → (List Int) → (List Int) → (List Int) → (List Int) → (Ex → St → Option R) → Option R} {T : St} {k : Ex → St → Option R} {r : R} (h : o_11_2 G T k = some r) : ∃ p0 p1 p2 p3 p4 p5, T = T_11_2 p0 p1 p2 p3 p4 p5 ∧ G p0 p1 p2 p3 p4 p5 k = some r := by
  unfold o_11_2 at h
  split at h
  · obtain ⟨hs, h'⟩ := gd_some h
    refine ⟨_, _, _, _, _, _, (st_of (asg := [(2, _), (3, _), (4, _), (6, _), (8, _), (10, _)]) hs ⟨by assumption, by assumption, by assumption, by assumption, by assumption, by assumption, trivial⟩ (by assumption)).trans ?_, h'⟩
    kernel_rfl
  · cases h
def T_11_3 (p0 : List Int) (p1 : Int) (p2 : List Int) (p3 : List Int) : St := St.mk [CV.junk, CV.junk, CV.ptr (0 : Nat) [], CV.junk, CV.junk, CV.junk, CV.junk, CV.junk, CV.junk, CV.junk, CV.junk, CV.ptr (1 : Nat) [], CV.junk, CV.junk, CV.junk, CV.junk, CV.junk, CV.junk, CV.junk, CV.junk, CV.junk, CV.junk, CV.junk, CV.junk, CV.junk, CV.junk, CV.junk, CV.junk, CV.junk, CV.junk, CV.junk, CV.junk, CV.junk, CV.junk, CV.junk, CV.junk, CV.junk, CV.junk, CV.junk, CV.junk, CV.junk, CV.junk, CV.junk, CV.junk, CV.junk, CV.junk, CV.junk, CV.junk, CV.junk, CV.junk, CV.junk, CV.junk, CV.junk, CV.junk, CV.junk, CV.junk, CV.junk, CV.junk, CV.junk, CV.junk, CV.pure (Ty.arr (8 : Nat) (Ty.int IntKind.u32)) p0, CV.int IntKind.i64 p1, CV.junk, CV.junk, CV.junk, CV.junk, CV.junk, CV.junk, CV.junk, CV.junk, CV.junk, CV.junk] [Blk.mem (CV.pure (Ty.arr (32 : Nat) (Ty.int IntKind.u8)) p2), Blk.mem (CV.pure (Ty.arr (32 : Nat) (Ty.int IntKind.u8)) p3)] (0 : Nat)
def X_11_3_0 (p2 : List Int) (p3 : List Int) : St := St.mk [CV.junk, CV.junk, CV.ptr (0 : Nat) [], CV.junk, CV.junk, CV.junk, CV.junk, CV.junk, CV.junk, CV.junk, CV.junk, CV.ptr (1 : Nat) [], CV.junk, CV.junk, CV.junk, CV.junk, CV.junk, CV.junk, CV.junk, CV.junk, CV.junk, CV.junk, CV.junk, CV.junk, CV.junk, CV.junk, CV.junk, CV.junk, CV.junk, CV.junk, CV.junk, CV.junk, CV.junk, CV.junk, CV.junk, CV.junk, CV.junk, CV.junk, CV.junk, CV.junk, CV.junk, CV.junk, CV.junk, CV.junk, CV.junk, CV.junk, CV.junk, CV.junk, CV.junk, CV.junk, CV.junk, CV.junk, CV.junk, CV.junk, CV.junk, CV.junk, CV.junk, CV.junk, CV.junk, CV.junk, CV.junk, CV.junk, CV.junk, CV.junk, CV.junk, CV.junk, CV.junk, CV.junk, CV.junk, CV.junk, CV.junk, CV.junk] [Blk.mem (CV.pure (Ty.arr (32 : Nat) (Ty.int IntKind.u8)) p2), Blk.mem (CV.pure (Ty.arr (32 : Nat) (Ty.int IntKind.u8)) p3)] (0 : Nat)
inductive Sp.E_11_3 where
  | e0 (p2 : List Int) (p3 : List Int)
def Sp.B_11_3 {R : Type} (r : Option Sp.E_11_3) (k0 : (List Int) → (List Int) → Option R) : Option R := match r with
  | none => none
  | some (.e0 p2 p3) => k0 p2 p3
def Sp.L_11_3 : Nat → (List Int) → (Int) → (List Int) → (List Int) → Option Sp.E_11_3
  | 0, _, _, _, _ => none
  | m + 1, p0, p1, p2, p3 => bif decide (p1 < (8 : Int)) then gd (inB p1 (8 : Nat)) (gd (sl3 (IntKind.wrap IntKind.i64 ((4 : Int) * p1)) (32 : Int) (32 : Int)) (gd (inB (0 : Int) ((32 : Nat) - Int.toNat (IntKind.wrap IntKind.i64 ((4 : Int) * p1)))) (gd (decide (Int.toNat (IntKind.wrap IntKind.i64 ((4 : Int) * p1)) + (0 : Nat) < (32 : Nat)) && true) (gd (inB (1 : Int) ((32 : Nat) - Int.toNat (IntKind.wrap IntKind.i64 ((4 : Int) * p1)))) (gd (decide (Int.toNat (IntKind.wrap IntKind.i64 ((4 : Int) * p1)) + (1 : Nat) < (32 : Nat)) && true) (gd (inB (2 : Int) ((32 : Nat) - Int.toNat (IntKind.wrap IntKind.i64 ((4 : Int) * p1)))) (gd (decide (Int.toNat (IntKind.wrap IntKind.i64 ((4 : Int) * p1)) + (2 : Nat) < (32 : Nat)) && true) (gd (inB (3 : Int) ((32 : Nat) - Int.toNat (IntKind.wrap IntKind.i64 ((4 : Int) * p1)))) (gd (decide (Int.toNat (IntKind.wrap IntKind.i64 ((4 : Int) * p1)) + (3 : Nat) < (32 : Nat)) && true) (Sp.L_11_3 m p0 (IntKind.wrap IntKind.i64 (p1 + (1 : Int))) p2 (List.set (List.set (List.set (List.set p3 (Int.toNat (IntKind.wrap IntKind.i64 ((4 : Int) * p1)) + (0 : Nat)) (IntKind.wrap IntKind.u8 (Int.fdiv (List.getD p0 (Int.toNat p1) (0 : Int)) (16777216 : Int)))) (Int.toNat (IntKind.wrap IntKind.i64 ((4 : Int) * p1)) + (1 : Nat)) (IntKind.wrap IntKind.u8 (Int.fdiv (List.getD p0 (Int.toNat p1) (0 : Int)) (65536 : Int)))) (Int.toNat (IntKind.wrap IntKind.i64 ((4 : Int) * p1)) + (2 : Nat)) (IntKind.wrap IntKind.u8 (Int.fdiv (List.getD p0 (Int.toNat p1) (0 : Int)) (256 : Int)))) (Int.toNat (IntKind.wrap IntKind.i64 ((4 : Int) * p1)) + (3 : Nat)) (IntKind.wrap IntKind.u8 (List.getD p0 (Int.toNat p1) (0 : Int)))))))))))))) else some (Sp.E_11_3.e0 p2 p3)
def G_11_3 {R : Type} (p0 : List Int) (p1 : Int) (p2 : List Int) (p3 : List Int) (k : Ex → St → Option R) : Option R := Sp.B_11_3 (Sp.L_11_3 FU p0 p1 p2 p3) (fun p2 p3 => k (Ex.exit (4 : Nat)) (X_11_3_0 p2 p3))
def o_11_3 {R : Type} (G : (List Int) → (Int) → (List Int) → (List Int) → (Ex → St → Option R) → Option R) : St → (Ex → St → Option R) → Option R := fun T k => match T.sl.getD 2 .junk, T.sl.getD 11 .junk, T.sl.getD 60 .junk, T.sl.getD 61 .junk, T.hp with
  | CV.ptr (0 : Nat) [], CV.ptr (1 : Nat) [], CV.pure (Ty.arr (8 : Nat) (Ty.int IntKind.u32)) p0, CV.int IntKind.i64 p1, ((Blk.mem (CV.pure (Ty.arr (32 : Nat) (Ty.int IntKind.u8)) p2)) :: (Blk.mem (CV.pure (Ty.arr (32 : Nat) (Ty.int IntKind.u8)) p3)) :: []) => gd (shapeOK T 72 [2, 11, 60, 61] (0 : Nat)) (G p0 p1 p2 p3 k)
  | _, _, _, _, _ => none
theorem o_11_3_inv {R : Type} {G : (List Int) → (Int) → (List Int) → (List Int) → (Ex → St → Option R) → Option R} {T : St} {k : Ex → St → Option R} {r : R} (h : o_11_3 G T k = some r) : ∃ p0 p1 p2 p3, T = T_11_3 p0 p1 p2 p3 ∧ G p0 p1 p2 p3 k = some r := by
  unfold o_11_3 at h
  split at h
  · obtain ⟨hs, h'⟩ := gd_some h
    refine ⟨_, _, _, _, (st_of (asg := [(2, _), (11, _), (60, _), (61, _)]) hs ⟨by assumption, by assumption, by assumption, by assumption, trivial⟩ (by assumption)).trans ?_, h'⟩
    kernel_rfl
  · cases h
def T_11_1 (p0 : List Int) (p1 : Int) (p2 : List Int) (p3 : List Int) (p4 : List Int) (p5 : List Int) : St := St.mk [CV.pure (Ty.slice (Ty.int IntKind.u8)) p0, CV.junk, CV.ptr (0 : Nat) [], CV.ptr (1 : Nat) [], CV.ptr (2 : Nat) [], CV.junk, CV.ptr (3 : Nat) [], CV.junk, CV.int IntKind.i64 p1, CV.junk, CV.junk, CV.junk, CV.junk, CV.junk, CV.junk, CV.junk, CV.junk, CV.junk, CV.junk, CV.junk, CV.junk, CV.junk, CV.junk, CV.junk, CV.junk, CV.junk, CV.junk, CV.junk, CV.junk, CV.junk, CV.junk, CV.junk, CV.junk, CV.junk, CV.junk, CV.junk, CV.junk, CV.junk, CV.junk, CV.junk, CV.junk, CV.junk, CV.junk, CV.junk, CV.junk, CV.junk, CV.junk, CV.junk, CV.junk, CV.junk, CV.junk, CV.junk, CV.junk, CV.junk, CV.junk, CV.junk, CV.junk, CV.junk, CV.junk, CV.junk, CV.junk, CV.junk, CV.junk, CV.junk, CV.junk, CV.junk, CV.junk, CV.junk, CV.junk, CV.junk, CV.junk, CV.junk] [Blk.mem (CV.pure (Ty.arr (32 : Nat) (Ty.int IntKind.u8)) p2), Blk.mem (CV.pure (Ty.arr (8 : Nat) (Ty.int IntKind.u32)) p3), Blk.mem (CV.pure (Ty.arr (64 : Nat) (Ty.int IntKind.u32)) p4), Blk.mem (CV.pure (Ty.arr (128 : Nat) (Ty.int IntKind.u8)) p5)] (0 : Nat)
def X_11_1_0 (y7 : List Int) : St := St.mk [CV.junk, CV.junk, CV.ptr (0 : Nat) [], CV.junk, CV.junk, CV.junk, CV.junk, CV.junk, CV.junk, CV.junk, CV.junk, CV.junk, CV.junk, CV.junk, CV.junk, CV.junk, CV.junk, CV.junk, CV.junk, CV.junk, CV.junk, CV.junk, CV.junk, CV.junk, CV.junk, CV.junk, CV.junk, CV.junk, CV.junk, CV.junk, CV.junk, CV.junk, CV.junk, CV.junk, CV.junk, CV.junk, CV.junk, CV.junk, CV.junk, CV.junk, CV.junk, CV.junk, CV.junk, CV.junk, CV.junk, CV.junk, CV.junk, CV.junk, CV.junk, CV.junk, CV.junk, CV.junk, CV.junk, CV.junk, CV.junk, CV.junk, CV.junk, CV.junk, CV.junk, CV.junk, CV.junk, CV.junk, CV.junk, CV.junk, CV.junk, CV.junk, CV.junk, CV.junk, CV.junk, CV.junk, CV.junk, CV.junk] [Blk.mem (CV.pure (Ty.arr (32 : Nat) (Ty.int IntKind.u8)) y7)] (0 : Nat)
inductive Sp.E_11_1 where
  | e0 (y7 : List Int)
def Sp.B_11_1 {R : Type} (r : Option Sp.E_11_1) (k0 : (List Int) → Option R) : Option R := match r with
  | none => none
  | some (.e0 y7) => k0 y7
def Sp.J_11_1 (p0 : List Int) (p1 : Int) (p2 : List Int) (p3 : List Int) (p4 : List Int) (p5 : List Int) : Option Sp.E_11_1 :=
  gd (sl3 (IntKind.wrap IntKind.i64 (p1 - (8 : Int))) (128 : Int) (128 : Int)) (gd (inB (0 : Int) ((128 : Nat) - Int.toNat (IntKind.wrap IntKind.i64 (p1 - (8 : Int))))) (gd (decide (Int.toNat (IntKind.wrap IntKind.i64 (p1 - (8 : Int))) + (0 : Nat) < (128 : Nat)) && true) (gd (inB (1 : Int) ((128 : Nat) - Int.toNat (IntKind.wrap IntKind.i64 (p1 - (8 : Int))))) (gd (decide (Int.toNat (IntKind.wrap IntKind.i64 (p1 - (8 : Int))) + (1 : Nat) < (128 : Nat)) && true) (gd (inB (2 : Int) ((128 : Nat) - Int.toNat (IntKind.wrap IntKind.i64 (p1 - (8 : Int))))) (gd (decide (Int.toNat (IntKind.wrap IntKind.i64 (p1 - (8 : Int))) + (2 : Nat) < (128 : Nat)) && true) (gd (inB (3 : Int) ((128 : Nat) - Int.toNat (IntKind.wrap IntKind.i64 (p1 - (8 : Int))))) (gd (decide (Int.toNat (IntKind.wrap IntKind.i64 (p1 - (8 : Int))) + (3 : Nat) < (128 : Nat)) && true) (gd (sl3 (IntKind.wrap IntKind.i64 (p1 - (4 : Int))) (128 : Int) (128 : Int)) (gd (inB (0 : Int) ((128 : Nat) - Int.toNat (IntKind.wrap IntKind.i64 (p1 - (4 : Int))))) (gd (decide (Int.toNat (IntKind.wrap IntKind.i64 (p1 - (4 : Int))) + (0 : Nat) < (128 : Nat)) && true) (gd (inB (1 : Int) ((128 : Nat) - Int.toNat (IntKind.wrap IntKind.i64 (p1 - (4 : Int))))) (gd (decide (Int.toNat (IntKind.wrap IntKind.i64 (p1 - (4 : Int))) + (1 : Nat) < (128 : Nat)) && true) (gd (inB (2 : Int) ((128 : Nat) - Int.toNat (IntKind.wrap IntKind.i64 (p1 - (4 : Int))))) (gd (decide (Int.toNat (IntKind.wrap IntKind.i64 (p1 - (4 : Int))) + (2 : Nat) < (128 : Nat)) && true) (gd (inB (3 : Int) ((128 : Nat) - Int.toNat (IntKind.wrap IntKind.i64 (p1 - (4 : Int))))) (gd (decide (Int.toNat (IntKind.wrap IntKind.i64 (p1 - (4 : Int))) + (3 : Nat) < (128 : Nat)) && true) (Sp.B_11_2 (Sp.L_11_2 (4611686018427387904 : Nat) p1 (0 : Int) p2 p3 p4 (List.set (List.set (List.set (List.set (List.set (List.set (List.set (List.set p5 (Int.toNat (IntKind.wrap IntKind.i64 (p1 - (8 : Int))) + (0 : Nat)) (IntKind.wrap IntKind.u8 (Int.fdiv (IntKind.wrap IntKind.u32 (Int.fdiv (IntKind.wrap IntKind.u64 (IntKind.wrap IntKind.u64 (↑(List.length p0) : Int) * (8 : Int))) (4294967296 : Int))) (16777216 : Int)))) (Int.toNat (IntKind.wrap IntKind.i64 (p1 - (8 : Int))) + (1 : Nat)) (IntKind.wrap IntKind.u8 (Int.fdiv (IntKind.wrap IntKind.u32 (Int.fdiv (IntKind.wrap IntKind.u64 (IntKind.wrap IntKind.u64 (↑(List.length p0) : Int) * (8 : Int))) (4294967296 : Int))) (65536 : Int)))) (Int.toNat (IntKind.wrap IntKind.i64 (p1 - (8 : Int))) + (2 : Nat)) (IntKind.wrap IntKind.u8 (Int.fdiv (IntKind.wrap IntKind.u32 (Int.fdiv (IntKind.wrap IntKind.u64 (IntKind.wrap IntKind.u64 (↑(List.length p0) : Int) * (8 : Int))) (4294967296 : Int))) (256 : Int)))) (Int.toNat (IntKind.wrap IntKind.i64 (p1 - (8 : Int))) + (3 : Nat)) (IntKind.wrap IntKind.u8 (IntKind.wrap IntKind.u32 (Int.fdiv (IntKind.wrap IntKind.u64 (IntKind.wrap IntKind.u64 (↑(List.length p0) : Int) * (8 : Int))) (4294967296 : Int))))) (Int.toNat (IntKind.wrap IntKind.i64 (p1 - (4 : Int))) + (0 : Nat)) (IntKind.wrap IntKind.u8 (Int.fdiv (IntKind.wrap IntKind.u32 (IntKind.wrap IntKind.u64 (IntKind.wrap IntKind.u64 (↑(List.length p0) : Int) * (8 : Int)))) (16777216 : Int)))) (Int.toNat (IntKind.wrap IntKind.i64 (p1 - (4 : Int))) + (1 : Nat)) (IntKind.wrap IntKind.u8 (Int.fdiv (IntKind.wrap IntKind.u32 (IntKind.wrap IntKind.u64 (IntKind.wrap IntKind.u64 (↑(List.length p0) : Int) * (8 : Int)))) (65536 : Int)))) (Int.toNat (IntKind.wrap IntKind.i64 (p1 - (4 : Int))) + (2 : Nat)) (IntKind.wrap IntKind.u8 (Int.fdiv (IntKind.wrap IntKind.u32 (IntKind.wrap IntKind.u64 (IntKind.wrap IntKind.u64 (↑(List.length p0) : Int) * (8 : Int)))) (256 : Int)))) (Int.toNat (IntKind.wrap IntKind.i64 (p1 - (4 : Int))) + (3 : Nat)) (IntKind.wrap IntKind.u8 (IntKind.wrap IntKind.u32 (IntKind.wrap IntKind.u64 (IntKind.wrap IntKind.u64 (↑(List.length p0) : Int) * (8 : Int))))))) fun (y4 y5 : List Int) => Sp.B_11_3 (Sp.L_11_3 (4611686018427387904 : Nat) y5 (0 : Int) y4 (List.replicate (32 : Nat) (0 : Int))) fun (y6 y7 : List Int) => some (Sp.E_11_1.e0 y7)))))))))))))))))))
def G_11_1 {R : Type} (p0 : List Int) (p1 : Int) (p2 : List Int) (p3 : List Int) (p4 : List Int) (p5 : List Int) (k : Ex → St → Option R) : Option R := Sp.B_11_1 (Sp.J_11_1 p0 p1 p2 p3 p4 p5) (fun y7 => k Ex.ret (X_11_1_0 y7))
def o_11_1 {R : Type} (G : (List Int) → (Int) → (List Int) → (List Int) → (List Int) → (List Int) → (Ex → St → Option R) → Option R) : St → (Ex → St → Option R) → Option R := fun T k => match T.sl.getD 0 .junk, T.sl.getD 2 .junk, T.sl.getD 3 .junk, T.sl.getD 4 .junk, T.sl.getD 6 .junk, T.sl.getD 8 .junk, T.hp with
  | CV.pure (Ty.slice (Ty.int IntKind.u8)) p0, CV.ptr (0 : Nat) [], CV.ptr (1 : Nat) [], CV.ptr (2 : Nat) [], CV.ptr (3 : Nat) [], CV.int IntKind.i64 p1, ((Blk.mem (CV.pure (Ty.arr (32 : Nat) (Ty.int IntKind.u8)) p2)) :: (Blk.mem (CV.pure (Ty.arr (8 : Nat) (Ty.int IntKind.u32)) p3)) :: (Blk.mem (CV.pure (Ty.arr (64 : Nat) (Ty.int IntKind.u32)) p4)) :: (Blk.mem (CV.pure (Ty.arr (128 : Nat) (Ty.int IntKind.u8)) p5)) :: []) => gd (shapeOK T 72 [0, 2, 3, 4, 6, 8] (0 : Nat)) (G p0 p1 p2 p3 p4 p5 k)
  | _, _, _, _, _, _, _ => none
theorem o_11_1_inv {R : Type} {G : (List Int) → (Int) → (List Int) → (List Int) → (List Int) → (List Int) → (Ex → St → Option R) → Option R} {T : St} {k : Ex → St → Option R} {r : R} (h : o_11_1 G T k = some r) : ∃ p0 p1 p2 p3 p4 p5, T = T_11_1 p0 p1 p2 p3 p4 p5 ∧ G p0 p1 p2 p3 p4 p5 k = some r := by
  unfold o_11_1 at h
  split at h
  · obtain ⟨hs, h'⟩ := gd_some h
    refine ⟨_, _, _, _, _, _, (st_of (asg := [(0, _), (2, _), (3, _), (4, _), (6, _), (8, _)]) hs ⟨by assumption, by assumption, by assumption, by assumption, by assumption, by assumption, trivial⟩ (by assumption)).trans ?_, h'⟩
    kernel_rfl
  · cases h
def O_11_33_0 {R : Type} : St → (Ex → St → Option R) → Option R := fun T k => bif m_11_33_0_0 T then o_11_33_0_0 G_11_33_0_0 T k else bif m_11_33_0_1 T then o_11_33_0_1 G_11_33_0_1 T k else none
def O_11_33_1 {R : Type} : St → (Ex → St → Option R) → Option R := fun T k => bif m_11_33_1_0 T then o_11_33_1_0 G_11_33_1_0 T k else bif m_11_33_1_1 T then o_11_33_1_1 G_11_33_1_1 T k else none
def O_11_33_2 {R : Type} : St → (Ex → St → Option R) → Option R := fun T k => bif m_11_33_2_0 T then o_11_33_2_0 G_11_33_2_0 T k else bif m_11_33_2_1 T then o_11_33_2_1 G_11_33_2_1 T k else none
def O_11_33_3 {R : Type} : St → (Ex → St → Option R) → Option R := fun T k => bif m_11_33_3_0 T then o_11_33_3_0 G_11_33_3_0 T k else bif m_11_33_3_1 T then o_11_33_3_1 G_11_33_3_1 T k else none
def O_11_11_0 {R : Type} : St → (Ex → St → Option R) → Option R := fun T k => o_11_0 G_11_0 T k
def O_11_11_2 {R : Type} : St → (Ex → St → Option R) → Option R := fun T k => o_11_2 G_11_2 T k
def O_11_11_3 {R : Type} : St → (Ex → St → Option R) → Option R := fun T k => o_11_3 G_11_3 T k
def O_11_11_1 {R : Type} : St → (Ex → St → Option R) → Option R := fun T k => o_11_1 G_11_1 T k
def g_11_33 {R : Type} : List CV → List Blk → (CV → List Blk → Option R) → Option R := evFnL sm_11 FU (ovr noO (evFn sm_11 fns FU 0)) (ir33_t O_11_33_0 O_11_33_1 O_11_33_2 O_11_33_3) ir33
theorem body_11_33_0_0 {R : Type} (K0 : St → Option R) (K1 : Ex → St → Option R) (p0 : List Int) (p1 : Int) (p2 : List Int) (p3 : List Int) (p4 : List Int) (p5 : List Int) : evLB (evCodeL sm_11 FU (ovr noO (evFn sm_11 fns FU 0)) .nil ir33_b0) (St.norm ir33_v0) (T_11_33_0_0 p0 p1 p2 p3 p4 p5) K0 K1 =
  bif decide (p1 < (16 : Int)) then gd (sl3 (IntKind.wrap IntKind.i64 ((4 : Int) * p1)) (↑(List.length p0) : Int) (↑(List.length p0) : Int)) (gd (Sp.p_47 (List.drop (Int.toNat (IntKind.wrap IntKind.i64 ((4 : Int) * p1))) p0)) (gd (inB p1 (64 : Nat)) (gd (decide (Int.toNat p1 < (64 : Nat)) && true) (K0 (T_11_33_0_0 p0 (IntKind.wrap IntKind.i64 (p1 + (1 : Int))) p2 p3 p4 (List.set p5 (Int.toNat p1) (Prod.fst (Sp.v_47 (List.drop (Int.toNat (IntKind.wrap IntKind.i64 ((4 : Int) * p1))) p0))))))))) else K1 (Ex.exit (0 : Nat)) (X_11_33_0_0_0 p2 p3 p4 p5) := by kernel_rfl
theorem Bgd_11_33_0_0 {R : Type} {c : Bool} {x : Option R} {y : Option Sp.E_11_33_0_0} {k0 : (List Int) → (List Int) → (List Int) → (List Int) → Option R} (h : x = Sp.B_11_33_0_0 y k0) : gd c x = Sp.B_11_33_0_0 (gd c y) k0 := by cases c; rfl; exact h
theorem Bcond_11_33_0_0 {R : Type} {c : Bool} {x x' : Option R} {y y' : Option Sp.E_11_33_0_0} {k0 : (List Int) → (List Int) → (List Int) → (List Int) → Option R} (h : x = Sp.B_11_33_0_0 y k0) (h' : x' = Sp.B_11_33_0_0 y' k0) : (bif c then x else x') = Sp.B_11_33_0_0 (bif c then y else y') k0 := by cases c; exact h'; exact h
theorem loop_11_33_0_0 {R : Type} (k : Ex → St → Option R) : ∀ (m : Nat) (p0 : List Int) (p1 : Int) (p2 : List Int) (p3 : List Int) (p4 : List Int) (p5 : List Int), evLoopN (evCodeL sm_11 FU (ovr noO (evFn sm_11 fns FU 0)) .nil ir33_b0) (St.norm ir33_v0) m (T_11_33_0_0 p0 p1 p2 p3 p4 p5) k = Sp.B_11_33_0_0 (Sp.L_11_33_0_0 m p0 p1 p2 p3 p4 p5) (fun p2 p3 p4 p5 => k (Ex.exit (0 : Nat)) (X_11_33_0_0_0 p2 p3 p4 p5))
  | 0, _, _, _, _, _, _ => rfl
  | m + 1, p0, p1, p2, p3, p4, p5 => by
    rw [evLoopN_succ, body_11_33_0_0, Sp.L_11_33_0_0]
    repeat' first | apply Bgd_11_33_0_0 | apply Bcond_11_33_0_0 | exact loop_11_33_0_0 k m _ _ _ _ _ _ | rfl
theorem ok_11_33_0_0 {R : Type} (T : St) (k : Ex → St → Option R) (r : R) (h0 : o_11_33_0_0 G_11_33_0_0 T k = some r) : evLoopN (evCode sm_11 FU (evFn sm_11 fns FU 0) ir33_b0) (St.norm ir33_v0) FU T k = some r := by
  obtain ⟨p0, p1, p2, p3, p4, p5, rfl, h⟩ := o_11_33_0_0_inv h0
  refine evLoopN_L (t := .nil) noO_ok trivial _ _ _ _ ?_
  rw [loop_11_33_0_0]
  exact h
theorem body_11_33_0_1 {R : Type} (K0 : St → Option R) (K1 : Ex → St → Option R) (p0 : Nat) (p1 : Nat) (p2 : Nat) (p3 : Int) (p4 : List Int) (p5 : List Int) (p6 : List Int) (p7 : List Int) (p8 : List Int) : evLB (evCodeL sm_11 FU (ovr noO (evFn sm_11 fns FU 0)) .nil ir33_b0) (St.norm ir33_v0) (T_11_33_0_1 p0 p1 p2 p3 p4 p5 p6 p7 p8) K0 K1 =
  bif decide (p3 < (16 : Int)) then gd (sl3 (IntKind.wrap IntKind.i64 ((4 : Int) * p3)) (↑p1 : Int) (↑p1 : Int)) (gd (decide (p0 + Int.toNat (IntKind.wrap IntKind.i64 ((4 : Int) * p3)) + (Int.toNat (↑p1 : Int) - Int.toNat (IntKind.wrap IntKind.i64 ((4 : Int) * p3))) ≤ (128 : Nat)) && true && Sp.p_47 (List.take (Int.toNat (↑p1 : Int) - Int.toNat (IntKind.wrap IntKind.i64 ((4 : Int) * p3))) (List.drop (p0 + Int.toNat (IntKind.wrap IntKind.i64 ((4 : Int) * p3))) p7))) (gd (inB p3 (64 : Nat)) (gd (decide (Int.toNat p3 < (64 : Nat)) && true) (K0 (T_11_33_0_1 p0 p1 p2 (IntKind.wrap IntKind.i64 (p3 + (1 : Int))) p4 p5 p6 p7 (List.set p8 (Int.toNat p3) (Prod.fst (Sp.v_47 (List.take (Int.toNat (↑p1 : Int) - Int.toNat (IntKind.wrap IntKind.i64 ((4 : Int) * p3))) (List.drop (p0 + Int.toNat (IntKind.wrap IntKind.i64 ((4 : Int) * p3))) p7)))))))))) else K1 (Ex.exit (0 : Nat)) (X_11_33_0_1_0 p4 p5 p6 p7 p8) := by kernel_rfl
theorem Bgd_11_33_0_1 {R : Type} {c : Bool} {x : Option R} {y : Option Sp.E_11_33_0_1} {k0 : (List Int) → (List Int) → (List Int) → (List Int) → (List Int) → Option R} (h : x = Sp.B_11_33_0_1 y k0) : gd c x = Sp.B_11_33_0_1 (gd c y) k0 := by cases c; rfl; exact h
theorem Bcond_11_33_0_1 {R : Type} {c : Bool} {x x' : Option R} {y y' : Option Sp.E_11_33_0_1} {k0 : (List Int) → (List Int) → (List Int) → (List Int) → (List Int) → Option R} (h : x = Sp.B_11_33_0_1 y k0) (h' : x' = Sp.B_11_33_0_1 y' k0) : (bif c then x else x') = Sp.B_11_33_0_1 (bif c then y else y') k0 := by cases c; exact h'; exact h
theorem loop_11_33_0_1 {R : Type} (k : Ex → St → Option R) : ∀ (m : Nat) (p0 : Nat) (p1 : Nat) (p2 : Nat) (p3 : Int) (p4 : List Int) (p5 : List Int) (p6 : List Int) (p7 : List Int) (p8 : List Int), evLoopN (evCodeL sm_11 FU (ovr noO (evFn sm_11 fns FU 0)) .nil ir33_b0) (St.norm ir33_v0) m (T_11_33_0_1 p0 p1 p2 p3 p4 p5 p6 p7 p8) k = Sp.B_11_33_0_1 (Sp.L_11_33_0_1 m p0 p1 p2 p3 p4 p5 p6 p7 p8) (fun p4 p5 p6 p7 p8 => k (Ex.exit (0 : Nat)) (X_11_33_0_1_0 p4 p5 p6 p7 p8))
  | 0, _, _, _, _, _, _, _, _, _ => rfl
  | m + 1, p0, p1, p2, p3, p4, p5, p6, p7, p8 => by
    rw [evLoopN_succ, body_11_33_0_1, Sp.L_11_33_0_1]
    repeat' first | apply Bgd_11_33_0_1 | apply Bcond_11_33_0_1 | exact loop_11_33_0_1 k m _ _ _ _ _ _ _ _ _ | rfl
theorem ok_11_33_0_1 {R : Type} (T : St) (k : Ex → St → Option R) (r : R) (h0 : o_11_33_0_1 G_11_33_0_1 T k = some r) : evLoopN (evCode sm_11 FU (evFn sm_11 fns FU 0) ir33_b0) (St.norm ir33_v0) FU T k = some r := by
  obtain ⟨p0, p1, p2, p3, p4, p5, p6, p7, p8, rfl, h⟩ := o_11_33_0_1_inv h0
  refine evLoopN_L (t := .nil) noO_ok trivial _ _ _ _ ?_
  rw [loop_11_33_0_1]
  exact h
theorem OK_11_33_0 {R : Type} (T : St) (k : Ex → St → Option R) (r : R) (h : O_11_33_0 T k = some r) : evLoopN (evCode sm_11 FU (evFn sm_11 fns FU 0) ir33_b0) (St.norm ir33_v0) FU T k = some r := by
  unfold O_11_33_0 at h
  cases hm : m_11_33_0_0 T
  rotate_left
  · rw [hm, cond_true] at h; exact ok_11_33_0_0 T k r h
  rw [hm, cond_false] at h
  clear hm
  cases hm : m_11_33_0_1 T
  rotate_left
  · rw [hm, cond_true] at h; exact ok_11_33_0_1 T k r h
  rw [hm, cond_false] at h
  clear hm
  cases h
theorem body_11_33_1_0 {R : Type} (K0 : St → Option R) (K1 : Ex → St → Option R) (p0 : Int) (p1 : List Int) (p2 : List Int) (p3 : List Int) (p4 : List Int) : evLB (evCodeL sm_11 FU (ovr noO (evFn sm_11 fns FU 0)) .nil ir33_b1) (St.norm ir33_v1) (T_11_33_1_0 p0 p1 p2 p3 p4) K0 K1 =
  bif decide (p0 < (64 : Int)) then gd (inB (IntKind.wrap IntKind.i64 (p0 - (15 : Int))) (64 : Nat)) (gd (decide (Int.toNat (IntKind.wrap IntKind.i64 (p0 - (15 : Int))) < (64 : Nat)) && true) (gd (inB (IntKind.wrap IntKind.i64 (p0 - (2 : Int))) (64 : Nat)) (gd (decide (Int.toNat (IntKind.wrap IntKind.i64 (p0 - (2 : Int))) < (64 : Nat)) && true) (gd (Sp.p_49 (List.getD p4 (Int.toNat (IntKind.wrap IntKind.i64 (p0 - (15 : Int)))) (0 : Int)) (7 : Int)) (gd (Sp.p_49 (List.getD p4 (Int.toNat (IntKind.wrap IntKind.i64 (p0 - (15 : Int)))) (0 : Int)) (18 : Int)) (gd (Sp.p_49 (List.getD p4 (Int.toNat (IntKind.wrap IntKind.i64 (p0 - (2 : Int)))) (0 : Int)) (17 : Int)) (gd (Sp.p_49 (List.getD p4 (Int.toNat (IntKind.wrap IntKind.i64 (p0 - (2 : Int)))) (0 : Int)) (19 : Int)) (gd (inB (IntKind.wrap IntKind.i64 (p0 - (7 : Int))) (64 : Nat)) (gd (decide (Int.toNat (IntKind.wrap IntKind.i64 (p0 - (7 : Int))) < (64 : Nat)) && true) (gd (inB (IntKind.wrap IntKind.i64 (p0 - (16 : Int))) (64 : Nat)) (gd (decide (Int.toNat (IntKind.wrap IntKind.i64 (p0 - (16 : Int))) < (64 : Nat)) && true) (gd (inB p0 (64 : Nat)) (gd (decide (Int.toNat p0 < (64 : Nat)) && true) (K0 (T_11_33_1_0 (IntKind.wrap IntKind.i64 (p0 + (1 : Int))) p1 p2 p3 (List.set p4 (Int.toNat p0) (IntKind.wrap IntKind.u32 (IntKind.wrap IntKind.u32 (IntKind.wrap IntKind.u32 (Sp.xorI IntKind.u32 (Sp.xorI IntKind.u32 (Prod.fst (Sp.v_49 (List.getD p4 (Int.toNat (IntKind.wrap IntKind.i64 (p0 - (2 : Int)))) (0 : Int)) (17 : Int))) (Prod.fst (Sp.v_49 (List.getD p4 (Int.toNat (IntKind.wrap IntKind.i64 (p0 - (2 : Int)))) (0 : Int)) (19 : Int)))) (Int.fdiv (List.getD p4 (Int.toNat (IntKind.wrap IntKind.i64 (p0 - (2 : Int)))) (0 : Int)) (1024 : Int)) + List.getD p4 (Int.toNat (IntKind.wrap IntKind.i64 (p0 - (7 : Int)))) (0 : Int)) + Sp.xorI IntKind.u32 (Sp.xorI IntKind.u32 (Prod.fst (Sp.v_49 (List.getD p4 (Int.toNat (IntKind.wrap IntKind.i64 (p0 - (15 : Int)))) (0 : Int)) (7 : Int))) (Prod.fst (Sp.v_49 (List.getD p4 (Int.toNat (IntKind.wrap IntKind.i64 (p0 - (15 : Int)))) (0 : Int)) (18 : Int)))) (Int.fdiv (List.getD p4 (Int.toNat (IntKind.wrap IntKind.i64 (p0 - (15 : Int)))) (0 : Int)) (8 : Int))) + List.getD p4 (Int.toNat (IntKind.wrap IntKind.i64 (p0 - (16 : Int)))) (0 : Int))))))))))))))))))) else K1 (Ex.exit (2 : Nat)) (X_11_33_1_0_0 p1 p2 p3 p4) := by kernel_rfl
theorem Bgd_11_33_1_0 {R : Type} {c : Bool} {x : Option R} {y : Option Sp.E_11_33_1_0} {k0 : (List Int) → (List Int) → (List Int) → (List Int) → Option R} (h : x = Sp.B_11_33_1_0 y k0) : gd c x = Sp.B_11_33_1_0 (gd c y) k0 := by cases c; rfl; exact h
theorem Bcond_11_33_1_0 {R : Type} {c : Bool} {x x' : Option R} {y y' : Option Sp.E_11_33_1_0} {k0 : (List Int) → (List Int) → (List Int) → (List Int) → Option R} (h : x = Sp.B_11_33_1_0 y k0) (h' : x' = Sp.B_11_33_1_0 y' k0) : (bif c then x else x') = Sp.B_11_33_1_0 (bif c then y else y') k0 := by cases c; exact h'; exact h
theorem loop_11_33_1_0 {R : Type} (k : Ex → St → Option R) : ∀ (m : Nat) (p0 : Int) (p1 : List Int) (p2 : List Int) (p3 : List Int) (p4 : List Int), evLoopN (evCodeL sm_11 FU (ovr noO (evFn sm_11 fns FU 0)) .nil ir33_b1) (St.norm ir33_v1) m (T_11_33_1_0 p0 p1 p2 p3 p4) k = Sp.B_11_33_1_0 (Sp.L_11_33_1_0 m p0 p1 p2 p3 p4) (fun p1 p2 p3 p4 => k (Ex.exit (2 : Nat)) (X_11_33_1_0_0 p1 p2 p3 p4))
  | 0, _, _, _, _, _ => rfl
  | m + 1, p0, p1, p2, p3, p4 => by
    rw [evLoopN_succ, body_11_33_1_0, Sp.L_11_33_1_0]
    repeat' first | apply Bgd_11_33_1_0 | apply Bcond_11_33_1_0 | exact loop_11_33_1_0 k m _ _ _ _ _ | rfl
theorem ok_11_33_1_0 {R : Type} (T : St) (k : Ex → St → Option R) (r : R) (h0 : o_11_33_1_0 G_11_33_1_0 T k = some r) : evLoopN (evCode sm_11 FU (evFn sm_11 fns FU 0) ir33_b1) (St.norm ir33_v1) FU T k = some r := by
  obtain ⟨p0, p1, p2, p3, p4, rfl, h⟩ := o_11_33_1_0_inv h0
  refine evLoopN_L (t := .nil) noO_ok trivial _ _ _ _ ?_
  rw [loop_11_33_1_0]
  exact h
theorem body_11_33_1_1 {R : Type} (K0 : St → Option R) (K1 : Ex → St → Option R) (p0 : Int) (p1 : List Int) (p2 : List Int) (p3 : List Int) (p4 : List Int) (p5 : List Int) : evLB (evCodeL sm_11 FU (ovr noO (evFn sm_11 fns FU 0)) .nil ir33_b1) (St.norm ir33_v1) (T_11_33_1_1 p0 p1 p2 p3 p4 p5) K0 K1 =
  bif decide (p0 < (64 : Int)) then gd (inB (IntKind.wrap IntKind.i64 (p0 - (15 : Int))) (64 : Nat)) (gd (decide (Int.toNat (IntKind.wrap IntKind.i64 (p0 - (15 : Int))) < (64 : Nat)) && true) (gd (inB (IntKind.wrap IntKind.i64 (p0 - (2 : Int))) (64 : Nat)) (gd (decide (Int.toNat (IntKind.wrap IntKind.i64 (p0 - (2 : Int))) < (64 : Nat)) && true) (gd (Sp.p_49 (List.getD p5 (Int.toNat (IntKind.wrap IntKind.i64 (p0 - (15 : Int)))) (0 : Int)) (7 : Int)) (gd (Sp.p_49 (List.getD p5 (Int.toNat (IntKind.wrap IntKind.i64 (p0 - (15 : Int)))) (0 : Int)) (18 : Int)) (gd (Sp.p_49 (List.getD p5 (Int.toNat (IntKind.wrap IntKind.i64 (p0 - (2 : Int)))) (0 : Int)) (17 : Int)) (gd (Sp.p_49 (List.getD p5 (Int.toNat (IntKind.wrap IntKind.i64 (p0 - (2 : Int)))) (0 : Int)) (19 : Int)) (gd (inB (IntKind.wrap IntKind.i64 (p0 - (7 : Int))) (64 : Nat)) (gd (decide (Int.toNat (IntKind.wrap IntKind.i64 (p0 - (7 : Int))) < (64 : Nat)) && true) (gd (inB (IntKind.wrap IntKind.i64 (p0 - (16 : Int))) (64 : Nat)) (gd (decide (Int.toNat (IntKind.wrap IntKind.i64 (p0 - (16 : Int))) < (64 : Nat)) && true) (gd (inB p0 (64 : Nat)) (gd (decide (Int.toNat p0 < (64 : Nat)) && true) (K0 (T_11_33_1_1 (IntKind.wrap IntKind.i64 (p0 + (1 : Int))) p1 p2 p3 p4 (List.set p5 (Int.toNat p0) (IntKind.wrap IntKind.u32 (IntKind.wrap IntKind.u32 (IntKind.wrap IntKind.u32 (Sp.xorI IntKind.u32 (Sp.xorI IntKind.u32 (Prod.fst (Sp.v_49 (List.getD p5 (Int.toNat (IntKind.wrap IntKind.i64 (p0 - (2 : Int)))) (0 : Int)) (17 : Int))) (Prod.fst (Sp.v_49 (List.getD p5 (Int.toNat (IntKind.wrap IntKind.i64 (p0 - (2 : Int)))) (0 : Int)) (19 : Int)))) (Int.fdiv (List.getD p5 (Int.toNat (IntKind.wrap IntKind.i64 (p0 - (2 : Int)))) (0 : Int)) (1024 : Int)) + List.getD p5 (Int.toNat (IntKind.wrap IntKind.i64 (p0 - (7 : Int)))) (0 : Int)) + Sp.xorI IntKind.u32 (Sp.xorI IntKind.u32 (Prod.fst (Sp.v_49 (List.getD p5 (Int.toNat (IntKind.wrap IntKind.i64 (p0 - (15 : Int)))) (0 : Int)) (7 : Int))) (Prod.fst (Sp.v_49 (List.getD p5 (Int.toNat (IntKind.wrap IntKind.i64 (p0 - (15 : Int)))) (0 : Int)) (18 : Int)))) (Int.fdiv (List.getD p5 (Int.toNat (IntKind.wrap IntKind.i64 (p0 - (15 : Int)))) (0 : Int)) (8 : Int))) + List.getD p5 (Int.toNat (IntKind.wrap IntKind.i64 (p0 - (16 : Int)))) (0 : Int))))))))))))))))))) else K1 (Ex.exit (2 : Nat)) (X_11_33_1_1_0 p1 p2 p3 p4 p5) := by kernel_rfl
theorem Bgd_11_33_1_1 {R : Type} {c : Bool} {x : Option R} {y : Option Sp.E_11_33_1_1} {k0 : (List Int) → (List Int) → (List Int) → (List Int) → (List Int) → Option R} (h : x = Sp.B_11_33_1_1 y k0) : gd c x = Sp.B_11_33_1_1 (gd c y) k0 := by cases c; rfl; exact h
theorem Bcond_11_33_1_1 {R : Type} {c : Bool} {x x' : Option R} {y y' : Option Sp.E_11_33_1_1} {k0 : (List Int) → (List Int) → (List Int) → (List Int) → (List Int) → Option R} (h : x = Sp.B_11_33_1_1 y k0) (h' : x' = Sp.B_11_33_1_1 y' k0) : (bif c then x else x') = Sp.B_11_33_1_1 (bif c then y else y') k0 := by cases c; exact h'; exact h
theorem loop_11_33_1_1 {R : Type} (k : Ex → St → Option R) : ∀ (m : Nat) (p0 : Int) (p1 : List Int) (p2 : List Int) (p3 : List Int) (p4 : List Int) (p5 : List Int), evLoopN (evCodeL sm_11 FU (ovr noO (evFn sm_11 fns FU 0)) .nil ir33_b1) (St.norm ir33_v1) m (T_11_33_1_1 p0 p1 p2 p3 p4 p5) k = Sp.B_11_33_1_1 (Sp.L_11_33_1_1 m p0 p1 p2 p3 p4 p5) (fun p1 p2 p3 p4 p5 => k (Ex.exit (2 : Nat)) (X_11_33_1_1_0 p1 p2 p3 p4 p5))
  | 0, _, _, _, _, _, _ => rfl
  | m + 1, p0, p1, p2, p3, p4, p5 => by
    rw [evLoopN_succ, body_11_33_1_1, Sp.L_11_33_1_1]
    repeat' first | apply Bgd_11_33_1_1 | apply Bcond_11_33_1_1 | exact loop_11_33_1_1 k m _ _ _ _ _ _ | rfl
theorem ok_11_33_1_1 {R : Type} (T : St) (k : Ex → St → Option R) (r : R) (h0 : o_11_33_1_1 G_11_33_1_1 T k = some r) : evLoopN (evCode sm_11 FU (evFn sm_11 fns FU 0) ir33_b1) (St.norm ir33_v1) FU T k = some r := by
  obtain ⟨p0, p1, p2, p3, p4, p5, rfl, h⟩ := o_11_33_1_1_inv h0
  refine evLoopN_L (t := .nil) noO_ok trivial _ _ _ _ ?_
  rw [loop_11_33_1_1]
  exact h
theorem OK_11_33_1 {R : Type} (T : St) (k : Ex → St → Option R) (r : R) (h : O_11_33_1 T k = some r) : evLoopN (evCode sm_11 FU (evFn sm_11 fns FU 0) ir33_b1) (St.norm ir33_v1) FU T k = some r := by
  unfold O_11_33_1 at h
  cases hm : m_11_33_1_0 T
  rotate_left
  · rw [hm, cond_true] at h; exact ok_11_33_1_0 T k r h
  rw [hm, cond_false] at h
  clear hm
  cases hm : m_11_33_1_1 T
  rotate_left
  · rw [hm, cond_true] at h; exact ok_11_33_1_1 T k r h
  rw [hm, cond_false] at h
  clear hm
  cases h
theorem body_11_33_2_0 {R : Type} (K0 : St → Option R) (K1 : Ex → St → Option R) (p0 : Int) (p1 : List Int) (p2 : List Int) (p3 : List Int) (p4 : List Int) (p5 : List Int) : evLB (evCodeL sm_11 FU (ovr noO (evFn sm_11 fns FU 0)) .nil ir33_b2) (St.norm ir33_v2) (T_11_33_2_0 p0 p1 p2 p3 p4 p5) K0 K1 =
  bif decide (p0 < (64 : Int)) then gd (Sp.p_49 (List.getD p5 (4 : Nat) (0 : Int)) (6 : Int)) (gd (Sp.p_49 (List.getD p5 (4 : Nat) (0 : Int)) (11 : Int)) (gd (Sp.p_49 (List.getD p5 (4 : Nat) (0 : Int)) (25 : Int)) (gd (inB p0 (64 : Nat)) (gd (decide (Int.toNat p0 < (64 : Nat)) && true) (gd (inB p0 (64 : Nat)) (gd (decide (Int.toNat p0 < (64 : Nat)) && true) (gd (Sp.p_49 (List.getD p5 (0 : Nat) (0 : Int)) (2 : Int)) (gd (Sp.p_49 (List.getD p5 (0 : Nat) (0 : Int)) (13 : Int)) (gd (Sp.p_49 (List.getD p5 (0 : Nat) (0 : Int)) (22 : Int)) (K0 (T_11_33_2_0 (IntKind.wrap IntKind.i64 (p0 + (1 : Int))) p1 p2 p3 p4 [IntKind.wrap IntKind.u32 (IntKind.wrap IntKind.u32 (IntKind.wrap IntKind.u32 (IntKind.wrap IntKind.u32 (IntKind.wrap IntKind.u32 (List.getD p5 (7 : Nat) (0 : Int) + Sp.xorI IntKind.u32 (Sp.xorI IntKind.u32 (Prod.fst (Sp.v_49 (List.getD p5 (4 : Nat) (0 : Int)) (6 : Int))) (Prod.fst (Sp.v_49 (List.getD p5 (4 : Nat) (0 : Int)) (11 : Int)))) (Prod.fst (Sp.v_49 (List.getD p5 (4 : Nat) (0 : Int)) (25 : Int)))) + Sp.xorI IntKind.u32 (Sp.andI IntKind.u32 (List.getD p5 (4 : Nat) (0 : Int)) (List.getD p5 (5 : Nat) (0 : Int))) (Sp.andI IntKind.u32 (Sp.xorI IntKind.u32 (4294967295 : Int) (List.getD p5 (4 : Nat) (0 : Int))) (List.getD p5 (6 : Nat) (0 : Int)))) + List.getD p3 (Int.toNat p0) (0 : Int)) + List.getD p4 (Int.toNat p0) (0 : Int)) + IntKind.wrap IntKind.u32 (Sp.xorI IntKind.u32 (Sp.xorI IntKind.u32 (Prod.fst (Sp.v_49 (List.getD p5 (0 : Nat) (0 : Int)) (2 : Int))) (Prod.fst (Sp.v_49 (List.getD p5 (0 : Nat) (0 : Int)) (13 : Int)))) (Prod.fst (Sp.v_49 (List.getD p5 (0 : Nat) (0 : Int)) (22 : Int))) + Sp.xorI IntKind.u32 (Sp.xorI IntKind.u32 (Sp.andI IntKind.u32 (List.getD p5 (0 : Nat) (0 : Int)) (List.getD p5 (1 : Nat) (0 : Int))) (Sp.andI IntKind.u32 (List.getD p5 (0 : Nat) (0 : Int)) (List.getD p5 (2 : Nat) (0 : Int)))) (Sp.andI IntKind.u32 (List.getD p5 (1 : Nat) (0 : Int)) (List.getD p5 (2 : Nat) (0 : Int))))), List.getD p5 (0 : Nat) (0 : Int), List.getD p5 (1 : Nat) (0 : Int), List.getD p5 (2 : Nat) (0 : Int), IntKind.wrap IntKind.u32 (List.getD p5 (3 : Nat) (0 : Int) + IntKind.wrap IntKind.u32 (IntKind.wrap IntKind.u32 (IntKind.wrap IntKind.u32 (IntKind.wrap IntKind.u32 (List.getD p5 (7 : Nat) (0 : Int) + Sp.xorI IntKind.u32 (Sp.xorI IntKind.u32 (Prod.fst (Sp.v_49 (List.getD p5 (4 : Nat) (0 : Int)) (6 : Int))) (Prod.fst (Sp.v_49 (List.getD p5 (4 : Nat) (0 : Int)) (11 : Int)))) (Prod.fst (Sp.v_49 (List.getD p5 (4 : Nat) (0 : Int)) (25 : Int)))) + Sp.xorI IntKind.u32 (Sp.andI IntKind.u32 (List.getD p5 (4 : Nat) (0 : Int)) (List.getD p5 (5 : Nat) (0 : Int))) (Sp.andI IntKind.u32 (Sp.xorI IntKind.u32 (4294967295 : Int) (List.getD p5 (4 : Nat) (0 : Int))) (List.getD p5 (6 : Nat) (0 : Int)))) + List.getD p3 (Int.toNat p0) (0 : Int)) + List.getD p4 (Int.toNat p0) (0 : Int))), List.getD p5 (4 : Nat) (0 : Int), List.getD p5 (5 : Nat) (0 : Int), List.getD p5 (6 : Nat) (0 : Int)]))))))))))) else K1 (Ex.exit (4 : Nat)) (X_11_33_2_0_0 p1 p2 p3 p5) := by kernel_rfl
theorem Bgd_11_33_2_0 {R : Type} {c : Bool} {x : Option R} {y : Option Sp.E_11_33_2_0} {k0 : (List Int) → (List Int) → (List Int) → (List Int) → Option R} (h : x = Sp.B_11_33_2_0 y k0) : gd c x = Sp.B_11_33_2_0 (gd c y) k0 := by cases c; rfl; exact h
theorem Bcond_11_33_2_0 {R : Type} {c : Bool} {x x' : Option R} {y y' : Option Sp.E_11_33_2_0} {k0 : (List Int) → (List Int) → (List Int) → (List Int) → Option R} (h : x = Sp.B_11_33_2_0 y k0) (h' : x' = Sp.B_11_33_2_0 y' k0) : (bif c then x else x') = Sp.B_11_33_2_0 (bif c then y else y') k0 := by cases c; exact h'; exact h
theorem loop_11_33_2_0 {R : Type} (k : Ex → St → Option R) : ∀ (m : Nat) (p0 : Int) (p1 : List Int) (p2 : List Int) (p3 : List Int) (p4 : List Int) (p5 : List Int), evLoopN (evCodeL sm_11 FU (ovr noO (evFn sm_11 fns FU 0)) .nil ir33_b2) (St.norm ir33_v2) m (T_11_33_2_0 p0 p1 p2 p3 p4 p5) k = Sp.B_11_33_2_0 (Sp.L_11_33_2_0 m p0 p1 p2 p3 p4 p5) (fun p1 p2 p3 p5 => k (Ex.exit (4 : Nat)) (X_11_33_2_0_0 p1 p2 p3 p5))
  | 0, _, _, _, _, _, _ => rfl
  | m + 1, p0, p1, p2, p3, p4, p5 => by
    rw [evLoopN_succ, body_11_33_2_0, Sp.L_11_33_2_0]
    repeat' first | apply Bgd_11_33_2_0 | apply Bcond_11_33_2_0 | exact loop_11_33_2_0 k m _ _ _ _ _ _ | rfl
theorem ok_11_33_2_0 {R : Type} (T : St) (k : Ex → St → Option R) (r : R) (h0 : o_11_33_2_0 G_11_33_2_0 T k = some r) : evLoopN (evCode sm_11 FU (evFn sm_11 fns FU 0) ir33_b2) (St.norm ir33_v2) FU T k = some r := by
  obtain ⟨p0, p1, p2, p3, p4, p5, rfl, h⟩ := o_11_33_2_0_inv h0
  refine evLoopN_L (t := .nil) noO_ok trivial _ _ _ _ ?_
  rw [loop_11_33_2_0]
  exact h
theorem body_11_33_2_1 {R : Type} (K0 : St → Option R) (K1 : Ex → St → Option R) (p0 : Int) (p1 : List Int) (p2 : List Int) (p3 : List Int) (p4 : List Int) (p5 : List Int) (p6 : List Int) : evLB (evCodeL sm_11 FU (ovr noO (evFn sm_11 fns FU 0)) .nil ir33_b2) (St.norm ir33_v2) (T_11_33_2_1 p0 p1 p2 p3 p4 p5 p6) K0 K1 =
  bif decide (p0 < (64 : Int)) then gd (Sp.p_49 (List.getD p6 (4 : Nat) (0 : Int)) (6 : Int)) (gd (Sp.p_49 (List.getD p6 (4 : Nat) (0 : Int)) (11 : Int)) (gd (Sp.p_49 (List.getD p6 (4 : Nat) (0 : Int)) (25 : Int)) (gd (inB p0 (64 : Nat)) (gd (decide (Int.toNat p0 < (64 : Nat)) && true) (gd (inB p0 (64 : Nat)) (gd (decide (Int.toNat p0 < (64 : Nat)) && true) (gd (Sp.p_49 (List.getD p6 (0 : Nat) (0 : Int)) (2 : Int)) (gd (Sp.p_49 (List.getD p6 (0 : Nat) (0 : Int)) (13 : Int)) (gd (Sp.p_49 (List.getD p6 (0 : Nat) (0 : Int)) (22 : Int)) (K0 (T_11_33_2_1 (IntKind.wrap IntKind.i64 (p0 + (1 : Int))) p1 p2 p3 p4 p5 [IntKind.wrap IntKind.u32 (IntKind.wrap IntKind.u32 (IntKind.wrap IntKind.u32 (IntKind.wrap IntKind.u32 (IntKind.wrap IntKind.u32 (List.getD p6 (7 : Nat) (0 : Int) + Sp.xorI IntKind.u32 (Sp.xorI IntKind.u32 (Prod.fst (Sp.v_49 (List.getD p6 (4 : Nat) (0 : Int)) (6 : Int))) (Prod.fst (Sp.v_49 (List.getD p6 (4 : Nat) (0 : Int)) (11 : Int)))) (Prod.fst (Sp.v_49 (List.getD p6 (4 : Nat) (0 : Int)) (25 : Int)))) + Sp.xorI IntKind.u32 (Sp.andI IntKind.u32 (List.getD p6 (4 : Nat) (0 : Int)) (List.getD p6 (5 : Nat) (0 : Int))) (Sp.andI IntKind.u32 (Sp.xorI IntKind.u32 (4294967295 : Int) (List.getD p6 (4 : Nat) (0 : Int))) (List.getD p6 (6 : Nat) (0 : Int)))) + List.getD p3 (Int.toNat p0) (0 : Int)) + List.getD p5 (Int.toNat p0) (0 : Int)) + IntKind.wrap IntKind.u32 (Sp.xorI IntKind.u32 (Sp.xorI IntKind.u32 (Prod.fst (Sp.v_49 (List.getD p6 (0 : Nat) (0 : Int)) (2 : Int))) (Prod.fst (Sp.v_49 (List.getD p6 (0 : Nat) (0 : Int)) (13 : Int)))) (Prod.fst (Sp.v_49 (List.getD p6 (0 : Nat) (0 : Int)) (22 : Int))) + Sp.xorI IntKind.u32 (Sp.xorI IntKind.u32 (Sp.andI IntKind.u32 (List.getD p6 (0 : Nat) (0 : Int)) (List.getD p6 (1 : Nat) (0 : Int))) (Sp.andI IntKind.u32 (List.getD p6 (0 : Nat) (0 : Int)) (List.getD p6 (2 : Nat) (0 : Int)))) (Sp.andI IntKind.u32 (List.getD p6 (1 : Nat) (0 : Int)) (List.getD p6 (2 : Nat) (0 : Int))))), List.getD p6 (0 : Nat) (0 : Int), List.getD p6 (1 : Nat) (0 : Int), List.getD p6 (2 : Nat) (0 : Int), IntKind.wrap IntKind.u32 (List.getD p6 (3 : Nat) (0 : Int) + IntKind.wrap IntKind.u32 (IntKind.wrap IntKind.u32 (IntKind.wrap IntKind.u32 (IntKind.wrap IntKind.u32 (List.getD p6 (7 : Nat) (0 : Int) + Sp.xorI IntKind.u32 (Sp.xorI IntKind.u32 (Prod.fst (Sp.v_49 (List.getD p6 (4 : Nat) (0 : Int)) (6 : Int))) (Prod.fst (Sp.v_49 (List.getD p6 (4 : Nat) (0 : Int)) (11 : Int)))) (Prod.fst (Sp.v_49 (List.getD p6 (4 : Nat) (0 : Int)) (25 : Int)))) + Sp.xorI IntKind.u32 (Sp.andI IntKind.u32 (List.getD p6 (4 : Nat) (0 : Int)) (List.getD p6 (5 : Nat) (0 : Int))) (Sp.andI IntKind.u32 (Sp.xorI IntKind.u32 (4294967295 : Int) (List.getD p6 (4 : Nat) (0 : Int))) (List.getD p6 (6 : Nat) (0 : Int)))) + List.getD p3 (Int.toNat p0) (0 : Int)) + List.getD p5 (Int.toNat p0) (0 : Int))), List.getD p6 (4 : Nat) (0 : Int), List.getD p6 (5 : Nat) (0 : Int), List.getD p6 (6 : Nat) (0 : Int)]))))))))))) else K1 (Ex.exit (4 : Nat)) (X_11_33_2_1_0 p1 p2 p3 p4 p6) := by kernel_rfl
theorem Bgd_11_33_2_1 {R : Type} {c : Bool} {x : Option R} {y : Option Sp.E_11_33_2_1} {k0 : (List Int) → (List Int) → (List Int) → (List Int) → (List Int) → Option R} (h : x = Sp.B_11_33_2_1 y k0) : gd c x = Sp.B_11_33_2_1 (gd c y) k0 := by cases c; rfl; exact h
theorem Bcond_11_33_2_1 {R : Type} {c : Bool} {x x' : Option R} {y y' : Option Sp.E_11_33_2_1} {k0 : (List Int) → (List Int) → (List Int) → (List Int) → (List Int) → Option R} (h : x = Sp.B_11_33_2_1 y k0) (h' : x' = Sp.B_11_33_2_1 y' k0) : (bif c then x else x') = Sp.B_11_33_2_1 (bif c then y else y') k0 := by cases c; exact h'; exact h
theorem loop_11_33_2_1 {R : Type} (k : Ex → St → Option R) : ∀ (m : Nat) (p0 : Int) (p1 : List Int) (p2 : List Int) (p3 : List Int) (p4 : List Int) (p5 : List Int) (p6 : List Int), evLoopN (evCodeL sm_11 FU (ovr noO (evFn sm_11 fns FU 0)) .nil ir33_b2) (St.norm ir33_v2) m (T_11_33_2_1 p0 p1 p2 p3 p4 p5 p6) k = Sp.B_11_33_2_1 (Sp.L_11_33_2_1 m p0 p1 p2 p3 p4 p5 p6) (fun p1 p2 p3 p4 p6 => k (Ex.exit (4 : Nat)) (X_11_33_2_1_0 p1 p2 p3 p4 p6))
  | 0, _, _, _, _, _, _, _ => rfl
  | m + 1, p0, p1, p2, p3, p4, p5, p6 => by
    rw [evLoopN_succ, body_11_33_2_1, Sp.L_11_33_2_1]
    repeat' first | apply Bgd_11_33_2_1 | apply Bcond_11_33_2_1 | exact loop_11_33_2_1 k m _ _ _ _ _ _ _ | rfl
theorem ok_11_33_2_1 {R : Type} (T : St) (k : Ex → St → Option R) (r : R) (h0 : o_11_33_2_1 G_11_33_2_1 T k = some r) : evLoopN (evCode sm_11 FU (evFn sm_11 fns FU 0) ir33_b2) (St.norm ir33_v2) FU T k = some r := by
  obtain ⟨p0, p1, p2, p3, p4, p5, p6, rfl, h⟩ := o_11_33_2_1_inv h0
  refine evLoopN_L (t := .nil) noO_ok trivial _ _ _ _ ?_
  rw [loop_11_33_2_1]
  exact h
theorem OK_11_33_2 {R : Type} (T : St) (k : Ex → St → Option R) (r : R) (h : O_11_33_2 T k = some r) : evLoopN (evCode sm_11 FU (evFn sm_11 fns FU 0) ir33_b2) (St.norm ir33_v2) FU T k = some r := by
  unfold O_11_33_2 at h
  cases hm : m_11_33_2_0 T
  rotate_left
  · rw [hm, cond_true] at h; exact ok_11_33_2_0 T k r h
  rw [hm, cond_false] at h
  clear hm
  cases hm : m_11_33_2_1 T
  rotate_left
  · rw [hm, cond_true] at h; exact ok_11_33_2_1 T k r h
  rw [hm, cond_false] at h
  clear hm
  cases h
theorem body_11_33_3_0 {R : Type} (K0 : St → Option R) (K1 : Ex → St → Option R) (p0 : Int) (p1 : List Int) (p2 : List Int) (p3 : List Int) (p4 : List Int) : evLB (evCodeL sm_11 FU (ovr noO (evFn sm_11 fns FU 0)) .nil ir33_b3) (St.norm ir33_v3) (T_11_33_3_0 p0 p1 p2 p3 p4) K0 K1 =
  bif decide (p0 < (8 : Int)) then gd (inB p0 (8 : Nat)) (gd (decide (Int.toNat p0 < (8 : Nat)) && true) (gd (inB p0 (8 : Nat)) (gd (decide (Int.toNat p0 < (8 : Nat)) && true) (gd (inB p0 (8 : Nat)) (gd (decide (Int.toNat p0 < (8 : Nat)) && true) (K0 (T_11_33_3_0 (IntKind.wrap IntKind.i64 (p0 + (1 : Int))) p1 (List.set p2 (Int.toNat p0) (IntKind.wrap IntKind.u32 (List.getD p2 (Int.toNat p0) (0 : Int) + List.getD p4 (Int.toNat p0) (0 : Int)))) p3 p4))))))) else K1 (Ex.exit (6 : Nat)) (X_11_33_3_0_0 p1 p2 p3) := by kernel_rfl
theorem Bgd_11_33_3_0 {R : Type} {c : Bool} {x : Option R} {y : Option Sp.E_11_33_3_0} {k0 : (List Int) → (List Int) → (List Int) → Option R} (h : x = Sp.B_11_33_3_0 y k0) : gd c x = Sp.B_11_33_3_0 (gd c y) k0 := by cases c; rfl; exact h
theorem Bcond_11_33_3_0 {R : Type} {c : Bool} {x x' : Option R} {y y' : Option Sp.E_11_33_3_0} {k0 : (List Int) → (List Int) → (List Int) → Option R} (h : x = Sp.B_11_33_3_0 y k0) (h' : x' = Sp.B_11_33_3_0 y' k0) : (bif c then x else x') = Sp.B_11_33_3_0 (bif c then y else y') k0 := by cases c; exact h'; exact h
theorem loop_11_33_3_0 {R : Type} (k : Ex → St → Option R) : ∀ (m : Nat) (p0 : Int) (p1 : List Int) (p2 : List Int) (p3 : List Int) (p4 : List Int), evLoopN (evCodeL sm_11 FU (ovr noO (evFn sm_11 fns FU 0)) .nil ir33_b3) (St.norm ir33_v3) m (T_11_33_3_0 p0 p1 p2 p3 p4) k = Sp.B_11_33_3_0 (Sp.L_11_33_3_0 m p0 p1 p2 p3 p4) (fun p1 p2 p3 => k (Ex.exit (6 : Nat)) (X_11_33_3_0_0 p1 p2 p3))
  | 0, _, _, _, _, _ => rfl
  | m + 1, p0, p1, p2, p3, p4 => by
    rw [evLoopN_succ, body_11_33_3_0, Sp.L_11_33_3_0]
    repeat' first | apply Bgd_11_33_3_0 | apply Bcond_11_33_3_0 | exact loop_11_33_3_0 k m _ _ _ _ _ | rfl
theorem ok_11_33_3_0 {R : Type} (T : St) (k : Ex → St → Option R) (r : R) (h0 : o_11_33_3_0 G_11_33_3_0 T k = some r) : evLoopN (evCode sm_11 FU (evFn sm_11 fns FU 0) ir33_b3) (St.norm ir33_v3) FU T k = some r := by
  obtain ⟨p0, p1, p2, p3, p4, rfl, h⟩ := o_11_33_3_0_inv h0
  refine evLoopN_L (t := .nil) noO_ok trivial _ _ _ _ ?_
  rw [loop_11_33_3_0]
  exact h
theorem body_11_33_3_1 {R : Type} (K0 : St → Option R) (K1 : Ex → St → Option R) (p0 : Int) (p1 : List Int) (p2 : List Int) (p3 : List Int) (p4 : List Int) (p5 : List Int) : evLB (evCodeL sm_11 FU (ovr noO (evFn sm_11 fns FU 0)) .nil ir33_b3) (St.norm ir33_v3) (T_11_33_3_1 p0 p1 p2 p3 p4 p5) K0 K1 =
  bif decide (p0 < (8 : Int)) then gd (inB p0 (8 : Nat)) (gd (decide (Int.toNat p0 < (8 : Nat)) && true) (gd (inB p0 (8 : Nat)) (gd (decide (Int.toNat p0 < (8 : Nat)) && true) (gd (inB p0 (8 : Nat)) (gd (decide (Int.toNat p0 < (8 : Nat)) && true) (K0 (T_11_33_3_1 (IntKind.wrap IntKind.i64 (p0 + (1 : Int))) p1 (List.set p2 (Int.toNat p0) (IntKind.wrap IntKind.u32 (List.getD p2 (Int.toNat p0) (0 : Int) + List.getD p5 (Int.toNat p0) (0 : Int)))) p3 p4 p5))))))) else K1 (Ex.exit (6 : Nat)) (X_11_33_3_1_0 p1 p2 p3 p4) := by kernel_rfl
theorem Bgd_11_33_3_1 {R : Type} {c : Bool} {x : Option R} {y : Option Sp.E_11_33_3_1} {k0 : (List Int) → (List Int) → (List Int) → (List Int) → Option R} (h : x = Sp.B_11_33_3_1 y k0) : gd c x = Sp.B_11_33_3_1 (gd c y) k0 := by cases c; rfl; exact h
theorem Bcond_11_33_3_1 {R : Type} {c : Bool} {x x' : Option R} {y y' : Option Sp.E_11_33_3_1} {k0 : (List Int) → (List Int) → (List Int) → (List Int) → Option R} (h : x = Sp.B_11_33_3_1 y k0) (h' : x' = Sp.B_11_33_3_1 y' k0) : (bif c then x else x') = Sp.B_11_33_3_1 (bif c then y else y') k0 := by cases c; exact h'; exact h
theorem loop_11_33_3_1 {R : Type} (k : Ex → St → Option R) : ∀ (m : Nat) (p0 : Int) (p1 : List Int) (p2 : List Int) (p3 : List Int) (p4 : List Int) (p5 : List Int), evLoopN (evCodeL sm_11 FU (ovr noO (evFn sm_11 fns FU 0)) .nil ir33_b3) (St.norm ir33_v3) m (T_11_33_3_1 p0 p1 p2 p3 p4 p5) k = Sp.B_11_33_3_1 (Sp.L_11_33_3_1 m p0 p1 p2 p3 p4 p5) (fun p1 p2 p3 p4 => k (Ex.exit (6 : Nat)) (X_11_33_3_1_0 p1 p2 p3 p4))
  | 0, _, _, _, _, _, _ => rfl
  | m + 1, p0, p1, p2, p3, p4, p5 => by
    rw [evLoopN_succ, body_11_33_3_1, Sp.L_11_33_3_1]
    repeat' first | apply Bgd_11_33_3_1 | apply Bcond_11_33_3_1 | exact loop_11_33_3_1 k m _ _ _ _ _ _ | rfl
theorem ok_11_33_3_1 {R : Type} (T : St) (k : Ex → St → Option R) (r : R) (h0 : o_11_33_3_1 G_11_33_3_1 T k = some r) : evLoopN (evCode sm_11 FU (evFn sm_11 fns FU 0) ir33_b3) (St.norm ir33_v3) FU T k = some r := by
  obtain ⟨p0, p1, p2, p3, p4, p5, rfl, h⟩ := o_11_33_3_1_inv h0
  refine evLoopN_L (t := .nil) noO_ok trivial _ _ _ _ ?_
  rw [loop_11_33_3_1]
  exact h
theorem OK_11_33_3 {R : Type} (T : St) (k : Ex → St → Option R) (r : R) (h : O_11_33_3 T k = some r) : evLoopN (evCode sm_11 FU (evFn sm_11 fns FU 0) ir33_b3) (St.norm ir33_v3) FU T k = some r := by
  unfold O_11_33_3 at h
  cases hm : m_11_33_3_0 T
  rotate_left
  · rw [hm, cond_true] at h; exact ok_11_33_3_0 T k r h
  rw [hm, cond_false] at h
  clear hm
  cases hm : m_11_33_3_1 T
  rotate_left
  · rw [hm, cond_true] at h; exact ok_11_33_3_1 T k r h
  rw [hm, cond_false] at h
  clear hm
  cases h
theorem g_11_33_ok {R : Type} (args : List CV) (hp : List Blk) (k : CV → List Blk → Option R) (r : R) (h : g_11_33 args hp k = some r) : evFn sm_11 fns FU 1 33 args hp k = some r :=
  evFnL_sound (fn := ir33) (t := (ir33_t O_11_33_0 O_11_33_1 O_11_33_2 O_11_33_3)) (o := noO) rfl noO_ok (ir33_tok (fun T k r => OK_11_33_0 T k r) (fun T k r => OK_11_33_1 T k r) (fun T k r => OK_11_33_2 T k r) (fun T k r => OK_11_33_3 T k r)) h
theorem ov_11_11_ok {R : Type} : OvrOK (R := R) (fun f' => bif Nat.beq f' 33 then some (g_11_33) else none) (evFn sm_11 fns FU 1) := by
  intro f' g h args hp k r hg
  dsimp only at h
  by_cases h33 : f' = 33
  · subst h33
    injection h with h
    subst h
    exact evFn_le 0 (g_11_33_ok _ _ _ _ hg)
  rw [nbeq_ne h33, cond_false] at h
  cases h
theorem body_11_0 {R : Type} (K0 : St → Option R) (K1 : Ex → St → Option R) (p0 : List Int) (p1 : List Int) (p2 : List Int) (p3 : List Int) (p4 : List Int) : evLB (evCodeL sm_11 FU (ovr (fun f' => bif Nat.beq f' 33 then some (g_11_33) else none) (evFn sm_11 fns FU 1)) .nil ir11_b0) (St.norm ir11_v0) (T_11_0 p0 p1 p2 p3 p4) K0 K1 =
  bif decide ((↑(List.length p1) : Int) ≥ (64 : Int)) then gd (sl3 (0 : Int) (64 : Int) (↑(List.length p1) : Int)) (Sp.B_11_33_0_0 (Sp.L_11_33_0_0 (4611686018427387904 : Nat) (List.take (64 : Nat) (List.drop (0 : Nat) p1)) (0 : Int) p2 p3 p4 (List.replicate (64 : Nat) (0 : Int))) fun (y19 y20 y21 y22 : List Int) => Sp.B_11_33_1_0 (Sp.L_11_33_1_0 (4611686018427387904 : Nat) (16 : Int) y19 y20 y21 y22) fun (y23 y24 y25 y26 : List Int) => Sp.B_11_33_2_0 (Sp.L_11_33_2_0 (4611686018427387904 : Nat) (0 : Int) y23 y24 y25 y26 y24) fun (y27 y28 y29 y30 : List Int) => Sp.B_11_33_3_0 (Sp.L_11_33_3_0 (4611686018427387904 : Nat) (0 : Int) y27 y28 y29 y30) fun (y31 y32 y33 : List Int) => gd (sl3 (64 : Int) (↑(List.length p1) : Int) (↑(List.length p1) : Int)) (K0 (T_11_0 p0 (List.drop (64 : Nat) p1) y31 y32 y33))) else K1 (Ex.exit (0 : Nat)) (X_11_0_0 p0 p1 p2 p3 p4) := by kernel_rfl
theorem Bgd_11_0 {R : Type} {c : Bool} {x : Option R} {y : Option Sp.E_11_0} {k0 : (List Int) → (List Int) → (List Int) → (List Int) → (List Int) → Option R} (h : x = Sp.B_11_0 y k0) : gd c x = Sp.B_11_0 (gd c y) k0 := by cases c; rfl; exact h
theorem Bcond_11_0 {R : Type} {c : Bool} {x x' : Option R} {y y' : Option Sp.E_11_0} {k0 : (List Int) → (List Int) → (List Int) → (List Int) → (List Int) → Option R} (h : x = Sp.B_11_0 y k0) (h' : x' = Sp.B_11_0 y' k0) : (bif c then x else x') = Sp.B_11_0 (bif c then y else y') k0 := by cases c; exact h'; exact h
theorem Bin_11_0_11_33_0_0 {R : Type} {r : Option Sp.E_11_33_0_0} {k0 : (List Int) → (List Int) → (List Int) → (List Int) → (List Int) → Option R} {f0 : (List Int) → (List Int) → (List Int) → (List Int) → Option R} {g0 : (List Int) → (List Int) → (List Int) → (List Int) → Option Sp.E_11_0} (h0 : ∀ z0 z1 z2 z3, f0 z0 z1 z2 z3 = Sp.B_11_0 (g0 z0 z1 z2 z3) k0) : Sp.B_11_33_0_0 r f0 = Sp.B_11_0 (Sp.B_11_33_0_0 r g0) k0 := by
  cases r with
  | none => rfl
  | some e => cases e with
    | e0 z0 z1 z2 z3 => exact h0 _ _ _ _
theorem Bin_11_0_11_33_1_0 {R : Type} {r : Option Sp.E_11_33_1_0} {k0 : (List Int) → (List Int) → (List Int) → (List Int) → (List Int) → Option R} {f0 : (List Int) → (List Int) → (List Int) → (List Int) → Option R} {g0 : (List Int) → (List Int) → (List Int) → (List Int) → Option Sp.E_11_0} (h0 : ∀ z0 z1 z2 z3, f0 z0 z1 z2 z3 = Sp.B_11_0 (g0 z0 z1 z2 z3) k0) : Sp.B_11_33_1_0 r f0 = Sp.B_11_0 (Sp.B_11_33_1_0 r g0) k0 := by
  cases r with
  | none => rfl
  | some e => cases e with
    | e0 z0 z1 z2 z3 => exact h0 _ _ _ _
theorem Bin_11_0_11_33_2_0 {R : Type} {r : Option Sp.E_11_33_2_0} {k0 : (List Int) → (List Int) → (List Int) → (List Int) → (List Int) → Option R} {f0 : (List Int) → (List Int) → (List Int) → (List Int) → Option R} {g0 : (List Int) → (List Int) → (List Int) → (List Int) → Option Sp.E_11_0} (h0 : ∀ z0 z1 z2 z3, f0 z0 z1 z2 z3 = Sp.B_11_0 (g0 z0 z1 z2 z3) k0) : Sp.B_11_33_2_0 r f0 = Sp.B_11_0 (Sp.B_11_33_2_0 r g0) k0 := by
  cases r with
  | none => rfl
  | some e => cases e with
    | e0 z0 z1 z2 z3 => exact h0 _ _ _ _
theorem Bin_11_0_11_33_3_0 {R : Type} {r : Option Sp.E_11_33_3_0} {k0 : (List Int) → (List Int) → (List Int) → (List Int) → (List Int) → Option R} {f0 : (List Int) → (List Int) → (List Int) → Option R} {g0 : (List Int) → (List Int) → (List Int) → Option Sp.E_11_0} (h0 : ∀ z0 z1 z2, f0 z0 z1 z2 = Sp.B_11_0 (g0 z0 z1 z2) k0) : Sp.B_11_33_3_0 r f0 = Sp.B_11_0 (Sp.B_11_33_3_0 r g0) k0 := by
  cases r with
  | none => rfl
  | some e => cases e with
    | e0 z0 z1 z2 => exact h0 _ _ _
theorem loop_11_0 {R : Type} (k : Ex → St → Option R) : ∀ (m : Nat) (p0 : List Int) (p1 : List Int) (p2 : List Int) (p3 : List Int) (p4 : List Int), evLoopN (evCodeL sm_11 FU (ovr (fun f' => bif Nat.beq f' 33 then some (g_11_33) else none) (evFn sm_11 fns FU 1)) .nil ir11_b0) (St.norm ir11_v0) m (T_11_0 p0 p1 p2 p3 p4) k = Sp.B_11_0 (Sp.L_11_0 m p0 p1 p2 p3 p4) (fun p0 p1 p2 p3 p4 => k (Ex.exit (0 : Nat)) (X_11_0_0 p0 p1 p2 p3 p4))
  | 0, _, _, _, _, _ => rfl
  | m + 1, p0, p1, p2, p3, p4 => by
    rw [evLoopN_succ, body_11_0, Sp.L_11_0]
    repeat' first | apply Bgd_11_0 | apply Bcond_11_0 | (apply Bin_11_0_11_33_0_0 <;> intros) | (apply Bin_11_0_11_33_1_0 <;> intros) | (apply Bin_11_0_11_33_2_0 <;> intros) | (apply Bin_11_0_11_33_3_0 <;> intros) | exact loop_11_0 k m _ _ _ _ _ | rfl
theorem ok_11_0 {R : Type} (T : St) (k : Ex → St → Option R) (r : R) (h0 : o_11_0 G_11_0 T k = some r) : evLoopN (evCode sm_11 FU (evFn sm_11 fns FU 1) ir11_b0) (St.norm ir11_v0) FU T k = some r := by
  obtain ⟨p0, p1, p2, p3, p4, rfl, h⟩ := o_11_0_inv h0
  refine evLoopN_L (t := .nil) ov_11_11_ok trivial _ _ _ _ ?_
  rw [loop_11_0]
  exact h
theorem OK_11_11_0 {R : Type} (T : St) (k : Ex → St → Option R) (r : R) (h : O_11_11_0 T k = some r) : evLoopN (evCode sm_11 FU (evFn sm_11 fns FU 1) ir11_b0) (St.norm ir11_v0) FU T k = some r := ok_11_0 T k r h
theorem body_11_2 {R : Type} (K0 : St → Option R) (K1 : Ex → St → Option R) (p0 : Int) (p1 : Int) (p2 : List Int) (p3 : List Int) (p4 : List Int) (p5 : List Int) : evLB (evCodeL sm_11 FU (ovr (fun f' => bif Nat.beq f' 33 then some (g_11_33) else none) (evFn sm_11 fns FU 1)) .nil ir11_b2) (St.norm ir11_v2) (T_11_2 p0 p1 p2 p3 p4 p5) K0 K1 =
  bif decide (p1 < p0) then gd (sl3 p1 (IntKind.wrap IntKind.i64 (p1 + (64 : Int))) (128 : Int)) (Sp.B_11_33_0_1 (Sp.L_11_33_0_1 (4611686018427387904 : Nat) (Int.toNat p1) (Int.toNat (IntKind.wrap IntKind.i64 (p1 + (64 : Int))) - Int.toNat p1) ((128 : Nat) - Int.toNat p1) (0 : Int) p2 p3 p4 p5 (List.replicate (64 : Nat) (0 : Int))) fun (y19 y20 y21 y22 y23 : List Int) => Sp.B_11_33_1_1 (Sp.L_11_33_1_1 (4611686018427387904 : Nat) (16 : Int) y19 y20 y21 y22 y23) fun (y24 y25 y26 y27 y28 : List Int) => Sp.B_11_33_2_1 (Sp.L_11_33_2_1 (4611686018427387904 : Nat) (0 : Int) y24 y25 y26 y27 y28 y25) fun (y29 y30 y31 y32 y33 : List Int) => Sp.B_11_33_3_1 (Sp.L_11_33_3_1 (4611686018427387904 : Nat) (0 : Int) y29 y30 y31 y32 y33) fun (y34 y35 y36 y37 : List Int) => K0 (T_11_2 p0 (IntKind.wrap IntKind.i64 (p1 + (64 : Int))) y34 y35 y36 y37)) else K1 (Ex.exit (2 : Nat)) (X_11_2_0 p2 p3) := by kernel_rfl
theorem Bgd_11_2 {R : Type} {c : Bool} {x : Option R} {y : Option Sp.E_11_2} {k0 : (List Int) → (List Int) → Option R} (h : x = Sp.B_11_2 y k0) : gd c x = Sp.B_11_2 (gd c y) k0 := by cases c; rfl; exact h
theorem Bcond_11_2 {R : Type} {c : Bool} {x x' : Option R} {y y' : Option Sp.E_11_2} {k0 : (List Int) → (List Int) → Option R} (h : x = Sp.B_11_2 y k0) (h' : x' = Sp.B_11_2 y' k0) : (bif c then x else x') = Sp.B_11_2 (bif c then y else y') k0 := by cases c; exact h'; exact h
theorem Bin_11_2_11_33_0_1 {R : Type} {r : Option Sp.E_11_33_0_1} {k0 : (List Int) → (List Int) → Option R} {f0 : (List Int) → (List Int) → (List Int) → (List Int) → (List Int) → Option R} {g0 : (List Int) → (List Int) → (List Int) → (List Int) → (List Int) → Option Sp.E_11_2} (h0 : ∀ z0 z1 z2 z3 z4, f0 z0 z1 z2 z3 z4 = Sp.B_11_2 (g0 z0 z1 z2 z3 z4) k0) : Sp.B_11_33_0_1 r f0 = Sp.B_11_2 (Sp.B_11_33_0_1 r g0) k0 := by
  cases r with
  | none => rfl
  | some e => cases e with
    | e0 z0 z1 z2 z3 z4 => exact h0 _ _ _ _ _
theorem Bin_11_2_11_33_1_1 {R : Type} {r : Option Sp.E_11_33_1_1} {k0 : (List Int) → (List Int) → Option R} {f0 : (List Int) → (List Int) → (List Int) → (List Int) → (List Int) → Option R} {g0 : (List Int) → (List Int) → (List Int) → (List Int) → (List Int) → Option Sp.E_11_2} (h0 : ∀ z0 z1 z2 z3 z4, f0 z0 z1 z2 z3 z4 = Sp.B_11_2 (g0 z0 z1 z2 z3 z4) k0) : Sp.B_11_33_1_1 r f0 = Sp.B_11_2 (Sp.B_11_33_1_1 r g0) k0 := by
  cases r with
  | none => rfl
  | some e => cases e with
    | e0 z0 z1 z2 z3 z4 => exact h0 _ _ _ _ _
theorem Bin_11_2_11_33_2_1 {R : Type} {r : Option Sp.E_11_33_2_1} {k0 : (List Int) → (List Int) → Option R} {f0 : (List Int) → (List Int) → (List Int) → (List Int) → (List Int) → Option R} {g0 : (List Int) → (List Int) → (List Int) → (List Int) → (List Int) → Option Sp.E_11_2} (h0 : ∀ z0 z1 z2 z3 z4, f0 z0 z1 z2 z3 z4 = Sp.B_11_2 (g0 z0 z1 z2 z3 z4) k0) : Sp.B_11_33_2_1 r f0 = Sp.B_11_2 (Sp.B_11_33_2_1 r g0) k0 := by
  cases r with
  | none => rfl
  | some e => cases e with
    | e0 z0 z1 z2 z3 z4 => exact h0 _ _ _ _ _
theorem Bin_11_2_11_33_3_1 {R : Type} {r : Option Sp.E_11_33_3_1} {k0 : (List Int) → (List Int) → Option R} {f0 : (List Int) → (List Int) → (List Int) → (List Int) → Option R} {g0 : (List Int) → (List Int) → (List Int) → (List Int) → Option Sp.E_11_2} (h0 : ∀ z0 z1 z2 z3, f0 z0 z1 z2 z3 = Sp.B_11_2 (g0 z0 z1 z2 z3) k0) : Sp.B_11_33_3_1 r f0 = Sp.B_11_2 (Sp.B_11_33_3_1 r g0) k0 := by
  cases r with
  | none => rfl
  | some e => cases e with
    | e0 z0 z1 z2 z3 => exact h0 _ _ _ _
theorem loop_11_2 {R : Type} (k : Ex → St → Option R) : ∀ (m : Nat) (p0 : Int) (p1 : Int) (p2 : List Int) (p3 : List Int) (p4 : List Int) (p5 : List Int), evLoopN (evCodeL sm_11 FU (ovr (fun f' => bif Nat.beq f' 33 then some (g_11_33) else none) (evFn sm_11 fns FU 1)) .nil ir11_b2) (St.norm ir11_v2) m (T_11_2 p0 p1 p2 p3 p4 p5) k = Sp.B_11_2 (Sp.L_11_2 m p0 p1 p2 p3 p4 p5) (fun p2 p3 => k (Ex.exit (2 : Nat)) (X_11_2_0 p2 p3))
  | 0, _, _, _, _, _, _ => rfl
  | m + 1, p0, p1, p2, p3, p4, p5 => by
    rw [evLoopN_succ, body_11_2, Sp.L_11_2]
    repeat' first | apply Bgd_11_2 | apply Bcond_11_2 | (apply Bin_11_2_11_33_0_1 <;> intros) | (apply Bin_11_2_11_33_1_1 <;> intros) | (apply Bin_11_2_11_33_2_1 <;> intros) | (apply Bin_11_2_11_33_3_1 <;> intros) | exact loop_11_2 k m _ _ _ _ _ _ | rfl
theorem ok_11_2 {R : Type} (T : St) (k : Ex → St → Option R) (r : R) (h0 : o_11_2 G_11_2 T k = some r) : evLoopN (evCode sm_11 FU (evFn sm_11 fns FU 1) ir11_b2) (St.norm ir11_v2) FU T k = some r := by
  obtain ⟨p0, p1, p2, p3, p4, p5, rfl, h⟩ := o_11_2_inv h0
  refine evLoopN_L (t := .nil) ov_11_11_ok trivial _ _ _ _ ?_
  rw [loop_11_2]
  exact h
theorem OK_11_11_2 {R : Type} (T : St) (k : Ex → St → Option R) (r : R) (h : O_11_11_2 T k = some r) : evLoopN (evCode sm_11 FU (evFn sm_11 fns FU 1) ir11_b2) (St.norm ir11_v2) FU T k = some r := ok_11_2 T k r h
theorem body_11_3 {R : Type} (K0 : St → Option R) (K1 : Ex → St → Option R) (p0 : List Int) (p1 : Int) (p2 : List Int) (p3 : List Int) : evLB (evCodeL sm_11 FU (ovr (fun f' => bif Nat.beq f' 33 then some (g_11_33) else none) (evFn sm_11 fns FU 1)) .nil ir11_b3) (St.norm ir11_v3) (T_11_3 p0 p1 p2 p3) K0 K1 =
  bif decide (p1 < (8 : Int)) then gd (inB p1 (8 : Nat)) (gd (sl3 (IntKind.wrap IntKind.i64 ((4 : Int) * p1)) (32 : Int) (32 : Int)) (gd (inB (0 : Int) ((32 : Nat) - Int.toNat (IntKind.wrap IntKind.i64 ((4 : Int) * p1)))) (gd (decide (Int.toNat (IntKind.wrap IntKind.i64 ((4 : Int) * p1)) + (0 : Nat) < (32 : Nat)) && true) (gd (inB (1 : Int) ((32 : Nat) - Int.toNat (IntKind.wrap IntKind.i64 ((4 : Int) * p1)))) (gd (decide (Int.toNat (IntKind.wrap IntKind.i64 ((4 : Int) * p1)) + (1 : Nat) < (32 : Nat)) && true) (gd (inB (2 : Int) ((32 : Nat) - Int.toNat (IntKind.wrap IntKind.i64 ((4 : Int) * p1)))) (gd (decide (Int.toNat (IntKind.wrap IntKind.i64 ((4 : Int) * p1)) + (2 : Nat) < (32 : Nat)) && true) (gd (inB (3 : Int) ((32 : Nat) - Int.toNat (IntKind.wrap IntKind.i64 ((4 : Int) * p1)))) (gd (decide (Int.toNat (IntKind.wrap IntKind.i64 ((4 : Int) * p1)) + (3 : Nat) < (32 : Nat)) && true) (K0 (T_11_3 p0 (IntKind.wrap IntKind.i64 (p1 + (1 : Int))) p2 (List.set (List.set (List.set (List.set p3 (Int.toNat (IntKind.wrap IntKind.i64 ((4 : Int) * p1)) + (0 : Nat)) (IntKind.wrap IntKind.u8 (Int.fdiv (List.getD p0 (Int.toNat p1) (0 : Int)) (16777216 : Int)))) (Int.toNat (IntKind.wrap IntKind.i64 ((4 : Int) * p1)) + (1 : Nat)) (IntKind.wrap IntKind.u8 (Int.fdiv (List.getD p0 (Int.toNat p1) (0 : Int)) (65536 : Int)))) (Int.toNat (IntKind.wrap IntKind.i64 ((4 : Int) * p1)) + (2 : Nat)) (IntKind.wrap IntKind.u8 (Int.fdiv (List.getD p0 (Int.toNat p1) (0 : Int)) (256 : Int)))) (Int.toNat (IntKind.wrap IntKind.i64 ((4 : Int) * p1)) + (3 : Nat)) (IntKind.wrap IntKind.u8 (List.getD p0 (Int.toNat p1) (0 : Int))))))))))))))) else K1 (Ex.exit (4 : Nat)) (X_11_3_0 p2 p3) := by kernel_rfl
theorem Bgd_11_3 {R : Type} {c : Bool} {x : Option R} {y : Option Sp.E_11_3} {k0 : (List Int) → (List Int) → Option R} (h : x = Sp.B_11_3 y k0) : gd c x = Sp.B_11_3 (gd c y) k0 := by cases c; rfl; exact h
theorem Bcond_11_3 {R : Type} {c : Bool} {x x' : Option R} {y y' : Option Sp.E_11_3} {k0 : (List Int) → (List Int) → Option R} (h : x = Sp.B_11_3 y k0) (h' : x' = Sp.B_11_3 y' k0) : (bif c then x else x') = Sp.B_11_3 (bif c then y else y') k0 := by cases c; exact h'; exact h
theorem loop_11_3 {R : Type} (k : Ex → St → Option R) : ∀ (m : Nat) (p0 : List Int) (p1 : Int) (p2 : List Int) (p3 : List Int), evLoopN (evCodeL sm_11 FU (ovr (fun f' => bif Nat.beq f' 33 then some (g_11_33) else none) (evFn sm_11 fns FU 1)) .nil ir11_b3) (St.norm ir11_v3) m (T_11_3 p0 p1 p2 p3) k = Sp.B_11_3 (Sp.L_11_3 m p0 p1 p2 p3) (fun p2 p3 => k (Ex.exit (4 : Nat)) (X_11_3_0 p2 p3))
  | 0, _, _, _, _ => rfl
  | m + 1, p0, p1, p2, p3 => by
    rw [evLoopN_succ, body_11_3, Sp.L_11_3]
    repeat' first | apply Bgd_11_3 | apply Bcond_11_3 | exact loop_11_3 k m _ _ _ _ | rfl
theorem ok_11_3 {R : Type} (T : St) (k : Ex → St → Option R) (r : R) (h0 : o_11_3 G_11_3 T k = some r) : evLoopN (evCode sm_11 FU (evFn sm_11 fns FU 1) ir11_b3) (St.norm ir11_v3) FU T k = some r := by
  obtain ⟨p0, p1, p2, p3, rfl, h⟩ := o_11_3_inv h0
  refine evLoopN_L (t := .nil) ov_11_11_ok trivial _ _ _ _ ?_
  rw [loop_11_3]
  exact h
theorem OK_11_11_3 {R : Type} (T : St) (k : Ex → St → Option R) (r : R) (h : O_11_11_3 T k = some r) : evLoopN (evCode sm_11 FU (evFn sm_11 fns FU 1) ir11_b3) (St.norm ir11_v3) FU T k = some r := ok_11_3 T k r h
theorem body_11_1 {R : Type} (K1 : Ex → St → Option R) (p0 : List Int) (p1 : Int) (p2 : List Int) (p3 : List Int) (p4 : List Int) (p5 : List Int) : evJ (evCodeL sm_11 FU (ovr (fun f' => bif Nat.beq f' 33 then some (g_11_33) else none) (evFn sm_11 fns FU 1)) (ir11_bt1 O_11_11_2 O_11_11_3) ir11_b1) (T_11_1 p0 p1 p2 p3 p4 p5) K1 =
  gd (sl3 (IntKind.wrap IntKind.i64 (p1 - (8 : Int))) (128 : Int) (128 : Int)) (gd (inB (0 : Int) ((128 : Nat) - Int.toNat (IntKind.wrap IntKind.i64 (p1 - (8 : Int))))) (gd (decide (Int.toNat (IntKind.wrap IntKind.i64 (p1 - (8 : Int))) + (0 : Nat) < (128 : Nat)) && true) (gd (inB (1 : Int) ((128 : Nat) - Int.toNat (IntKind.wrap IntKind.i64 (p1 - (8 : Int))))) (gd (decide (Int.toNat (IntKind.wrap IntKind.i64 (p1 - (8 : Int))) + (1 : Nat) < (128 : Nat)) && true) (gd (inB (2 : Int) ((128 : Nat) - Int.toNat (IntKind.wrap IntKind.i64 (p1 - (8 : Int))))) (gd (decide (Int.toNat (IntKind.wrap IntKind.i64 (p1 - (8 : Int))) + (2 : Nat) < (128 : Nat)) && true) (gd (inB (3 : Int) ((128 : Nat) - Int.toNat (IntKind.wrap IntKind.i64 (p1 - (8 : Int))))) (gd (decide (Int.toNat (IntKind.wrap IntKind.i64 (p1 - (8 : Int))) + (3 : Nat) < (128 : Nat)) && true) (gd (sl3 (IntKind.wrap IntKind.i64 (p1 - (4 : Int))) (128 : Int) (128 : Int)) (gd (inB (0 : Int) ((128 : Nat) - Int.toNat (IntKind.wrap IntKind.i64 (p1 - (4 : Int))))) (gd (decide (Int.toNat (IntKind.wrap IntKind.i64 (p1 - (4 : Int))) + (0 : Nat) < (128 : Nat)) && true) (gd (inB (1 : Int) ((128 : Nat) - Int.toNat (IntKind.wrap IntKind.i64 (p1 - (4 : Int))))) (gd (decide (Int.toNat (IntKind.wrap IntKind.i64 (p1 - (4 : Int))) + (1 : Nat) < (128 : Nat)) && true) (gd (inB (2 : Int) ((128 : Nat) - Int.toNat (IntKind.wrap IntKind.i64 (p1 - (4 : Int))))) (gd (decide (Int.toNat (IntKind.wrap IntKind.i64 (p1 - (4 : Int))) + (2 : Nat) < (128 : Nat)) && true) (gd (inB (3 : Int) ((128 : Nat) - Int.toNat (IntKind.wrap IntKind.i64 (p1 - (4 : Int))))) (gd (decide (Int.toNat (IntKind.wrap IntKind.i64 (p1 - (4 : Int))) + (3 : Nat) < (128 : Nat)) && true) (Sp.B_11_2 (Sp.L_11_2 (4611686018427387904 : Nat) p1 (0 : Int) p2 p3 p4 (List.set (List.set (List.set (List.set (List.set (List.set (List.set (List.set p5 (Int.toNat (IntKind.wrap IntKind.i64 (p1 - (8 : Int))) + (0 : Nat)) (IntKind.wrap IntKind.u8 (Int.fdiv (IntKind.wrap IntKind.u32 (Int.fdiv (IntKind.wrap IntKind.u64 (IntKind.wrap IntKind.u64 (↑(List.length p0) : Int) * (8 : Int))) (4294967296 : Int))) (16777216 : Int)))) (Int.toNat (IntKind.wrap IntKind.i64 (p1 - (8 : Int))) + (1 : Nat)) (IntKind.wrap IntKind.u8 (Int.fdiv (IntKind.wrap IntKind.u32 (Int.fdiv (IntKind.wrap IntKind.u64 (IntKind.wrap IntKind.u64 (↑(List.length p0) : Int) * (8 : Int))) (4294967296 : Int))) (65536 : Int)))) (Int.toNat (IntKind.wrap IntKind.i64 (p1 - (8 : Int))) + (2 : Nat)) (IntKind.wrap IntKind.u8 (Int.fdiv (IntKind.wrap IntKind.u32 (Int.fdiv (IntKind.wrap IntKind.u64 (IntKind.wrap IntKind.u64 (↑(List.length p0) : Int) * (8 : Int))) (4294967296 : Int))) (256 : Int)))) (Int.toNat (IntKind.wrap IntKind.i64 (p1 - (8 : Int))) + (3 : Nat)) (IntKind.wrap IntKind.u8 (IntKind.wrap IntKind.u32 (Int.fdiv (IntKind.wrap IntKind.u64 (IntKind.wrap IntKind.u64 (↑(List.length p0) : Int) * (8 : Int))) (4294967296 : Int))))) (Int.toNat (IntKind.wrap IntKind.i64 (p1 - (4 : Int))) + (0 : Nat)) (IntKind.wrap IntKind.u8 (Int.fdiv (IntKind.wrap IntKind.u32 (IntKind.wrap IntKind.u64 (IntKind.wrap IntKind.u64 (↑(List.length p0) : Int) * (8 : Int)))) (16777216 : Int)))) (Int.toNat (IntKind.wrap IntKind.i64 (p1 - (4 : Int))) + (1 : Nat)) (IntKind.wrap IntKind.u8 (Int.fdiv (IntKind.wrap IntKind.u32 (IntKind.wrap IntKind.u64 (IntKind.wrap IntKind.u64 (↑(List.length p0) : Int) * (8 : Int)))) (65536 : Int)))) (Int.toNat (IntKind.wrap IntKind.i64 (p1 - (4 : Int))) + (2 : Nat)) (IntKind.wrap IntKind.u8 (Int.fdiv (IntKind.wrap IntKind.u32 (IntKind.wrap IntKind.u64 (IntKind.wrap IntKind.u64 (↑(List.length p0) : Int) * (8 : Int)))) (256 : Int)))) (Int.toNat (IntKind.wrap IntKind.i64 (p1 - (4 : Int))) + (3 : Nat)) (IntKind.wrap IntKind.u8 (IntKind.wrap IntKind.u32 (IntKind.wrap IntKind.u64 (IntKind.wrap IntKind.u64 (↑(List.length p0) : Int) * (8 : Int))))))) fun (y4 y5 : List Int) => Sp.B_11_3 (Sp.L_11_3 (4611686018427387904 : Nat) y5 (0 : Int) y4 (List.replicate (32 : Nat) (0 : Int))) fun (y6 y7 : List Int) => K1 Ex.ret (X_11_1_0 y7))))))))))))))))))) := by kernel_rfl
theorem Bgd_11_1 {R : Type} {c : Bool} {x : Option R} {y : Option Sp.E_11_1} {k0 : (List Int) → Option R} (h : x = Sp.B_11_1 y k0) : gd c x = Sp.B_11_1 (gd c y) k0 := by cases c; rfl; exact h
theorem Bcond_11_1 {R : Type} {c : Bool} {x x' : Option R} {y y' : Option Sp.E_11_1} {k0 : (List Int) → Option R} (h : x = Sp.B_11_1 y k0) (h' : x' = Sp.B_11_1 y' k0) : (bif c then x else x') = Sp.B_11_1 (bif c then y else y') k0 := by cases c; exact h'; exact h
theorem Bin_11_1_11_2 {R : Type} {r : Option Sp.E_11_2} {k0 : (List Int) → Option R} {f0 : (List Int) → (List Int) → Option R} {g0 : (List Int) → (List Int) → Option Sp.E_11_1} (h0 : ∀ z0 z1, f0 z0 z1 = Sp.B_11_1 (g0 z0 z1) k0) : Sp.B_11_2 r f0 = Sp.B_11_1 (Sp.B_11_2 r g0) k0 := by
  cases r with
  | none => rfl
  | some e => cases e with
    | e0 z0 z1 => exact h0 _ _
theorem Bin_11_1_11_3 {R : Type} {r : Option Sp.E_11_3} {k0 : (List Int) → Option R} {f0 : (List Int) → (List Int) → Option R} {g0 : (List Int) → (List Int) → Option Sp.E_11_1} (h0 : ∀ z0 z1, f0 z0 z1 = Sp.B_11_1 (g0 z0 z1) k0) : Sp.B_11_3 r f0 = Sp.B_11_1 (Sp.B_11_3 r g0) k0 := by
  cases r with
  | none => rfl
  | some e => cases e with
    | e0 z0 z1 => exact h0 _ _
theorem loop_11_1 {R : Type} (k : Ex → St → Option R) (p0 : List Int) (p1 : Int) (p2 : List Int) (p3 : List Int) (p4 : List Int) (p5 : List Int) : evJ (evCodeL sm_11 FU (ovr (fun f' => bif Nat.beq f' 33 then some (g_11_33) else none) (evFn sm_11 fns FU 1)) (ir11_bt1 O_11_11_2 O_11_11_3) ir11_b1) (T_11_1 p0 p1 p2 p3 p4 p5) k = Sp.B_11_1 (Sp.J_11_1 p0 p1 p2 p3 p4 p5) (fun y7 => k Ex.ret (X_11_1_0 y7)) := by
  rw [body_11_1, Sp.J_11_1]
  repeat' first | apply Bgd_11_1 | apply Bcond_11_1 | (apply Bin_11_1_11_2 <;> intros) | (apply Bin_11_1_11_3 <;> intros) | rfl
theorem ok_11_1 {R : Type} (T : St) (k : Ex → St → Option R) (r : R) (h0 : o_11_1 G_11_1 T k = some r) : evCode sm_11 FU (evFn sm_11 fns FU 1) ir11_b1 T k = some r := by
  obtain ⟨p0, p1, p2, p3, p4, p5, rfl, h⟩ := o_11_1_inv h0
  refine bodyL_sound (t := (ir11_bt1 O_11_11_2 O_11_11_3)) ov_11_11_ok (ir11_bt1ok (fun T k r => OK_11_11_2 T k r) (fun T k r => OK_11_11_3 T k r)) ((loop_11_1 k _ _ _ _ _ _).trans h)
theorem OK_11_11_1 {R : Type} (T : St) (k : Ex → St → Option R) (r : R) (h : O_11_11_1 T k = some r) : evCode sm_11 FU (evFn sm_11 fns FU 1) ir11_b1 T k = some r := ok_11_1 T k r h
def F_11 (a0 : (List Int)) : Option ((List Int) × Unit) :=
  gd Sp.p_32 (Sp.B_11_0 (Sp.L_11_0 (4611686018427387904 : Nat) a0 a0 (List.replicate (32 : Nat) (0 : Int)) [(1779033703 : Int), (3144134277 : Int), (1013904242 : Int), (2773480762 : Int), (1359893119 : Int), (2600822924 : Int), (528734635 : Int), (1541459225 : Int)] (Prod.fst Sp.v_32)) fun (y7 y8 y9 y10 y11 : List Int) => gd (inB (↑(Nat.min (List.length y8) (128 : Nat)) : Int) (128 : Nat)) (gd (decide (Int.toNat (↑(Nat.min (List.length y8) (128 : Nat)) : Int) < (128 : Nat)) && true) (bif decide (IntKind.wrap IntKind.i64 ((↑(Nat.min (List.length y8) (128 : Nat)) : Int) + (9 : Int)) > (64 : Int)) then Sp.B_11_1 (Sp.J_11_1 y7 (128 : Int) y9 y10 y11 (List.set (over (List.replicate (128 : Nat) (0 : Int)) (0 : Nat) (List.take (128 : Nat) y8)) (Int.toNat (↑(Nat.min (List.length y8) (128 : Nat)) : Int)) (128 : Int))) fun (y14 : List Int) => some (y14, PUnit.unit) else Sp.B_11_1 (Sp.J_11_1 y7 (64 : Int) y9 y10 y11 (List.set (over (List.replicate (128 : Nat) (0 : Int)) (0 : Nat) (List.take (128 : Nat) y8)) (Int.toNat (↑(Nat.min (List.length y8) (128 : Nat)) : Int)) (128 : Int))) fun (y15 : List Int) => some (y15, PUnit.unit))))
theorem fn_11 (a0 : (List Int)) : evFnL sm_11 FU (ovr (fun f' => bif Nat.beq f' 33 then some (g_11_33) else none) (evFn sm_11 fns FU 1)) (ir11_t O_11_11_0 O_11_11_1) ir11 (ofH [(.slice (.int .u8))] (a0, ())) [] (pureK [(.arr 32 (.int .u8))]) = F_11 a0 := by kernel_rfl
def Sp.p_11 (a0 : (List Int)) : Bool := (F_11 a0).isSome
def Sp.v_11 (a0 : (List Int)) : (List Int) × Unit := (F_11 a0).getD (dfH [(.arr 32 (.int .u8))])
def s_11 : Summ := shN [(.slice (.int .u8))] [(.arr 32 (.int .u8))] (fun x => Sp.p_11 x.1) (fun x => Sp.v_11 x.1)
theorem pv_11 (a0 : (List Int)) {y : (List Int) × Unit} (h : F_11 a0 = some y) : Sp.p_11 a0 = true ∧ Sp.v_11 a0 = y := ⟨by rw [Sp.p_11, h]; rfl, by rw [Sp.v_11, h]; rfl⟩
theorem run_11 (x : HDen [(.slice (.int .u8))]) (y : HDen [(.arr 32 (.int .u8))]) (h : F_11 x.1 = some y) : evFn sm_11 fns FU 2 11 (ofH [(.slice (.int .u8))] x) [] (pureK [(.arr 32 (.int .u8))]) = some y :=
  evFnL_sound (fn := ir11) (t := (ir11_t O_11_11_0 O_11_11_1)) (o := (fun f' => bif Nat.beq f' 33 then some (g_11_33) else none)) rfl ov_11_11_ok (ir11_tok (fun T k r => OK_11_11_0 T k r) (fun T k r => OK_11_11_1 T k r)) ((fn_11 _).trans h)
end
end Go.Ev
namespace Go.Ev
open Go
set_option maxRecDepth 100000
set_option maxHeartbeats 4000000
set_option linter.unusedVariables false
noncomputable section

def sm_13 : Nat → Option Summ := fun f => none
def T_13_1 (p0 : Int) (p1 : List Int) (p2 : Int) (p3 : List Int) (p4 : Int) (p5 : List Int) : St := St.mk [CV.junk, CV.junk, CV.junk, CV.whole (0 : Nat), CV.int IntKind.i64 p0, CV.junk, CV.junk, CV.junk, CV.junk, CV.pure (Ty.arr (32 : Nat) (Ty.int IntKind.u8)) p1, CV.int IntKind.i64 p2, CV.junk, CV.junk, CV.junk, CV.junk, CV.junk, CV.junk, CV.junk, CV.junk, CV.pure (Ty.arr (2 : Nat) (Ty.int IntKind.i64)) p3, CV.int IntKind.i64 p4, CV.junk, CV.junk, CV.junk, CV.junk, CV.junk, CV.junk, CV.junk, CV.junk, CV.junk, CV.junk, CV.junk, CV.junk, CV.junk, CV.junk, CV.junk, CV.junk, CV.junk, CV.junk, CV.junk, CV.junk, CV.junk, CV.junk] [Blk.vec (3 : Nat) (Ty.int IntKind.i64) p5] (0 : Nat)
def X_13_1_0 (p0 : Int) (p1 : List Int) (p2 : Int) (p5 : List Int) : St := St.mk [CV.junk, CV.junk, CV.junk, CV.whole (0 : Nat), CV.int IntKind.i64 p0, CV.junk, CV.junk, CV.junk, CV.junk, CV.pure (Ty.arr (32 : Nat) (Ty.int IntKind.u8)) p1, CV.int IntKind.i64 p2, CV.junk, CV.junk, CV.junk, CV.junk, CV.junk, CV.junk, CV.junk, CV.junk, CV.junk, CV.junk, CV.junk, CV.junk, CV.junk, CV.junk, CV.junk, CV.junk, CV.junk, CV.junk, CV.junk, CV.junk, CV.junk, CV.junk, CV.junk, CV.junk, CV.junk, CV.junk, CV.junk, CV.junk, CV.junk, CV.junk, CV.junk, CV.junk] [Blk.vec (3 : Nat) (Ty.int IntKind.i64) p5] (0 : Nat)
inductive Sp.E_13_1 where
  | e0 (p0 : Int) (p1 : List Int) (p2 : Int) (p5 : List Int)
def Sp.B_13_1 {R : Type} (r : Option Sp.E_13_1) (k0 : (Int) → (List Int) → (Int) → (List Int) → Option R) : Option R := match r with
  | none => none
  | some (.e0 p0 p1 p2 p5) => k0 p0 p1 p2 p5
def Sp.L_13_1 : Nat → (Int) → (List Int) → (Int) → (List Int) → (Int) → (List Int) → Option Sp.E_13_1
  | 0, _, _, _, _, _, _ => none
  | m + 1, p0, p1, p2, p3, p4, p5 => bif decide (p4 < (2 : Int)) then gd (inB p4 (2 : Nat)) (gd (room (List.length p5 + (1 : Nat)) (8 : Nat)) (Sp.L_13_1 m (IntKind.wrap IntKind.i64 (p0 + IntKind.wrap IntKind.i64 ((15 : Int) - List.getD p3 (Int.toNat p4) (0 : Int)))) p1 p2 p3 (IntKind.wrap IntKind.i64 (p4 + (1 : Int))) (p5 ++ [List.getD p3 (Int.toNat p4) (0 : Int)]))) else some (Sp.E_13_1.e0 p0 p1 p2 p5)
def G_13_1 {R : Type} (p0 : Int) (p1 : List Int) (p2 : Int) (p3 : List Int) (p4 : Int) (p5 : List Int) (k : Ex → St → Option R) : Option R := Sp.B_13_1 (Sp.L_13_1 FU p0 p1 p2 p3 p4 p5) (fun p0 p1 p2 p5 => k (Ex.exit (2 : Nat)) (X_13_1_0 p0 p1 p2 p5))
def o_13_1 {R : Type} (G : (Int) → (List Int) → (Int) → (List Int) → (Int) → (List Int) → (Ex → St → Option R) → Option R) : St → (Ex → St → Option R) → Option R := fun T k => match T.sl.getD 3 .junk, T.sl.getD 4 .junk, T.sl.getD 9 .junk, T.sl.getD 10 .junk, T.sl.getD 19 .junk, T.sl.getD 20 .junk, T.hp with
  | CV.whole (0 : Nat), CV.int IntKind.i64 p0, CV.pure (Ty.arr (32 : Nat) (Ty.int IntKind.u8)) p1, CV.int IntKind.i64 p2, CV.pure (Ty.arr (2 : Nat) (Ty.int IntKind.i64)) p3, CV.int IntKind.i64 p4, ((Blk.vec (3 : Nat) (Ty.int IntKind.i64) p5) :: []) => gd (shapeOK T 43 [3, 4, 9, 10, 19, 20] (0 : Nat)) (G p0 p1 p2 p3 p4 p5 k)
  | _, _, _, _, _, _, _ => none
theorem o_13_1_inv {R : Type} {G : (Int) → (List Int) → (Int) → (List Int) → (Int) → (List Int) → (Ex → St → Option R) → Option R} {T : St} {k : Ex → St → Option R} {r : R} (h : o_13_1 G T k = some r) : ∃ p0 p1 p2 p3 p4 p5, T = T_13_1 p0 p1 p2 p3 p4 p5 ∧ G p0 p1 p2 p3 p4 p5 k = some r := by
  unfold o_13_1 at h
  split at h
  · obtain ⟨hs, h'⟩ := gd_some h
    refine ⟨_, _, _, _, _, _, (st_of (asg := [(3, _), (4, _), (9, _), (10, _), (19, _), (20, _)]) hs ⟨by assumption, by assumption, by assumption, by assumption, by assumption, by assumption, trivial⟩ (by assumption)).trans ?_, h'⟩
    kernel_rfl
  · cases h
def T_13_0 (p0 : Int) (p1 : List Int) (p2 : Int) (p3 : List Int) : St := St.mk [CV.junk, CV.junk, CV.junk, CV.whole (0 : Nat), CV.int IntKind.i64 p0, CV.junk, CV.junk, CV.junk, CV.junk, CV.pure (Ty.arr (32 : Nat) (Ty.int IntKind.u8)) p1, CV.int IntKind.i64 p2, CV.junk, CV.junk, CV.junk, CV.junk, CV.junk, CV.junk, CV.junk, CV.junk, CV.junk, CV.junk, CV.junk, CV.junk, CV.junk, CV.junk, CV.junk, CV.junk, CV.junk, CV.junk, CV.junk, CV.junk, CV.junk, CV.junk, CV.junk, CV.junk, CV.junk, CV.junk, CV.junk, CV.junk, CV.junk, CV.junk, CV.junk, CV.junk] [Blk.vec (3 : Nat) (Ty.int IntKind.i64) p3] (0 : Nat)
def X_13_0_0 (p0 : Int) (p3 : List Int) : St := St.mk [CV.junk, CV.junk, CV.junk, CV.whole (0 : Nat), CV.int IntKind.i64 p0, CV.junk, CV.junk, CV.junk, CV.junk, CV.junk, CV.junk, CV.junk, CV.junk, CV.junk, CV.junk, CV.junk, CV.junk, CV.junk, CV.junk, CV.junk, CV.junk, CV.junk, CV.junk, CV.junk, CV.junk, CV.junk, CV.junk, CV.junk, CV.junk, CV.junk, CV.junk, CV.junk, CV.junk, CV.junk, CV.junk, CV.junk, CV.junk, CV.junk, CV.junk, CV.junk, CV.junk, CV.junk, CV.junk] [Blk.vec (3 : Nat) (Ty.int IntKind.i64) p3] (0 : Nat)
inductive Sp.E_13_0 where
  | e0 (p0 : Int) (p3 : List Int)
def Sp.B_13_0 {R : Type} (r : Option Sp.E_13_0) (k0 : (Int) → (List Int) → Option R) : Option R := match r with
  | none => none
  | some (.e0 p0 p3) => k0 p0 p3
def Sp.L_13_0 : Nat → (Int) → (List Int) → (Int) → (List Int) → Option Sp.E_13_0
  | 0, _, _, _, _ => none
  | m + 1, p0, p1, p2, p3 => bif decide (p2 < (32 : Int)) then gd (inB p2 (32 : Nat)) (Sp.B_13_1 (Sp.L_13_1 (4611686018427387904 : Nat) p0 p1 p2 [IntKind.wrap IntKind.i64 (Int.fdiv (List.getD p1 (Int.toNat p2) (0 : Int)) (16 : Int)), IntKind.wrap IntKind.i64 (Sp.andI IntKind.u8 (List.getD p1 (Int.toNat p2) (0 : Int)) (15 : Int))] (0 : Int) p3) fun (y4 : Int) (y5 : List Int) (y6 : Int) (y7 : List Int) => Sp.L_13_0 m y4 y5 (IntKind.wrap IntKind.i64 (y6 + (1 : Int))) y7) else some (Sp.E_13_0.e0 p0 p3)
def G_13_0 {R : Type} (p0 : Int) (p1 : List Int) (p2 : Int) (p3 : List Int) (k : Ex → St → Option R) : Option R := Sp.B_13_0 (Sp.L_13_0 FU p0 p1 p2 p3) (fun p0 p3 => k (Ex.exit (0 : Nat)) (X_13_0_0 p0 p3))
def o_13_0 {R : Type} (G : (Int) → (List Int) → (Int) → (List Int) → (Ex → St → Option R) → Option R) : St → (Ex → St → Option R) → Option R := fun T k => match T.sl.getD 3 .junk, T.sl.getD 4 .junk, T.sl.getD 9 .junk, T.sl.getD 10 .junk, T.hp with
  | CV.whole (0 : Nat), CV.int IntKind.i64 p0, CV.pure (Ty.arr (32 : Nat) (Ty.int IntKind.u8)) p1, CV.int IntKind.i64 p2, ((Blk.vec (3 : Nat) (Ty.int IntKind.i64) p3) :: []) => gd (shapeOK T 43 [3, 4, 9, 10] (0 : Nat)) (G p0 p1 p2 p3 k)
  | _, _, _, _, _ => none
theorem o_13_0_inv {R : Type} {G : (Int) → (List Int) → (Int) → (List Int) → (Ex → St → Option R) → Option R} {T : St} {k : Ex → St → Option R} {r : R} (h : o_13_0 G T k = some r) : ∃ p0 p1 p2 p3, T = T_13_0 p0 p1 p2 p3 ∧ G p0 p1 p2 p3 k = some r := by
  unfold o_13_0 at h
  split at h
  · obtain ⟨hs, h'⟩ := gd_some h
    refine ⟨_, _, _, _, (st_of (asg := [(3, _), (4, _), (9, _), (10, _)]) hs ⟨by assumption, by assumption, by assumption, by assumption, trivial⟩ (by assumption)).trans ?_, h'⟩
    kernel_rfl
  · cases h
def O_13_13_1 {R : Type} : St → (Ex → St → Option R) → Option R := fun T k => o_13_1 G_13_1 T k
def O_13_13_0 {R : Type} : St → (Ex → St → Option R) → Option R := fun T k => o_13_0 G_13_0 T k
theorem body_13_1 {R : Type} (K0 : St → Option R) (K1 : Ex → St → Option R) (p0 : Int) (p1 : List Int) (p2 : Int) (p3 : List Int) (p4 : Int) (p5 : List Int) : evLB (evCodeL sm_13 FU (ovr noO (evFn sm_13 fns FU 0)) .nil ir13_b1) (St.norm ir13_v1) (T_13_1 p0 p1 p2 p3 p4 p5) K0 K1 =
  bif decide (p4 < (2 : Int)) then gd (inB p4 (2 : Nat)) (gd (room (List.length p5 + (1 : Nat)) (8 : Nat)) (K0 (T_13_1 (IntKind.wrap IntKind.i64 (p0 + IntKind.wrap IntKind.i64 ((15 : Int) - List.getD p3 (Int.toNat p4) (0 : Int)))) p1 p2 p3 (IntKind.wrap IntKind.i64 (p4 + (1 : Int))) (p5 ++ [List.getD p3 (Int.toNat p4) (0 : Int)])))) else K1 (Ex.exit (2 : Nat)) (X_13_1_0 p0 p1 p2 p5) := by kernel_rfl
theorem Bgd_13_1 {R : Type} {c : Bool} {x : Option R} {y : Option Sp.E_13_1} {k0 : (Int) → (List Int) → (Int) → (List Int) → Option R} (h : x = Sp.B_13_1 y k0) : gd c x = Sp.B_13_1 (gd c y) k0 := by cases c; rfl; exact h
theorem Bcond_13_1 {R : Type} {c : Bool} {x x' : Option R} {y y' : Option Sp.E_13_1} {k0 : (Int) → (List Int) → (Int) → (List Int) → Option R} (h : x = Sp.B_13_1 y k0) (h' : x' = Sp.B_13_1 y' k0) : (bif c then x else x') = Sp.B_13_1 (bif c then y else y') k0 := by cases c; exact h'; exact h
theorem loop_13_1 {R : Type} (k : Ex → St → Option R) : ∀ (m : Nat) (p0 : Int) (p1 : List Int) (p2 : Int) (p3 : List Int) (p4 : Int) (p5 : List Int), evLoopN (evCodeL sm_13 FU (ovr noO (evFn sm_13 fns FU 0)) .nil ir13_b1) (St.norm ir13_v1) m (T_13_1 p0 p1 p2 p3 p4 p5) k = Sp.B_13_1 (Sp.L_13_1 m p0 p1 p2 p3 p4 p5) (fun p0 p1 p2 p5 => k (Ex.exit (2 : Nat)) (X_13_1_0 p0 p1 p2 p5))
  | 0, _, _, _, _, _, _ => rfl
  | m + 1, p0, p1, p2, p3, p4, p5 => by
    rw [evLoopN_succ, body_13_1, Sp.L_13_1]
    repeat' first | apply Bgd_13_1 | apply Bcond_13_1 | exact loop_13_1 k m _ _ _ _ _ _ | rfl
theorem ok_13_1 {R : Type} (T : St) (k : Ex → St → Option R) (r : R) (h0 : o_13_1 G_13_1 T k = some r) : evLoopN (evCode sm_13 FU (evFn sm_13 fns FU 0) ir13_b1) (St.norm ir13_v1) FU T k = some r := by
  obtain ⟨p0, p1, p2, p3, p4, p5, rfl, h⟩ := o_13_1_inv h0
  refine evLoopN_L (t := .nil) noO_ok trivial _ _ _ _ ?_
  rw [loop_13_1]
  exact h
theorem OK_13_13_1 {R : Type} (T : St) (k : Ex → St → Option R) (r : R) (h : O_13_13_1 T k = some r) : evLoopN (evCode sm_13 FU (evFn sm_13 fns FU 0) ir13_b1) (St.norm ir13_v1) FU T k = some r := ok_13_1 T k r h
theorem body_13_0 {R : Type} (K0 : St → Option R) (K1 : Ex → St → Option R) (p0 : Int) (p1 : List Int) (p2 : Int) (p3 : List Int) : evLB (evCodeL sm_13 FU (ovr noO (evFn sm_13 fns FU 0)) (ir13_bt0 O_13_13_1) ir13_b0) (St.norm ir13_v0) (T_13_0 p0 p1 p2 p3) K0 K1 =
  bif decide (p2 < (32 : Int)) then gd (inB p2 (32 : Nat)) (Sp.B_13_1 (Sp.L_13_1 (4611686018427387904 : Nat) p0 p1 p2 [IntKind.wrap IntKind.i64 (Int.fdiv (List.getD p1 (Int.toNat p2) (0 : Int)) (16 : Int)), IntKind.wrap IntKind.i64 (Sp.andI IntKind.u8 (List.getD p1 (Int.toNat p2) (0 : Int)) (15 : Int))] (0 : Int) p3) fun (y4 : Int) (y5 : List Int) (y6 : Int) (y7 : List Int) => K0 (T_13_0 y4 y5 (IntKind.wrap IntKind.i64 (y6 + (1 : Int))) y7)) else K1 (Ex.exit (0 : Nat)) (X_13_0_0 p0 p3) := by kernel_rfl
theorem Bgd_13_0 {R : Type} {c : Bool} {x : Option R} {y : Option Sp.E_13_0} {k0 : (Int) → (List Int) → Option R} (h : x = Sp.B_13_0 y k0) : gd c x = Sp.B_13_0 (gd c y) k0 := by cases c; rfl; exact h
theorem Bcond_13_0 {R : Type} {c : Bool} {x x' : Option R} {y y' : Option Sp.E_13_0} {k0 : (Int) → (List Int) → Option R} (h : x = Sp.B_13_0 y k0) (h' : x' = Sp.B_13_0 y' k0) : (bif c then x else x') = Sp.B_13_0 (bif c then y else y') k0 := by cases c; exact h'; exact h
theorem Bin_13_0_13_1 {R : Type} {r : Option Sp.E_13_1} {k0 : (Int) → (List Int) → Option R} {f0 : (Int) → (List Int) → (Int) → (List Int) → Option R} {g0 : (Int) → (List Int) → (Int) → (List Int) → Option Sp.E_13_0} (h0 : ∀ z0 z1 z2 z3, f0 z0 z1 z2 z3 = Sp.B_13_0 (g0 z0 z1 z2 z3) k0) : Sp.B_13_1 r f0 = Sp.B_13_0 (Sp.B_13_1 r g0) k0 := by
  cases r with
  | none => rfl
  | some e => cases e with
    | e0 z0 z1 z2 z3 => exact h0 _ _ _ _
theorem loop_13_0 {R : Type} (k : Ex → St → Option R) : ∀ (m : Nat) (p0 : Int) (p1 : List Int) (p2 : Int) (p3 : List Int), evLoopN (evCodeL sm_13 FU (ovr noO (evFn sm_13 fns FU 0)) (ir13_bt0 O_13_13_1) ir13_b0) (St.norm ir13_v0) m (T_13_0 p0 p1 p2 p3) k = Sp.B_13_0 (Sp.L_13_0 m p0 p1 p2 p3) (fun p0 p3 => k (Ex.exit (0 : Nat)) (X_13_0_0 p0 p3))
  | 0, _, _, _, _ => rfl
  | m + 1, p0, p1, p2, p3 => by
    rw [evLoopN_succ, body_13_0, Sp.L_13_0]
    repeat' first | apply Bgd_13_0 | apply Bcond_13_0 | (apply Bin_13_0_13_1 <;> intros) | exact loop_13_0 k m _ _ _ _ | rfl
theorem ok_13_0 {R : Type} (T : St) (k : Ex → St → Option R) (r : R) (h0 : o_13_0 G_13_0 T k = some r) : evLoopN (evCode sm_13 FU (evFn sm_13 fns FU 0) ir13_b0) (St.norm ir13_v0) FU T k = some r := by
  obtain ⟨p0, p1, p2, p3, rfl, h⟩ := o_13_0_inv h0
  refine evLoopN_L (t := (ir13_bt0 O_13_13_1)) noO_ok (ir13_bt0ok (fun T k r => OK_13_13_1 T k r)) _ _ _ _ ?_
  rw [loop_13_0]
  exact h
theorem OK_13_13_0 {R : Type} (T : St) (k : Ex → St → Option R) (r : R) (h : O_13_13_0 T k = some r) : evLoopN (evCode sm_13 FU (evFn sm_13 fns FU 0) ir13_b0) (St.norm ir13_v0) FU T k = some r := ok_13_0 T k r h
def F_13 (a0 : (List Int)) : Option ((List Int) × Unit) :=
  Sp.B_13_0 (Sp.L_13_0 (4611686018427387904 : Nat) (0 : Int) a0 (0 : Int) []) fun (y2 : Int) (y3 : List Int) => gd (room (List.length y3 + (3 : Nat)) (8 : Nat)) (some (y3 ++ [Int.fdiv y2 (256 : Int), Sp.andI IntKind.i64 (Int.fdiv y2 (16 : Int)) (15 : Int), Sp.andI IntKind.i64 y2 (15 : Int)], PUnit.unit))
theorem fn_13 (a0 : (List Int)) : evFnL sm_13 FU (ovr noO (evFn sm_13 fns FU 0)) (ir13_t O_13_13_0) ir13 (ofH [(.arr 32 (.int .u8))] (a0, ())) [] (pureK [(.slice (.int .i64))]) = F_13 a0 := by kernel_rfl
def Sp.p_13 (a0 : (List Int)) : Bool := (F_13 a0).isSome
def Sp.v_13 (a0 : (List Int)) : (List Int) × Unit := (F_13 a0).getD (dfH [(.slice (.int .i64))])
def s_13 : Summ := shS [(.arr 32 (.int .u8))] [(.slice (.int .i64))] (fun x => Sp.p_13 x.1) (fun x => Sp.v_13 x.1)
theorem pv_13 (a0 : (List Int)) {y : (List Int) × Unit} (h : F_13 a0 = some y) : Sp.p_13 a0 = true ∧ Sp.v_13 a0 = y := ⟨by rw [Sp.p_13, h]; rfl, by rw [Sp.v_13, h]; rfl⟩
theorem run_13 (x : HDen [(.arr 32 (.int .u8))]) (y : HDen [(.slice (.int .i64))]) (h : F_13 x.1 = some y) : evFn sm_13 fns FU 1 13 (ofH [(.arr 32 (.int .u8))] x) [] (pureK [(.slice (.int .i64))]) = some y :=
  evFnL_sound (fn := ir13) (t := (ir13_t O_13_13_0)) (o := noO) rfl noO_ok (ir13_tok (fun T k r => OK_13_13_0 T k r)) ((fn_13 _).trans h)
end
end Go.Ev
namespace Go.Ev
open Go
set_option maxRecDepth 100000
set_option maxHeartbeats 4000000
set_option linter.unusedVariables false
noncomputable section

def sm_10 : Nat → Option Summ := fun f => bif Nat.beq f 11 then some s_11 else bif Nat.beq f 13 then some s_13 else none


def F_10  : Option (Bool × Unit) :=
  gd (Sp.p_11 [(97 : Int), (98 : Int), (99 : Int)]) (gd (Sp.p_11 []) (gd (Sp.p_13 (List.replicate (32 : Nat) (0 : Int))) (bif List.getD (Prod.fst (Sp.v_11 [(97 : Int), (98 : Int), (99 : Int)])) (0 : Nat) (0 : Int) == (186 : Int) then bif List.getD (Prod.fst (Sp.v_11 [(97 : Int), (98 : Int), (99 : Int)])) (1 : Nat) (0 : Int) == (120 : Int) then bif List.getD (Prod.fst (Sp.v_11 [(97 : Int), (98 : Int), (99 : Int)])) (2 : Nat) (0 : Int) == (22 : Int) then bif List.getD (Prod.fst (Sp.v_11 [(97 : Int), (98 : Int), (99 : Int)])) (3 : Nat) (0 : Int) == (191 : Int) then bif List.getD (Prod.fst (Sp.v_11 [])) (0 : Nat) (0 : Int) == (227 : Int) then bif List.getD (Prod.fst (Sp.v_11 [])) (1 : Nat) (0 : Int) == (176 : Int) then bif List.getD (Prod.fst (Sp.v_11 [])) (2 : Nat) (0 : Int) == (196 : Int) then bif List.getD (Prod.fst (Sp.v_11 [])) (3 : Nat) (0 : Int) == (66 : Int) then bif (↑(List.length (Prod.fst (Sp.v_13 (List.replicate (32 : Nat) (0 : Int))))) : Int) == (67 : Int) then gd (inB (64 : Int) (List.length (Prod.fst (Sp.v_13 (List.replicate (32 : Nat) (0 : Int)))))) (bif List.getD (Prod.fst (Sp.v_13 (List.replicate (32 : Nat) (0 : Int)))) (64 : Nat) (0 : Int) == (3 : Int) then gd (inB (65 : Int) (List.length (Prod.fst (Sp.v_13 (List.replicate (32 : Nat) (0 : Int)))))) (bif List.getD (Prod.fst (Sp.v_13 (List.replicate (32 : Nat) (0 : Int)))) (65 : Nat) (0 : Int) == (12 : Int) then gd (inB (66 : Int) (List.length (Prod.fst (Sp.v_13 (List.replicate (32 : Nat) (0 : Int)))))) (some (List.getD (Prod.fst (Sp.v_13 (List.replicate (32 : Nat) (0 : Int)))) (66 : Nat) (0 : Int) == (0 : Int), PUnit.unit)) else some (false, PUnit.unit)) else some (false, PUnit.unit)) else some (false, PUnit.unit) else some (false, PUnit.unit) else some (false, PUnit.unit) else some (false, PUnit.unit) else some (false, PUnit.unit) else some (false, PUnit.unit) else some (false, PUnit.unit) else some (false, PUnit.unit) else some (false, PUnit.unit))))
theorem fn_10  : evFnL sm_10 FU (ovr noO (evFn sm_10 fns FU 0)) .nil ir10 (ofH [] (())) [] (pureK [.bool]) = F_10 := by kernel_rfl
def Sp.p_10  : Bool := (F_10).isSome
def Sp.v_10  : Bool × Unit := (F_10).getD (dfH [.bool])
def s_10 : Summ := shN [] [.bool] (fun x => Sp.p_10 ) (fun x => Sp.v_10 )
theorem pv_10  {y : Bool × Unit} (h : F_10 = some y) : Sp.p_10 = true ∧ Sp.v_10 = y := ⟨by rw [Sp.p_10, h]; rfl, by rw [Sp.v_10, h]; rfl⟩
theorem run_10 (x : HDen []) (y : HDen [.bool]) (h : F_10  = some y) : evFn sm_10 fns FU 1 10 (ofH [] x) [] (pureK [.bool]) = some y :=
  evFnL_sound (fn := ir10) (t := .nil) (o := noO) rfl noO_ok trivial ((fn_10).trans h)
end
end Go.Ev
namespace Go.Ev
open Go
set_option maxRecDepth 100000
set_option maxHeartbeats 4000000
set_option linter.unusedVariables false
noncomputable section

def sm_37 : Nat → Option Summ := fun f => bif Nat.beq f 11 then some s_11 else none
def T_37_0 (p0 : Int) (p1 : Int) (p2 : List Int) (p3 : List Int) : St := St.mk [CV.junk, CV.junk, CV.int IntKind.i64 p0, CV.ptr (0 : Nat) [], CV.junk, CV.junk, CV.ptr (1 : Nat) [], CV.int IntKind.i64 p1, CV.junk, CV.junk, CV.junk, CV.junk, CV.junk, CV.junk, CV.junk, CV.junk, CV.junk, CV.junk, CV.junk, CV.junk, CV.junk] [Blk.mem (CV.pure (Ty.arr (32 : Nat) (Ty.int IntKind.u8)) p2), Blk.mem (CV.pure (Ty.arr (32 : Nat) (Ty.int IntKind.u8)) p3)] (0 : Nat)
def X_37_0_0 (p2 : List Int) (p3 : List Int) : St := St.mk [CV.junk, CV.junk, CV.junk, CV.ptr (0 : Nat) [], CV.junk, CV.junk, CV.ptr (1 : Nat) [], CV.junk, CV.junk, CV.junk, CV.junk, CV.junk, CV.junk, CV.junk, CV.junk, CV.junk, CV.junk, CV.junk, CV.junk, CV.junk, CV.junk] [Blk.mem (CV.pure (Ty.arr (32 : Nat) (Ty.int IntKind.u8)) p2), Blk.mem (CV.pure (Ty.arr (32 : Nat) (Ty.int IntKind.u8)) p3)] (0 : Nat)
inductive Sp.E_37_0 where
  | e0 (p2 : List Int) (p3 : List Int)
def Sp.B_37_0 {R : Type} (r : Option Sp.E_37_0) (k0 : (List Int) → (List Int) → Option R) : Option R := match r with
  | none => none
  | some (.e0 p2 p3) => k0 p2 p3
def Sp.L_37_0 : Nat → (Int) → (Int) → (List Int) → (List Int) → Option Sp.E_37_0
  | 0, _, _, _, _ => none
  | m + 1, p0, p1, p2, p3 => bif decide (p1 < p0) then gd (room ((1 : Nat) + List.length (List.take (32 : Nat) (List.drop (0 : Nat) p2))) (1 : Nat)) (gd (Sp.p_11 ([IntKind.wrap IntKind.u8 p1] ++ List.take (32 : Nat) (List.drop (0 : Nat) p2))) (Sp.L_37_0 m p0 (IntKind.wrap IntKind.i64 (p1 + (1 : Int))) (Prod.fst (Sp.v_11 ([IntKind.wrap IntKind.u8 p1] ++ List.take (32 : Nat) (List.drop (0 : Nat) p2)))) p3)) else some (Sp.E_37_0.e0 p2 p3)
def G_37_0 {R : Type} (p0 : Int) (p1 : Int) (p2 : List Int) (p3 : List Int) (k : Ex → St → Option R) : Option R := Sp.B_37_0 (Sp.L_37_0 FU p0 p1 p2 p3) (fun p2 p3 => k (Ex.exit (0 : Nat)) (X_37_0_0 p2 p3))
def o_37_0 {R : Type} (G : (Int) → (Int) → (List Int) → (List Int) → (Ex → St → Option R) → Option R) : St → (Ex → St → Option R) → Option R := fun T k => match T.sl.getD 2 .junk, T.sl.getD 3 .junk, T.sl.getD 6 .junk, T.sl.getD 7 .junk, T.hp with
  | CV.int IntKind.i64 p0, CV.ptr (0 : Nat) [], CV.ptr (1 : Nat) [], CV.int IntKind.i64 p1, ((Blk.mem (CV.pure (Ty.arr (32 : Nat) (Ty.int IntKind.u8)) p2)) :: (Blk.mem (CV.pure (Ty.arr (32 : Nat) (Ty.int IntKind.u8)) p3)) :: []) => gd (shapeOK T 21 [2, 3, 6, 7] (0 : Nat)) (G p0 p1 p2 p3 k)
  | _, _, _, _, _ => none
theorem o_37_0_inv {R : Type} {G : (Int) → (Int) → (List Int) → (List Int) → (Ex → St → Option R) → Option R} {T : St} {k : Ex → St → Option R} {r : R} (h : o_37_0 G T k = some r) : ∃ p0 p1 p2 p3, T = T_37_0 p0 p1 p2 p3 ∧ G p0 p1 p2 p3 k = some r := by
  unfold o_37_0 at h
  split at h
  · obtain ⟨hs, h'⟩ := gd_some h
    refine ⟨_, _, _, _, (st_of (asg := [(2, _), (3, _), (6, _), (7, _)]) hs ⟨by assumption, by assumption, by assumption, by assumption, trivial⟩ (by assumption)).trans ?_, h'⟩
    kernel_rfl
  · cases h
def O_37_37_0 {R : Type} : St → (Ex → St → Option R) → Option R := fun T k => o_37_0 G_37_0 T k
theorem body_37_0 {R : Type} (K0 : St → Option R) (K1 : Ex → St → Option R) (p0 : Int) (p1 : Int) (p2 : List Int) (p3 : List Int) : evLB (evCodeL sm_37 FU (ovr noO (evFn sm_37 fns FU 0)) .nil ir37_b0) (St.norm ir37_v0) (T_37_0 p0 p1 p2 p3) K0 K1 =
  bif decide (p1 < p0) then gd (room ((1 : Nat) + List.length (List.take (32 : Nat) (List.drop (0 : Nat) p2))) (1 : Nat)) (gd (Sp.p_11 ([IntKind.wrap IntKind.u8 p1] ++ List.take (32 : Nat) (List.drop (0 : Nat) p2))) (K0 (T_37_0 p0 (IntKind.wrap IntKind.i64 (p1 + (1 : Int))) (Prod.fst (Sp.v_11 ([IntKind.wrap IntKind.u8 p1] ++ List.take (32 : Nat) (List.drop (0 : Nat) p2)))) p3))) else K1 (Ex.exit (0 : Nat)) (X_37_0_0 p2 p3) := by kernel_rfl
theorem Bgd_37_0 {R : Type} {c : Bool} {x : Option R} {y : Option Sp.E_37_0} {k0 : (List Int) → (List Int) → Option R} (h : x = Sp.B_37_0 y k0) : gd c x = Sp.B_37_0 (gd c y) k0 := by cases c; rfl; exact h
theorem Bcond_37_0 {R : Type} {c : Bool} {x x' : Option R} {y y' : Option Sp.E_37_0} {k0 : (List Int) → (List Int) → Option R} (h : x = Sp.B_37_0 y k0) (h' : x' = Sp.B_37_0 y' k0) : (bif c then x else x') = Sp.B_37_0 (bif c then y else y') k0 := by cases c; exact h'; exact h
theorem loop_37_0 {R : Type} (k : Ex → St → Option R) : ∀ (m : Nat) (p0 : Int) (p1 : Int) (p2 : List Int) (p3 : List Int), evLoopN (evCodeL sm_37 FU (ovr noO (evFn sm_37 fns FU 0)) .nil ir37_b0) (St.norm ir37_v0) m (T_37_0 p0 p1 p2 p3) k = Sp.B_37_0 (Sp.L_37_0 m p0 p1 p2 p3) (fun p2 p3 => k (Ex.exit (0 : Nat)) (X_37_0_0 p2 p3))
  | 0, _, _, _, _ => rfl
  | m + 1, p0, p1, p2, p3 => by
    rw [evLoopN_succ, body_37_0, Sp.L_37_0]
    repeat' first | apply Bgd_37_0 | apply Bcond_37_0 | exact loop_37_0 k m _ _ _ _ | rfl
theorem ok_37_0 {R : Type} (T : St) (k : Ex → St → Option R) (r : R) (h0 : o_37_0 G_37_0 T k = some r) : evLoopN (evCode sm_37 FU (evFn sm_37 fns FU 0) ir37_b0) (St.norm ir37_v0) FU T k = some r := by
  obtain ⟨p0, p1, p2, p3, rfl, h⟩ := o_37_0_inv h0
  refine evLoopN_L (t := .nil) noO_ok trivial _ _ _ _ ?_
  rw [loop_37_0]
  exact h
theorem OK_37_37_0 {R : Type} (T : St) (k : Ex → St → Option R) (r : R) (h : O_37_37_0 T k = some r) : evLoopN (evCode sm_37 FU (evFn sm_37 fns FU 0) ir37_b0) (St.norm ir37_v0) FU T k = some r := ok_37_0 T k r h
def F_37 (a0 : (List Int)) (a1 : Int) (a2 : Int) : Option ((List Int) × Unit) :=
  Sp.B_37_0 (Sp.L_37_0 (4611686018427387904 : Nat) a2 a1 a0 (List.replicate (32 : Nat) (0 : Int))) fun (y2 y3 : List Int) => some (y2, PUnit.unit)
theorem fn_37 (a0 : (List Int)) (a1 : Int) (a2 : Int) : evFnL sm_37 FU (ovr noO (evFn sm_37 fns FU 0)) (ir37_t O_37_37_0) ir37 (ofH [(.arr 32 (.int .u8)), (.int .i64), (.int .i64)] (a0, a1, a2, ())) [] (pureK [(.arr 32 (.int .u8))]) = F_37 a0 a1 a2 := by kernel_rfl
def Sp.p_37 (a0 : (List Int)) (a1 : Int) (a2 : Int) : Bool := (F_37 a0 a1 a2).isSome
def Sp.v_37 (a0 : (List Int)) (a1 : Int) (a2 : Int) : (List Int) × Unit := (F_37 a0 a1 a2).getD (dfH [(.arr 32 (.int .u8))])
def s_37 : Summ := shN [(.arr 32 (.int .u8)), (.int .i64), (.int .i64)] [(.arr 32 (.int .u8))] (fun x => Sp.p_37 x.1 x.2.1 x.2.2.1) (fun x => Sp.v_37 x.1 x.2.1 x.2.2.1)
theorem pv_37 (a0 : (List Int)) (a1 : Int) (a2 : Int) {y : (List Int) × Unit} (h : F_37 a0 a1 a2 = some y) : Sp.p_37 a0 a1 a2 = true ∧ Sp.v_37 a0 a1 a2 = y := ⟨by rw [Sp.p_37, h]; rfl, by rw [Sp.v_37, h]; rfl⟩
theorem run_37 (x : HDen [(.arr 32 (.int .u8)), (.int .i64), (.int .i64)]) (y : HDen [(.arr 32 (.int .u8))]) (h : F_37 x.1 x.2.1 x.2.2.1 = some y) : evFn sm_37 fns FU 1 37 (ofH [(.arr 32 (.int .u8)), (.int .i64), (.int .i64)] x) [] (pureK [(.arr 32 (.int .u8))]) = some y :=
  evFnL_sound (fn := ir37) (t := (ir37_t O_37_37_0)) (o := noO) rfl noO_ok (ir37_tok (fun T k r => OK_37_37_0 T k r)) ((fn_37 _ _ _).trans h)
end
end Go.Ev
namespace Go.Ev
open Go
set_option maxRecDepth 100000
set_option maxHeartbeats 4000000
set_option linter.unusedVariables false
noncomputable section

def sm_40 : Nat → Option Summ := fun f => bif Nat.beq f 11 then some s_11 else none


def F_40 (a0 : (List Int)) (a1 : (List Int)) : Option ((List Int) × Unit) :=
  gd (room ((1 : Nat) + List.length (List.take (32 : Nat) (List.drop (0 : Nat) a0))) (1 : Nat)) (gd (room (List.length ([(255 : Int)] ++ List.take (32 : Nat) (List.drop (0 : Nat) a0)) + List.length (List.take (32 : Nat) (List.drop (0 : Nat) a1))) (1 : Nat)) (gd (Sp.p_11 ([(255 : Int)] ++ List.take (32 : Nat) (List.drop (0 : Nat) a0) ++ List.take (32 : Nat) (List.drop (0 : Nat) a1))) (some (Prod.fst (Sp.v_11 ([(255 : Int)] ++ List.take (32 : Nat) (List.drop (0 : Nat) a0) ++ List.take (32 : Nat) (List.drop (0 : Nat) a1))), PUnit.unit))))
theorem fn_40 (a0 : (List Int)) (a1 : (List Int)) : evFnL sm_40 FU (ovr noO (evFn sm_40 fns FU 0)) .nil ir40 (ofH [(.arr 32 (.int .u8)), (.arr 32 (.int .u8))] (a0, a1, ())) [] (pureK [(.arr 32 (.int .u8))]) = F_40 a0 a1 := by kernel_rfl
def Sp.p_40 (a0 : (List Int)) (a1 : (List Int)) : Bool := (F_40 a0 a1).isSome
def Sp.v_40 (a0 : (List Int)) (a1 : (List Int)) : (List Int) × Unit := (F_40 a0 a1).getD (dfH [(.arr 32 (.int .u8))])
def s_40 : Summ := shN [(.arr 32 (.int .u8)), (.arr 32 (.int .u8))] [(.arr 32 (.int .u8))] (fun x => Sp.p_40 x.1 x.2.1) (fun x => Sp.v_40 x.1 x.2.1)
theorem pv_40 (a0 : (List Int)) (a1 : (List Int)) {y : (List Int) × Unit} (h : F_40 a0 a1 = some y) : Sp.p_40 a0 a1 = true ∧ Sp.v_40 a0 a1 = y := ⟨by rw [Sp.p_40, h]; rfl, by rw [Sp.v_40, h]; rfl⟩
theorem run_40 (x : HDen [(.arr 32 (.int .u8)), (.arr 32 (.int .u8))]) (y : HDen [(.arr 32 (.int .u8))]) (h : F_40 x.1 x.2.1 = some y) : evFn sm_40 fns FU 1 40 (ofH [(.arr 32 (.int .u8)), (.arr 32 (.int .u8))] x) [] (pureK [(.arr 32 (.int .u8))]) = some y :=
  evFnL_sound (fn := ir40) (t := .nil) (o := noO) rfl noO_ok trivial ((fn_40 _ _).trans h)
end
end Go.Ev
namespace Go.Ev
open Go
set_option maxRecDepth 100000
set_option maxHeartbeats 4000000
set_option linter.unusedVariables false
noncomputable section

def sm_43 : Nat → Option Summ := fun f => bif Nat.beq f 11 then some s_11 else none


def F_43 (a0 : (List Int)) (a1 : Int) (a2 : Int) : Option ((List Int) × Unit) :=
  gd (Sp.p_11 (List.take (32 : Nat) (List.drop (0 : Nat) a0) ++ [IntKind.wrap IntKind.u8 a1, IntKind.wrap IntKind.u8 a2])) (some (Prod.fst (Sp.v_11 (List.take (32 : Nat) (List.drop (0 : Nat) a0) ++ [IntKind.wrap IntKind.u8 a1, IntKind.wrap IntKind.u8 a2])), PUnit.unit))
theorem fn_43 (a0 : (List Int)) (a1 : Int) (a2 : Int) : evFnL sm_43 FU (ovr noO (evFn sm_43 fns FU 0)) .nil ir43 (ofH [(.arr 32 (.int .u8)), (.int .i64), (.int .i64)] (a0, a1, a2, ())) [] (pureK [(.arr 32 (.int .u8))]) = F_43 a0 a1 a2 := by kernel_rfl
def Sp.p_43 (a0 : (List Int)) (a1 : Int) (a2 : Int) : Bool := (F_43 a0 a1 a2).isSome
def Sp.v_43 (a0 : (List Int)) (a1 : Int) (a2 : Int) : (List Int) × Unit := (F_43 a0 a1 a2).getD (dfH [(.arr 32 (.int .u8))])
def s_43 : Summ := shN [(.arr 32 (.int .u8)), (.int .i64), (.int .i64)] [(.arr 32 (.int .u8))] (fun x => Sp.p_43 x.1 x.2.1 x.2.2.1) (fun x => Sp.v_43 x.1 x.2.1 x.2.2.1)
theorem pv_43 (a0 : (List Int)) (a1 : Int) (a2 : Int) {y : (List Int) × Unit} (h : F_43 a0 a1 a2 = some y) : Sp.p_43 a0 a1 a2 = true ∧ Sp.v_43 a0 a1 a2 = y := ⟨by rw [Sp.p_43, h]; rfl, by rw [Sp.v_43, h]; rfl⟩
theorem run_43 (x : HDen [(.arr 32 (.int .u8)), (.int .i64), (.int .i64)]) (y : HDen [(.arr 32 (.int .u8))]) (h : F_43 x.1 x.2.1 x.2.2.1 = some y) : evFn sm_43 fns FU 1 43 (ofH [(.arr 32 (.int .u8)), (.int .i64), (.int .i64)] x) [] (pureK [(.arr 32 (.int .u8))]) = some y :=
  evFnL_sound (fn := ir43) (t := .nil) (o := noO) rfl noO_ok trivial ((fn_43 _ _ _).trans h)
end
end Go.Ev
namespace Go.Ev
open Go
set_option maxRecDepth 100000
set_option maxHeartbeats 4000000
set_option linter.unusedVariables false
noncomputable section

def sm_39 : Nat → Option Summ := fun f => bif Nat.beq f 11 then some s_11 else none
def T_39_0 (p0 : List (List Int)) (p1 : Int) (p2 : Int) (p3 : List Int) (p4 : List Int) : St := St.mk [CV.junk, CV.junk, CV.ptr (0 : Nat) [], CV.whole (1 : Nat), CV.junk, CV.junk, CV.pure (Ty.slice (Ty.arr (32 : Nat) (Ty.int IntKind.u8))) p0, CV.int IntKind.i64 p1, CV.int IntKind.i64 p2, CV.junk, CV.junk, CV.junk, CV.junk, CV.junk, CV.junk, CV.junk, CV.junk, CV.junk] [Blk.mem (CV.pure (Ty.arr (32 : Nat) (Ty.int IntKind.u8)) p3), Blk.vec (5 : Nat) (Ty.int IntKind.u8) p4] (0 : Nat)
def X_39_0_0 (p3 : List Int) (p4 : List Int) : St := St.mk [CV.junk, CV.junk, CV.ptr (0 : Nat) [], CV.whole (1 : Nat), CV.junk, CV.junk, CV.junk, CV.junk, CV.junk, CV.junk, CV.junk, CV.junk, CV.junk, CV.junk, CV.junk, CV.junk, CV.junk, CV.junk] [Blk.mem (CV.pure (Ty.arr (32 : Nat) (Ty.int IntKind.u8)) p3), Blk.vec (5 : Nat) (Ty.int IntKind.u8) p4] (0 : Nat)
inductive Sp.E_39_0 where
  | e0 (p3 : List Int) (p4 : List Int)
def Sp.B_39_0 {R : Type} (r : Option Sp.E_39_0) (k0 : (List Int) → (List Int) → Option R) : Option R := match r with
  | none => none
  | some (.e0 p3 p4) => k0 p3 p4
def Sp.L_39_0 : Nat → (List (List Int)) → (Int) → (Int) → (List Int) → (List Int) → Option Sp.E_39_0
  | 0, _, _, _, _, _ => none
  | m + 1, p0, p1, p2, p3, p4 => bif decide (p2 < p1) then gd (inB p2 (List.length p0)) (gd (room (List.length p4 + List.length (List.take (32 : Nat) (List.drop (0 : Nat) (List.getD p0 (Int.toNat p2) (Ty.dflt (Ty.arr (32 : Nat) (Ty.int IntKind.u8))))))) (1 : Nat)) (Sp.L_39_0 m p0 p1 (IntKind.wrap IntKind.i64 (p2 + (1 : Int))) p3 (p4 ++ List.take (32 : Nat) (List.drop (0 : Nat) (List.getD p0 (Int.toNat p2) (Ty.dflt (Ty.arr (32 : Nat) (Ty.int IntKind.u8)))))))) else some (Sp.E_39_0.e0 p3 p4)
def G_39_0 {R : Type} (p0 : List (List Int)) (p1 : Int) (p2 : Int) (p3 : List Int) (p4 : List Int) (k : Ex → St → Option R) : Option R := Sp.B_39_0 (Sp.L_39_0 FU p0 p1 p2 p3 p4) (fun p3 p4 => k (Ex.exit (0 : Nat)) (X_39_0_0 p3 p4))
def o_39_0 {R : Type} (G : (List (List Int)) → (Int) → (Int) → (List Int) → (List Int) → (Ex → St → Option R) → Option R) : St → (Ex → St → Option R) → Option R := fun T k => match T.sl.getD 2 .junk, T.sl.getD 3 .junk, T.sl.getD 6 .junk, T.sl.getD 7 .junk, T.sl.getD 8 .junk, T.hp with
  | CV.ptr (0 : Nat) [], CV.whole (1 : Nat), CV.pure (Ty.slice (Ty.arr (32 : Nat) (Ty.int IntKind.u8))) p0, CV.int IntKind.i64 p1, CV.int IntKind.i64 p2, ((Blk.mem (CV.pure (Ty.arr (32 : Nat) (Ty.int IntKind.u8)) p3)) :: (Blk.vec (5 : Nat) (Ty.int IntKind.u8) p4) :: []) => gd (shapeOK T 18 [2, 3, 6, 7, 8] (0 : Nat)) (G p0 p1 p2 p3 p4 k)
  | _, _, _, _, _, _ => none
theorem o_39_0_inv {R : Type} {G : (List (List Int)) → (Int) → (Int) → (List Int) → (List Int) → (Ex → St → Option R) → Option R} {T : St} {k : Ex → St → Option R} {r : R} (h : o_39_0 G T k = some r) : ∃ p0 p1 p2 p3 p4, T = T_39_0 p0 p1 p2 p3 p4 ∧ G p0 p1 p2 p3 p4 k = some r := by
  unfold o_39_0 at h
  split at h
  · obtain ⟨hs, h'⟩ := gd_some h
    refine ⟨_, _, _, _, _, (st_of (asg := [(2, _), (3, _), (6, _), (7, _), (8, _)]) hs ⟨by assumption, by assumption, by assumption, by assumption, by assumption, trivial⟩ (by assumption)).trans ?_, h'⟩
    kernel_rfl
  · cases h
def O_39_39_0 {R : Type} : St → (Ex → St → Option R) → Option R := fun T k => o_39_0 G_39_0 T k
theorem body_39_0 {R : Type} (K0 : St → Option R) (K1 : Ex → St → Option R) (p0 : List (List Int)) (p1 : Int) (p2 : Int) (p3 : List Int) (p4 : List Int) : evLB (evCodeL sm_39 FU (ovr noO (evFn sm_39 fns FU 0)) .nil ir39_b0) (St.norm ir39_v0) (T_39_0 p0 p1 p2 p3 p4) K0 K1 =
  bif decide (p2 < p1) then gd (inB p2 (List.length p0)) (gd (room (List.length p4 + List.length (List.take (32 : Nat) (List.drop (0 : Nat) (List.getD p0 (Int.toNat p2) (Ty.dflt (Ty.arr (32 : Nat) (Ty.int IntKind.u8))))))) (1 : Nat)) (K0 (T_39_0 p0 p1 (IntKind.wrap IntKind.i64 (p2 + (1 : Int))) p3 (p4 ++ List.take (32 : Nat) (List.drop (0 : Nat) (List.getD p0 (Int.toNat p2) (Ty.dflt (Ty.arr (32 : Nat) (Ty.int IntKind.u8))))))))) else K1 (Ex.exit (0 : Nat)) (X_39_0_0 p3 p4) := by kernel_rfl
theorem Bgd_39_0 {R : Type} {c : Bool} {x : Option R} {y : Option Sp.E_39_0} {k0 : (List Int) → (List Int) → Option R} (h : x = Sp.B_39_0 y k0) : gd c x = Sp.B_39_0 (gd c y) k0 := by cases c; rfl; exact h
theorem Bcond_39_0 {R : Type} {c : Bool} {x x' : Option R} {y y' : Option Sp.E_39_0} {k0 : (List Int) → (List Int) → Option R} (h : x = Sp.B_39_0 y k0) (h' : x' = Sp.B_39_0 y' k0) : (bif c then x else x') = Sp.B_39_0 (bif c then y else y') k0 := by cases c; exact h'; exact h
theorem loop_39_0 {R : Type} (k : Ex → St → Option R) : ∀ (m : Nat) (p0 : List (List Int)) (p1 : Int) (p2 : Int) (p3 : List Int) (p4 : List Int), evLoopN (evCodeL sm_39 FU (ovr noO (evFn sm_39 fns FU 0)) .nil ir39_b0) (St.norm ir39_v0) m (T_39_0 p0 p1 p2 p3 p4) k = Sp.B_39_0 (Sp.L_39_0 m p0 p1 p2 p3 p4) (fun p3 p4 => k (Ex.exit (0 : Nat)) (X_39_0_0 p3 p4))
  | 0, _, _, _, _, _ => rfl
  | m + 1, p0, p1, p2, p3, p4 => by
    rw [evLoopN_succ, body_39_0, Sp.L_39_0]
    repeat' first | apply Bgd_39_0 | apply Bcond_39_0 | exact loop_39_0 k m _ _ _ _ _ | rfl
theorem ok_39_0 {R : Type} (T : St) (k : Ex → St → Option R) (r : R) (h0 : o_39_0 G_39_0 T k = some r) : evLoopN (evCode sm_39 FU (evFn sm_39 fns FU 0) ir39_b0) (St.norm ir39_v0) FU T k = some r := by
  obtain ⟨p0, p1, p2, p3, p4, rfl, h⟩ := o_39_0_inv h0
  refine evLoopN_L (t := .nil) noO_ok trivial _ _ _ _ ?_
  rw [loop_39_0]
  exact h
theorem OK_39_39_0 {R : Type} (T : St) (k : Ex → St → Option R) (r : R) (h : O_39_39_0 T k = some r) : evLoopN (evCode sm_39 FU (evFn sm_39 fns FU 0) ir39_b0) (St.norm ir39_v0) FU T k = some r := ok_39_0 T k r h
def F_39 (a0 : (List (List Int))) : Option ((List Int) × Unit) :=
  Sp.B_39_0 (Sp.L_39_0 (4611686018427387904 : Nat) a0 (↑(List.length a0) : Int) (0 : Int) (List.replicate (32 : Nat) (0 : Int)) []) fun (y2 y3 : List Int) => gd (Sp.p_11 y3) (some (Prod.fst (Sp.v_11 y3), PUnit.unit))
theorem fn_39 (a0 : (List (List Int))) : evFnL sm_39 FU (ovr noO (evFn sm_39 fns FU 0)) (ir39_t O_39_39_0) ir39 (ofH [(.slice (.arr 32 (.int .u8)))] (a0, ())) [] (pureK [(.arr 32 (.int .u8))]) = F_39 a0 := by kernel_rfl
def Sp.p_39 (a0 : (List (List Int))) : Bool := (F_39 a0).isSome
def Sp.v_39 (a0 : (List (List Int))) : (List Int) × Unit := (F_39 a0).getD (dfH [(.arr 32 (.int .u8))])
def s_39 : Summ := shN [(.slice (.arr 32 (.int .u8)))] [(.arr 32 (.int .u8))] (fun x => Sp.p_39 x.1) (fun x => Sp.v_39 x.1)
theorem pv_39 (a0 : (List (List Int))) {y : (List Int) × Unit} (h : F_39 a0 = some y) : Sp.p_39 a0 = true ∧ Sp.v_39 a0 = y := ⟨by rw [Sp.p_39, h]; rfl, by rw [Sp.v_39, h]; rfl⟩
theorem run_39 (x : HDen [(.slice (.arr 32 (.int .u8)))]) (y : HDen [(.arr 32 (.int .u8))]) (h : F_39 x.1 = some y) : evFn sm_39 fns FU 1 39 (ofH [(.slice (.arr 32 (.int .u8)))] x) [] (pureK [(.arr 32 (.int .u8))]) = some y :=
  evFnL_sound (fn := ir39) (t := (ir39_t O_39_39_0)) (o := noO) rfl noO_ok (ir39_tok (fun T k r => OK_39_39_0 T k r)) ((fn_39 _).trans h)
end
end Go.Ev
namespace Go.Ev
open Go
set_option maxRecDepth 100000
set_option maxHeartbeats 4000000
set_option linter.unusedVariables false
noncomputable section

def sm_44 : Nat → Option Summ := fun f => bif Nat.beq f 37 then some s_37 else bif Nat.beq f 39 then some s_39 else bif Nat.beq f 43 then some s_43 else none
def T_44_0 (p0 : Int) (p1 : Int) (p2 : List Int) (p3 : List Int) (p4 : List (List Int)) : St := St.mk [CV.junk, CV.int IntKind.i64 p0, CV.ptr (0 : Nat) [], CV.junk, CV.ptr (1 : Nat) [], CV.whole (2 : Nat), CV.junk, CV.int IntKind.i64 p1, CV.junk, CV.junk, CV.junk, CV.junk, CV.junk, CV.junk, CV.junk, CV.junk, CV.junk, CV.junk, CV.junk, CV.junk, CV.junk] [Blk.mem (CV.pure (Ty.arr (32 : Nat) (Ty.int IntKind.u8)) p2), Blk.mem (CV.pure (Ty.arr (32 : Nat) (Ty.int IntKind.u8)) p3), Blk.vec (25 : Nat) (Ty.arr (32 : Nat) (Ty.int IntKind.u8)) p4] (0 : Nat)
def X_44_0_0 (p3 : List Int) (p4 : List (List Int)) : St := St.mk [CV.junk, CV.junk, CV.junk, CV.junk, CV.ptr (0 : Nat) [], CV.whole (1 : Nat), CV.junk, CV.junk, CV.junk, CV.junk, CV.junk, CV.junk, CV.junk, CV.junk, CV.junk, CV.junk, CV.junk, CV.junk, CV.junk, CV.junk, CV.junk] [Blk.mem (CV.pure (Ty.arr (32 : Nat) (Ty.int IntKind.u8)) p3), Blk.vec (25 : Nat) (Ty.arr (32 : Nat) (Ty.int IntKind.u8)) p4] (0 : Nat)
inductive Sp.E_44_0 where
  | e0 (p3 : List Int) (p4 : List (List Int))
def Sp.B_44_0 {R : Type} (r : Option Sp.E_44_0) (k0 : (List Int) → (List (List Int)) → Option R) : Option R := match r with
  | none => none
  | some (.e0 p3 p4) => k0 p3 p4
def Sp.L_44_0 : Nat → (Int) → (Int) → (List Int) → (List Int) → (List (List Int)) → Option Sp.E_44_0
  | 0, _, _, _, _, _ => none
  | m + 1, p0, p1, p2, p3, p4 => bif decide (p1 < (67 : Int)) then gd (Sp.p_43 p2 p0 p1) (gd (Sp.p_37 (Prod.fst (Sp.v_43 p2 p0 p1)) (0 : Int) (15 : Int)) (gd (room (List.length p4 + (1 : Nat)) (32 : Nat)) (Sp.L_44_0 m p0 (IntKind.wrap IntKind.i64 (p1 + (1 : Int))) p2 p3 (p4 ++ [Prod.fst (Sp.v_37 (Prod.fst (Sp.v_43 p2 p0 p1)) (0 : Int) (15 : Int))])))) else some (Sp.E_44_0.e0 p3 p4)
def G_44_0 {R : Type} (p0 : Int) (p1 : Int) (p2 : List Int) (p3 : List Int) (p4 : List (List Int)) (k : Ex → St → Option R) : Option R := Sp.B_44_0 (Sp.L_44_0 FU p0 p1 p2 p3 p4) (fun p3 p4 => k (Ex.exit (0 : Nat)) (X_44_0_0 p3 p4))
def o_44_0 {R : Type} (G : (Int) → (Int) → (List Int) → (List Int) → (List (List Int)) → (Ex → St → Option R) → Option R) : St → (Ex → St → Option R) → Option R := fun T k => match T.sl.getD 1 .junk, T.sl.getD 2 .junk, T.sl.getD 4 .junk, T.sl.getD 5 .junk, T.sl.getD 7 .junk, T.hp with
  | CV.int IntKind.i64 p0, CV.ptr (0 : Nat) [], CV.ptr (1 : Nat) [], CV.whole (2 : Nat), CV.int IntKind.i64 p1, ((Blk.mem (CV.pure (Ty.arr (32 : Nat) (Ty.int IntKind.u8)) p2)) :: (Blk.mem (CV.pure (Ty.arr (32 : Nat) (Ty.int IntKind.u8)) p3)) :: (Blk.vec (25 : Nat) (Ty.arr (32 : Nat) (Ty.int IntKind.u8)) p4) :: []) => gd (shapeOK T 21 [1, 2, 4, 5, 7] (0 : Nat)) (G p0 p1 p2 p3 p4 k)
  | _, _, _, _, _, _ => none
theorem o_44_0_inv {R : Type} {G : (Int) → (Int) → (List Int) → (List Int) → (List (List Int)) → (Ex → St → Option R) → Option R} {T : St} {k : Ex → St → Option R} {r : R} (h : o_44_0 G T k = some r) : ∃ p0 p1 p2 p3 p4, T = T_44_0 p0 p1 p2 p3 p4 ∧ G p0 p1 p2 p3 p4 k = some r := by
  unfold o_44_0 at h
  split at h
  · obtain ⟨hs, h'⟩ := gd_some h
    refine ⟨_, _, _, _, _, (st_of (asg := [(1, _), (2, _), (4, _), (5, _), (7, _)]) hs ⟨by assumption, by assumption, by assumption, by assumption, by assumption, trivial⟩ (by assumption)).trans ?_, h'⟩
    kernel_rfl
  · cases h
def O_44_44_0 {R : Type} : St → (Ex → St → Option R) → Option R := fun T k => o_44_0 G_44_0 T k
theorem body_44_0 {R : Type} (K0 : St → Option R) (K1 : Ex → St → Option R) (p0 : Int) (p1 : Int) (p2 : List Int) (p3 : List Int) (p4 : List (List Int)) : evLB (evCodeL sm_44 FU (ovr noO (evFn sm_44 fns FU 0)) .nil ir44_b0) (St.norm ir44_v0) (T_44_0 p0 p1 p2 p3 p4) K0 K1 =
  bif decide (p1 < (67 : Int)) then gd (Sp.p_43 p2 p0 p1) (gd (Sp.p_37 (Prod.fst (Sp.v_43 p2 p0 p1)) (0 : Int) (15 : Int)) (gd (room (List.length p4 + (1 : Nat)) (32 : Nat)) (K0 (T_44_0 p0 (IntKind.wrap IntKind.i64 (p1 + (1 : Int))) p2 p3 (p4 ++ [Prod.fst (Sp.v_37 (Prod.fst (Sp.v_43 p2 p0 p1)) (0 : Int) (15 : Int))]))))) else K1 (Ex.exit (0 : Nat)) (X_44_0_0 p3 p4) := by kernel_rfl
theorem Bgd_44_0 {R : Type} {c : Bool} {x : Option R} {y : Option Sp.E_44_0} {k0 : (List Int) → (List (List Int)) → Option R} (h : x = Sp.B_44_0 y k0) : gd c x = Sp.B_44_0 (gd c y) k0 := by cases c; rfl; exact h
theorem Bcond_44_0 {R : Type} {c : Bool} {x x' : Option R} {y y' : Option Sp.E_44_0} {k0 : (List Int) → (List (List Int)) → Option R} (h : x = Sp.B_44_0 y k0) (h' : x' = Sp.B_44_0 y' k0) : (bif c then x else x') = Sp.B_44_0 (bif c then y else y') k0 := by cases c; exact h'; exact h
theorem loop_44_0 {R : Type} (k : Ex → St → Option R) : ∀ (m : Nat) (p0 : Int) (p1 : Int) (p2 : List Int) (p3 : List Int) (p4 : List (List Int)), evLoopN (evCodeL sm_44 FU (ovr noO (evFn sm_44 fns FU 0)) .nil ir44_b0) (St.norm ir44_v0) m (T_44_0 p0 p1 p2 p3 p4) k = Sp.B_44_0 (Sp.L_44_0 m p0 p1 p2 p3 p4) (fun p3 p4 => k (Ex.exit (0 : Nat)) (X_44_0_0 p3 p4))
  | 0, _, _, _, _, _ => rfl
  | m + 1, p0, p1, p2, p3, p4 => by
    rw [evLoopN_succ, body_44_0, Sp.L_44_0]
    repeat' first | apply Bgd_44_0 | apply Bcond_44_0 | exact loop_44_0 k m _ _ _ _ _ | rfl
theorem ok_44_0 {R : Type} (T : St) (k : Ex → St → Option R) (r : R) (h0 : o_44_0 G_44_0 T k = some r) : evLoopN (evCode sm_44 FU (evFn sm_44 fns FU 0) ir44_b0) (St.norm ir44_v0) FU T k = some r := by
  obtain ⟨p0, p1, p2, p3, p4, rfl, h⟩ := o_44_0_inv h0
  refine evLoopN_L (t := .nil) noO_ok trivial _ _ _ _ ?_
  rw [loop_44_0]
  exact h
theorem OK_44_44_0 {R : Type} (T : St) (k : Ex → St → Option R) (r : R) (h : O_44_44_0 T k = some r) : evLoopN (evCode sm_44 FU (evFn sm_44 fns FU 0) ir44_b0) (St.norm ir44_v0) FU T k = some r := ok_44_0 T k r h
def F_44 (a0 : (List Int)) (a1 : Int) : Option ((List Int) × Unit) :=
  Sp.B_44_0 (Sp.L_44_0 (4611686018427387904 : Nat) a1 (0 : Int) a0 (List.replicate (32 : Nat) (0 : Int)) []) fun (y2 : List Int) (y3 : List (List Int)) => gd (Sp.p_39 y3) (some (Prod.fst (Sp.v_39 y3), PUnit.unit))
theorem fn_44 (a0 : (List Int)) (a1 : Int) : evFnL sm_44 FU (ovr noO (evFn sm_44 fns FU 0)) (ir44_t O_44_44_0) ir44 (ofH [(.arr 32 (.int .u8)), (.int .i64)] (a0, a1, ())) [] (pureK [(.arr 32 (.int .u8))]) = F_44 a0 a1 := by kernel_rfl
def Sp.p_44 (a0 : (List Int)) (a1 : Int) : Bool := (F_44 a0 a1).isSome
def Sp.v_44 (a0 : (List Int)) (a1 : Int) : (List Int) × Unit := (F_44 a0 a1).getD (dfH [(.arr 32 (.int .u8))])
def s_44 : Summ := shN [(.arr 32 (.int .u8)), (.int .i64)] [(.arr 32 (.int .u8))] (fun x => Sp.p_44 x.1 x.2.1) (fun x => Sp.v_44 x.1 x.2.1)
theorem pv_44 (a0 : (List Int)) (a1 : Int) {y : (List Int) × Unit} (h : F_44 a0 a1 = some y) : Sp.p_44 a0 a1 = true ∧ Sp.v_44 a0 a1 = y := ⟨by rw [Sp.p_44, h]; rfl, by rw [Sp.v_44, h]; rfl⟩
theorem run_44 (x : HDen [(.arr 32 (.int .u8)), (.int .i64)]) (y : HDen [(.arr 32 (.int .u8))]) (h : F_44 x.1 x.2.1 = some y) : evFn sm_44 fns FU 1 44 (ofH [(.arr 32 (.int .u8)), (.int .i64)] x) [] (pureK [(.arr 32 (.int .u8))]) = some y :=
  evFnL_sound (fn := ir44) (t := (ir44_t O_44_44_0)) (o := noO) rfl noO_ok (ir44_tok (fun T k r => OK_44_44_0 T k r)) ((fn_44 _ _).trans h)
end
end Go.Ev
namespace Go.Ev
open Go
set_option maxRecDepth 100000
set_option maxHeartbeats 4000000
set_option linter.unusedVariables false
noncomputable section

def sm_20 : Nat → Option Summ := fun f => bif Nat.beq f 13 then some s_13 else bif Nat.beq f 37 then some s_37 else bif Nat.beq f 40 then some s_40 else bif Nat.beq f 43 then some s_43 else bif Nat.beq f 44 then some s_44 else none
def T_20_0 (p0 : Int) (p1 : List Int) (p2 : Int) (p3 : Int) (p4 : List Int) (p5 : Int) (p6 : List (List Int)) (p7 : List (List Int)) (p8 : Int) (p9 : List (List Int)) (p10 : List (List Int)) : St := St.mk [CV.junk, CV.int IntKind.i64 p0, CV.junk, CV.ptr (0 : Nat) [], CV.junk, CV.junk, CV.ptr (1 : Nat) [], CV.junk, CV.ptr (4 : Nat) [], CV.junk, CV.junk, CV.junk, CV.junk, CV.junk, CV.junk, CV.junk, CV.junk, CV.junk, CV.junk, CV.junk, CV.junk, CV.junk, CV.pure (Ty.slice (Ty.int IntKind.i64)) p1, CV.int IntKind.i64 p2, CV.int IntKind.i64 p3, CV.junk, CV.junk, CV.junk, CV.junk, CV.junk, CV.junk, CV.junk, CV.junk, CV.junk, CV.junk, CV.junk, CV.junk, CV.junk, CV.junk, CV.junk, CV.junk, CV.junk, CV.junk, CV.junk, CV.junk, CV.junk, CV.junk, CV.junk, CV.junk, CV.junk, CV.junk, CV.junk, CV.junk, CV.junk, CV.junk, CV.junk, CV.junk, CV.junk, CV.junk] [Blk.mem (CV.pure (Ty.arr (32 : Nat) (Ty.int IntKind.u8)) p4), Blk.mem (CV.pair (CV.int IntKind.i64 p5) (CV.pair (CV.whole (2 : Nat)) (CV.pair (CV.whole (3 : Nat)) (CV.pure Ty.unit PUnit.unit)))), Blk.vec (25 : Nat) (Ty.arr (32 : Nat) (Ty.int IntKind.u8)) p6, Blk.vec (25 : Nat) (Ty.arr (32 : Nat) (Ty.int IntKind.u8)) p7, Blk.mem (CV.pair (CV.int IntKind.i64 p8) (CV.pair (CV.whole (5 : Nat)) (CV.pair (CV.whole (6 : Nat)) (CV.pure Ty.unit PUnit.unit)))), Blk.vec (25 : Nat) (Ty.arr (32 : Nat) (Ty.int IntKind.u8)) p9, Blk.vec (25 : Nat) (Ty.arr (32 : Nat) (Ty.int IntKind.u8)) p10] (0 : Nat)
def X_20_0_0 (p0 : Int) (p4 : List Int) (p5 : Int) (p6 : List (List Int)) (p7 : List (List Int)) (p8 : Int) (p9 : List (List Int)) (p10 : List (List Int)) : St := St.mk [CV.junk, CV.int IntKind.i64 p0, CV.junk, CV.ptr (0 : Nat) [], CV.junk, CV.junk, CV.ptr (1 : Nat) [], CV.junk, CV.ptr (4 : Nat) [], CV.junk, CV.junk, CV.junk, CV.junk, CV.junk, CV.junk, CV.junk, CV.junk, CV.junk, CV.junk, CV.junk, CV.junk, CV.junk, CV.junk, CV.junk, CV.junk, CV.junk, CV.junk, CV.junk, CV.junk, CV.junk, CV.junk, CV.junk, CV.junk, CV.junk, CV.junk, CV.junk, CV.junk, CV.junk, CV.junk, CV.junk, CV.junk, CV.junk, CV.junk, CV.junk, CV.junk, CV.junk, CV.junk, CV.junk, CV.junk, CV.junk, CV.junk, CV.junk, CV.junk, CV.junk, CV.junk, CV.junk, CV.junk, CV.junk, CV.junk] [Blk.mem (CV.pure (Ty.arr (32 : Nat) (Ty.int IntKind.u8)) p4), Blk.mem (CV.pair (CV.int IntKind.i64 p5) (CV.pair (CV.whole (2 : Nat)) (CV.pair (CV.whole (3 : Nat)) (CV.pure Ty.unit PUnit.unit)))), Blk.vec (25 : Nat) (Ty.arr (32 : Nat) (Ty.int IntKind.u8)) p6, Blk.vec (25 : Nat) (Ty.arr (32 : Nat) (Ty.int IntKind.u8)) p7, Blk.mem (CV.pair (CV.int IntKind.i64 p8) (CV.pair (CV.whole (5 : Nat)) (CV.pair (CV.whole (6 : Nat)) (CV.pure Ty.unit PUnit.unit)))), Blk.vec (25 : Nat) (Ty.arr (32 : Nat) (Ty.int IntKind.u8)) p9, Blk.vec (25 : Nat) (Ty.arr (32 : Nat) (Ty.int IntKind.u8)) p10] (0 : Nat)
inductive Sp.E_20_0 where
  | e0 (p0 : Int) (p4 : List Int) (p5 : Int) (p6 : List (List Int)) (p7 : List (List Int)) (p8 : Int) (p9 : List (List Int)) (p10 : List (List Int))
def Sp.B_20_0 {R : Type} (r : Option Sp.E_20_0) (k0 : (Int) → (List Int) → (Int) → (List (List Int)) → (List (List Int)) → (Int) → (List (List Int)) → (List (List Int)) → Option R) : Option R := match r with
  | none => none
  | some (.e0 p0 p4 p5 p6 p7 p8 p9 p10) => k0 p0 p4 p5 p6 p7 p8 p9 p10
def Sp.L_20_0 : Nat → (Int) → (List Int) → (Int) → (Int) → (List Int) → (Int) → (List (List Int)) → (List (List Int)) → (Int) → (List (List Int)) → (List (List Int)) → Option Sp.E_20_0
  | 0, _, _, _, _, _, _, _, _, _, _, _ => none
  | m + 1, p0, p1, p2, p3, p4, p5, p6, p7, p8, p9, p10 => bif decide (p3 < p2) then gd (inB p3 (List.length p1)) (gd (Sp.p_43 p4 p0 p3) (gd (Sp.p_37 (Prod.fst (Sp.v_43 p4 p0 p3)) (0 : Int) (List.getD p1 (Int.toNat p3) (0 : Int))) (gd (room (List.length p9 + (1 : Nat)) (32 : Nat)) (Sp.L_20_0 m p0 p1 p2 (IntKind.wrap IntKind.i64 (p3 + (1 : Int))) p4 p5 p6 p7 p8 (p9 ++ [Prod.fst (Sp.v_37 (Prod.fst (Sp.v_43 p4 p0 p3)) (0 : Int) (List.getD p1 (Int.toNat p3) (0 : Int)))]) p10)))) else some (Sp.E_20_0.e0 p0 p4 p5 p6 p7 p8 p9 p10)
def G_20_0 {R : Type} (p0 : Int) (p1 : List Int) (p2 : Int) (p3 : Int) (p4 : List Int) (p5 : Int) (p6 : List (List Int)) (p7 : List (List Int)) (p8 : Int) (p9 : List (List Int)) (p10 : List (List Int)) (k : Ex → St → Option R) : Option R := Sp.B_20_0 (Sp.L_20_0 FU p0 p1 p2 p3 p4 p5 p6 p7 p8 p9 p10) (fun p0 p4 p5 p6 p7 p8 p9 p10 => k (Ex.exit (0 : Nat)) (X_20_0_0 p0 p4 p5 p6 p7 p8 p9 p10))
def o_20_0 {R : Type} (G : (Int) → (List Int) → (Int) → (Int) → (List Int) → (Int) → (List (List Int)) → (List (List Int)) → (Int) → (List (List Int)) → (List (List Int)) → (Ex → St → Option R) → Option R) : St → (Ex → St → Option R) → Option R := fun T k => match T.sl.getD 1 .junk, T.sl.getD 3 .junk, T.sl.getD 6 .junk, T.sl.getD 8 .junk, T.sl.getD 22 .junk, T.sl.getD 23 .junk, T.sl.getD 24 .junk, T.hp with
  | CV.int IntKind.i64 p0, CV.ptr (0 : Nat) [], CV.ptr (1 : Nat) [], CV.ptr (4 : Nat) [], CV.pure (Ty.slice (Ty.int IntKind.i64)) p1, CV.int IntKind.i64 p2, CV.int IntKind.i64 p3, ((Blk.mem (CV.pure (Ty.arr (32 : Nat) (Ty.int IntKind.u8)) p4)) :: (Blk.mem (CV.pair (CV.int IntKind.i64 p5) (CV.pair (CV.whole (2 : Nat)) (CV.pair (CV.whole (3 : Nat)) (CV.pure Ty.unit PUnit.unit))))) :: (Blk.vec (25 : Nat) (Ty.arr (32 : Nat) (Ty.int IntKind.u8)) p6) :: (Blk.vec (25 : Nat) (Ty.arr (32 : Nat) (Ty.int IntKind.u8)) p7) :: (Blk.mem (CV.pair (CV.int IntKind.i64 p8) (CV.pair (CV.whole (5 : Nat)) (CV.pair (CV.whole (6 : Nat)) (CV.pure Ty.unit PUnit.unit))))) :: (Blk.vec (25 : Nat) (Ty.arr (32 : Nat) (Ty.int IntKind.u8)) p9) :: (Blk.vec (25 : Nat) (Ty.arr (32 : Nat) (Ty.int IntKind.u8)) p10) :: []) => gd (shapeOK T 59 [1, 3, 6, 8, 22, 23, 24] (0 : Nat)) (G p0 p1 p2 p3 p4 p5 p6 p7 p8 p9 p10 k)
  | _, _, _, _, _, _, _, _ => none
theorem o_20_0_inv {R : Type} {G : (Int) → (List Int) → (Int) → (Int) → (List Int) → (Int) → (List (List Int)) → (List (List Int)) → (Int) → (List (List Int)) → (List (List Int)) → (Ex → St → Option R) → Option R} {T : St} {k : Ex → St → Option R} {r : R} (h : o_20_0 G T k = some r) : ∃ p0 p1 p2 p3 p4 p5 p6 p7 p8 p9 p10, T = T_20_0 p0 p1 p2 p3 p4 p5 p6 p7 p8 p9 p10 ∧ G p0 p1 p2 p3 p4 p5 p6 p7 p8 p9 p10 k = some r := by
  unfold o_20_0 at h
  split at h
  · obtain ⟨hs, h'⟩ := gd_some h
    refine ⟨_, _, _, _, _, _, _, _, _, _, _, (st_of (asg := [(1, _), (3, _), (6, _), (8, _), (22, _), (23, _), (24, _)]) hs ⟨by assumption, by assumption, by assumption, by assumption, by assumption, by assumption, by assumption, trivial⟩ (by assumption)).trans ?_, h'⟩
    kernel_rfl
  · cases h
def O_20_20_0 {R : Type} : St → (Ex → St → Option R) → Option R := fun T k => o_20_0 G_20_0 T k
theorem body_20_0 {R : Type} (K0 : St → Option R) (K1 : Ex → St → Option R) (p0 : Int) (p1 : List Int) (p2 : Int) (p3 : Int) (p4 : List Int) (p5 : Int) (p6 : List (List Int)) (p7 : List (List Int)) (p8 : Int) (p9 : List (List Int)) (p10 : List (List Int)) : evLB (evCodeL sm_20 FU (ovr noO (evFn sm_20 fns FU 0)) .nil ir20_b0) (St.norm ir20_v0) (T_20_0 p0 p1 p2 p3 p4 p5 p6 p7 p8 p9 p10) K0 K1 =
  bif decide (p3 < p2) then gd (inB p3 (List.length p1)) (gd (Sp.p_43 p4 p0 p3) (gd (Sp.p_37 (Prod.fst (Sp.v_43 p4 p0 p3)) (0 : Int) (List.getD p1 (Int.toNat p3) (0 : Int))) (gd (room (List.length p9 + (1 : Nat)) (32 : Nat)) (K0 (T_20_0 p0 p1 p2 (IntKind.wrap IntKind.i64 (p3 + (1 : Int))) p4 p5 p6 p7 p8 (p9 ++ [Prod.fst (Sp.v_37 (Prod.fst (Sp.v_43 p4 p0 p3)) (0 : Int) (List.getD p1 (Int.toNat p3) (0 : Int)))]) p10))))) else K1 (Ex.exit (0 : Nat)) (X_20_0_0 p0 p4 p5 p6 p7 p8 p9 p10) := by kernel_rfl
theorem Bgd_20_0 {R : Type} {c : Bool} {x : Option R} {y : Option Sp.E_20_0} {k0 : (Int) → (List Int) → (Int) → (List (List Int)) → (List (List Int)) → (Int) → (List (List Int)) → (List (List Int)) → Option R} (h : x = Sp.B_20_0 y k0) : gd c x = Sp.B_20_0 (gd c y) k0 := by cases c; rfl; exact h
theorem Bcond_20_0 {R : Type} {c : Bool} {x x' : Option R} {y y' : Option Sp.E_20_0} {k0 : (Int) → (List Int) → (Int) → (List (List Int)) → (List (List Int)) → (Int) → (List (List Int)) → (List (List Int)) → Option R} (h : x = Sp.B_20_0 y k0) (h' : x' = Sp.B_20_0 y' k0) : (bif c then x else x') = Sp.B_20_0 (bif c then y else y') k0 := by cases c; exact h'; exact h
theorem loop_20_0 {R : Type} (k : Ex → St → Option R) : ∀ (m : Nat) (p0 : Int) (p1 : List Int) (p2 : Int) (p3 : Int) (p4 : List Int) (p5 : Int) (p6 : List (List Int)) (p7 : List (List Int)) (p8 : Int) (p9 : List (List Int)) (p10 : List (List Int)), evLoopN (evCodeL sm_20 FU (ovr noO (evFn sm_20 fns FU 0)) .nil ir20_b0) (St.norm ir20_v0) m (T_20_0 p0 p1 p2 p3 p4 p5 p6 p7 p8 p9 p10) k = Sp.B_20_0 (Sp.L_20_0 m p0 p1 p2 p3 p4 p5 p6 p7 p8 p9 p10) (fun p0 p4 p5 p6 p7 p8 p9 p10 => k (Ex.exit (0 : Nat)) (X_20_0_0 p0 p4 p5 p6 p7 p8 p9 p10))
  | 0, _, _, _, _, _, _, _, _, _, _, _ => rfl
  | m + 1, p0, p1, p2, p3, p4, p5, p6, p7, p8, p9, p10 => by
    rw [evLoopN_succ, body_20_0, Sp.L_20_0]
    repeat' first | apply Bgd_20_0 | apply Bcond_20_0 | exact loop_20_0 k m _ _ _ _ _ _ _ _ _ _ _ | rfl
theorem ok_20_0 {R : Type} (T : St) (k : Ex → St → Option R) (r : R) (h0 : o_20_0 G_20_0 T k = some r) : evLoopN (evCode sm_20 FU (evFn sm_20 fns FU 0) ir20_b0) (St.norm ir20_v0) FU T k = some r := by
  obtain ⟨p0, p1, p2, p3, p4, p5, p6, p7, p8, p9, p10, rfl, h⟩ := o_20_0_inv h0
  refine evLoopN_L (t := .nil) noO_ok trivial _ _ _ _ ?_
  rw [loop_20_0]
  exact h
theorem OK_20_20_0 {R : Type} (T : St) (k : Ex → St → Option R) (r : R) (h : O_20_20_0 T k = some r) : evLoopN (evCode sm_20 FU (evFn sm_20 fns FU 0) ir20_b0) (St.norm ir20_v0) FU T k = some r := ok_20_0 T k r h
def F_20 (a0 : (List Int)) (a1 : Int) (a2 : (List Int)) : Option ((Int × ((List (List Int)) × ((List (List Int)) × Unit))) × Int × Unit) :=
  bif decide (a1 < (0 : Int)) then some (((0 : Int), [], [], PUnit.unit), (2 : Int), PUnit.unit) else bif decide (a1 ≥ (4 : Int)) then some (((0 : Int), [], [], PUnit.unit), (2 : Int), PUnit.unit) else gd (Sp.p_13 a2) (Sp.B_20_0 (Sp.L_20_0 (4611686018427387904 : Nat) a1 (Prod.fst (Sp.v_13 a2)) (↑(List.length (Prod.fst (Sp.v_13 a2))) : Int) (0 : Int) a0 (0 : Int) [] [] a1 [] []) fun (y8 : Int) (y9 : List Int) (y10 : Int) (y11 y12 : List (List Int)) (y13 : Int) (y14 y15 : List (List Int)) => gd (Sp.p_44 y9 (Sp.xorI IntKind.i64 y8 (1 : Int))) (gd (Sp.p_44 y9 (Sp.andnI IntKind.i64 (Sp.xorI IntKind.i64 y8 (2 : Int)) (1 : Int))) (gd (Sp.p_44 y9 (IntKind.wrap IntKind.i64 (Sp.andnI IntKind.i64 (Sp.xorI IntKind.i64 y8 (2 : Int)) (1 : Int) + (1 : Int)))) (gd (Sp.p_40 (Prod.fst (Sp.v_44 y9 (Sp.andnI IntKind.i64 (Sp.xorI IntKind.i64 y8 (2 : Int)) (1 : Int)))) (Prod.fst (Sp.v_44 y9 (IntKind.wrap IntKind.i64 (Sp.andnI IntKind.i64 (Sp.xorI IntKind.i64 y8 (2 : Int)) (1 : Int) + (1 : Int)))))) (some ((y13, y14, [Prod.fst (Sp.v_44 y9 (Sp.xorI IntKind.i64 y8 (1 : Int))), Prod.fst (Sp.v_40 (Prod.fst (Sp.v_44 y9 (Sp.andnI IntKind.i64 (Sp.xorI IntKind.i64 y8 (2 : Int)) (1 : Int)))) (Prod.fst (Sp.v_44 y9 (IntKind.wrap IntKind.i64 (Sp.andnI IntKind.i64 (Sp.xorI IntKind.i64 y8 (2 : Int)) (1 : Int) + (1 : Int))))))], PUnit.unit), (0 : Int), PUnit.unit))))))
theorem fn_20 (a0 : (List Int)) (a1 : Int) (a2 : (List Int)) : evFnL sm_20 FU (ovr noO (evFn sm_20 fns FU 0)) (ir20_t O_20_20_0) ir20 (ofH [(.arr 32 (.int .u8)), (.int .i64), (.arr 32 (.int .u8))] (a0, a1, a2, ())) [] (pureK [(.pair (.int .i64) (.pair (.slice (.arr 32 (.int .u8))) (.pair (.slice (.arr 32 (.int .u8))) .unit))), (.int .i64)]) = F_20 a0 a1 a2 := by kernel_rfl
def Sp.p_20 (a0 : (List Int)) (a1 : Int) (a2 : (List Int)) : Bool := (F_20 a0 a1 a2).isSome
def Sp.v_20 (a0 : (List Int)) (a1 : Int) (a2 : (List Int)) : (Int × ((List (List Int)) × ((List (List Int)) × Unit))) × Int × Unit := (F_20 a0 a1 a2).getD (dfH [(.pair (.int .i64) (.pair (.slice (.arr 32 (.int .u8))) (.pair (.slice (.arr 32 (.int .u8))) .unit))), (.int .i64)])
def s_20 : Summ := shS [(.arr 32 (.int .u8)), (.int .i64), (.arr 32 (.int .u8))] [(.pair (.int .i64) (.pair (.slice (.arr 32 (.int .u8))) (.pair (.slice (.arr 32 (.int .u8))) .unit))), (.int .i64)] (fun x => Sp.p_20 x.1 x.2.1 x.2.2.1) (fun x => Sp.v_20 x.1 x.2.1 x.2.2.1)
theorem pv_20 (a0 : (List Int)) (a1 : Int) (a2 : (List Int)) {y : (Int × ((List (List Int)) × ((List (List Int)) × Unit))) × Int × Unit} (h : F_20 a0 a1 a2 = some y) : Sp.p_20 a0 a1 a2 = true ∧ Sp.v_20 a0 a1 a2 = y := ⟨by rw [Sp.p_20, h]; rfl, by rw [Sp.v_20, h]; rfl⟩
theorem run_20 (x : HDen [(.arr 32 (.int .u8)), (.int .i64), (.arr 32 (.int .u8))]) (y : HDen [(.pair (.int .i64) (.pair (.slice (.arr 32 (.int .u8))) (.pair (.slice (.arr 32 (.int .u8))) .unit))), (.int .i64)]) (h : F_20 x.1 x.2.1 x.2.2.1 = some y) : evFn sm_20 fns FU 1 20 (ofH [(.arr 32 (.int .u8)), (.int .i64), (.arr 32 (.int .u8))] x) [] (pureK [(.pair (.int .i64) (.pair (.slice (.arr 32 (.int .u8))) (.pair (.slice (.arr 32 (.int .u8))) .unit))), (.int .i64)]) = some y :=
  evFnL_sound (fn := ir20) (t := (ir20_t O_20_20_0)) (o := noO) rfl noO_ok (ir20_tok (fun T k r => OK_20_20_0 T k r)) ((fn_20 _ _ _).trans h)
end
end Go.Ev
namespace Go.Ev
open Go
set_option maxRecDepth 100000
set_option maxHeartbeats 4000000
set_option linter.unusedVariables false
noncomputable section

def sm_21 : Nat → Option Summ := fun f => none
def T_21_0 (p0 : Int) (p1 : Int × List (List Int) × List (List Int) × PUnit) (p2 : Int × List (List Int) × List (List Int) × PUnit) : St := St.mk [CV.junk, CV.junk, CV.ptr (0 : Nat) [], CV.ptr (1 : Nat) [], CV.junk, CV.int IntKind.i64 p0, CV.junk, CV.junk, CV.junk, CV.junk, CV.junk, CV.junk, CV.junk, CV.junk, CV.junk, CV.junk, CV.junk, CV.junk, CV.junk, CV.junk, CV.junk, CV.junk, CV.junk, CV.junk, CV.junk, CV.junk, CV.junk, CV.junk, CV.junk, CV.junk, CV.junk, CV.junk, CV.junk, CV.junk, CV.junk, CV.junk, CV.junk, CV.junk, CV.junk, CV.junk, CV.junk, CV.junk, CV.junk, CV.junk, CV.junk, CV.junk, CV.junk, CV.junk, CV.junk, CV.junk, CV.junk, CV.junk, CV.junk, CV.junk, CV.junk, CV.junk, CV.junk, CV.junk, CV.junk, CV.junk, CV.junk, CV.junk, CV.junk, CV.junk, CV.junk, CV.junk] [Blk.mem (CV.pure (Ty.pair (Ty.int IntKind.i64) (Ty.pair (Ty.slice (Ty.arr (32 : Nat) (Ty.int IntKind.u8))) (Ty.pair (Ty.slice (Ty.arr (32 : Nat) (Ty.int IntKind.u8))) Ty.unit))) p1), Blk.mem (CV.pure (Ty.pair (Ty.int IntKind.i64) (Ty.pair (Ty.slice (Ty.arr (32 : Nat) (Ty.int IntKind.u8))) (Ty.pair (Ty.slice (Ty.arr (32 : Nat) (Ty.int IntKind.u8))) Ty.unit))) p2)] (0 : Nat)
def X_21_0_0 : St := St.mk [CV.junk, CV.junk, CV.junk, CV.junk, CV.bool false, CV.junk, CV.junk, CV.junk, CV.junk, CV.junk, CV.junk, CV.junk, CV.junk, CV.junk, CV.junk, CV.junk, CV.junk, CV.junk, CV.junk, CV.junk, CV.junk, CV.junk, CV.junk, CV.junk, CV.junk, CV.junk, CV.junk, CV.junk, CV.junk, CV.junk, CV.junk, CV.junk, CV.junk, CV.junk, CV.junk, CV.junk, CV.junk, CV.junk, CV.junk, CV.junk, CV.junk, CV.junk, CV.junk, CV.junk, CV.junk, CV.junk, CV.junk, CV.junk, CV.junk, CV.junk, CV.junk, CV.junk, CV.junk, CV.junk, CV.junk, CV.junk, CV.junk, CV.junk, CV.junk, CV.junk, CV.junk, CV.junk, CV.junk, CV.junk, CV.junk, CV.junk] [] (0 : Nat)
def X_21_0_1 (p1 : Int × List (List Int) × List (List Int) × PUnit) (p2 : Int × List (List Int) × List (List Int) × PUnit) : St := St.mk [CV.junk, CV.junk, CV.ptr (0 : Nat) [], CV.ptr (1 : Nat) [], CV.junk, CV.junk, CV.junk, CV.junk, CV.junk, CV.junk, CV.junk, CV.junk, CV.junk, CV.junk, CV.junk, CV.junk, CV.junk, CV.junk, CV.junk, CV.junk, CV.junk, CV.junk, CV.junk, CV.junk, CV.junk, CV.junk, CV.junk, CV.junk, CV.junk, CV.junk, CV.junk, CV.junk, CV.junk, CV.junk, CV.junk, CV.junk, CV.junk, CV.junk, CV.junk, CV.junk, CV.junk, CV.junk, CV.junk, CV.junk, CV.junk, CV.junk, CV.junk, CV.junk, CV.junk, CV.junk, CV.junk, CV.junk, CV.junk, CV.junk, CV.junk, CV.junk, CV.junk, CV.junk, CV.junk, CV.junk, CV.junk, CV.junk, CV.junk, CV.junk, CV.junk, CV.junk] [Blk.mem (CV.pure (Ty.pair (Ty.int IntKind.i64) (Ty.pair (Ty.slice (Ty.arr (32 : Nat) (Ty.int IntKind.u8))) (Ty.pair (Ty.slice (Ty.arr (32 : Nat) (Ty.int IntKind.u8))) Ty.unit))) p1), Blk.mem (CV.pure (Ty.pair (Ty.int IntKind.i64) (Ty.pair (Ty.slice (Ty.arr (32 : Nat) (Ty.int IntKind.u8))) (Ty.pair (Ty.slice (Ty.arr (32 : Nat) (Ty.int IntKind.u8))) Ty.unit))) p2)] (0 : Nat)
inductive Sp.E_21_0 where
  | e0
  | e1 (p1 : Int × List (List Int) × List (List Int) × PUnit) (p2 : Int × List (List Int) × List (List Int) × PUnit)
def Sp.B_21_0 {R : Type} (r : Option Sp.E_21_0) (k0 : Option R) (k1 : (Int × List (List Int) × List (List Int) × PUnit) → (Int × List (List Int) × List (List Int) × PUnit) → Option R) : Option R := match r with
  | none => none
  | some (.e0) => k0
  | some (.e1 p1 p2) => k1 p1 p2
def Sp.L_21_0 : Nat → (Int) → (Int × List (List Int) × List (List Int) × PUnit) → (Int × List (List Int) × List (List Int) × PUnit) → Option Sp.E_21_0
  | 0, _, _, _ => none
  | m + 1, p0, p1, p2 => bif decide (p0 < (↑(List.length (Prod.fst (Prod.snd p1))) : Int)) then gd (inB p0 (List.length (Prod.fst (Prod.snd p1)))) (gd (inB p0 (List.length (Prod.fst (Prod.snd p2)))) (bif !Ty.beq (Ty.arr (32 : Nat) (Ty.int IntKind.u8)) (List.getD (Prod.fst (Prod.snd p1)) (Int.toNat p0) (Ty.dflt (Ty.arr (32 : Nat) (Ty.int IntKind.u8)))) (List.getD (Prod.fst (Prod.snd p2)) (Int.toNat p0) (Ty.dflt (Ty.arr (32 : Nat) (Ty.int IntKind.u8)))) then some (Sp.E_21_0.e0) else Sp.L_21_0 m (IntKind.wrap IntKind.i64 (p0 + (1 : Int))) p1 p2)) else some (Sp.E_21_0.e1 p1 p2)
def G_21_0 {R : Type} (p0 : Int) (p1 : Int × List (List Int) × List (List Int) × PUnit) (p2 : Int × List (List Int) × List (List Int) × PUnit) (k : Ex → St → Option R) : Option R := Sp.B_21_0 (Sp.L_21_0 FU p0 p1 p2) (k Ex.ret (X_21_0_0)) (fun p1 p2 => k (Ex.exit (0 : Nat)) (X_21_0_1 p1 p2))
def o_21_0 {R : Type} (G : (Int) → (Int × List (List Int) × List (List Int) × PUnit) → (Int × List (List Int) × List (List Int) × PUnit) → (Ex → St → Option R) → Option R) : St → (Ex → St → Option R) → Option R := fun T k => match T.sl.getD 2 .junk, T.sl.getD 3 .junk, T.sl.getD 5 .junk, T.hp with
  | CV.ptr (0 : Nat) [], CV.ptr (1 : Nat) [], CV.int IntKind.i64 p0, ((Blk.mem (CV.pure (Ty.pair (Ty.int IntKind.i64) (Ty.pair (Ty.slice (Ty.arr (32 : Nat) (Ty.int IntKind.u8))) (Ty.pair (Ty.slice (Ty.arr (32 : Nat) (Ty.int IntKind.u8))) Ty.unit))) p1)) :: (Blk.mem (CV.pure (Ty.pair (Ty.int IntKind.i64) (Ty.pair (Ty.slice (Ty.arr (32 : Nat) (Ty.int IntKind.u8))) (Ty.pair (Ty.slice (Ty.arr (32 : Nat) (Ty.int IntKind.u8))) Ty.unit))) p2)) :: []) => gd (shapeOK T 66 [2, 3, 5] (0 : Nat)) (G p0 p1 p2 k)
  | _, _, _, _ => none
theorem o_21_0_inv {R : Type} {G : (Int) → (Int × List (List Int) × List (List Int) × PUnit) → (Int × List (List Int) × List (List Int) × PUnit) → (Ex → St → Option R) → Option R} {T : St} {k : Ex → St → Option R} {r : R} (h : o_21_0 G T k = some r) : ∃ p0 p1 p2, T = T_21_0 p0 p1 p2 ∧ G p0 p1 p2 k = some r := by
  unfold o_21_0 at h
  split at h
  · obtain ⟨hs, h'⟩ := gd_some h
    refine ⟨_, _, _, (st_of (asg := [(2, _), (3, _), (5, _)]) hs ⟨by assumption, by assumption, by assumption, trivial⟩ (by assumption)).trans ?_, h'⟩
    kernel_rfl
  · cases h
def T_21_1 (p0 : Int) (p1 : Int × List (List Int) × List (List Int) × PUnit) (p2 : Int × List (List Int) × List (List Int) × PUnit) : St := St.mk [CV.junk, CV.junk, CV.ptr (0 : Nat) [], CV.ptr (1 : Nat) [], CV.junk, CV.junk, CV.int IntKind.i64 p0, CV.junk, CV.junk, CV.junk, CV.junk, CV.junk, CV.junk, CV.junk, CV.junk, CV.junk, CV.junk, CV.junk, CV.junk, CV.junk, CV.junk, CV.junk, CV.junk, CV.junk, CV.junk, CV.junk, CV.junk, CV.junk, CV.junk, CV.junk, CV.junk, CV.junk, CV.junk, CV.junk, CV.junk, CV.junk, CV.junk, CV.junk, CV.junk, CV.junk, CV.junk, CV.junk, CV.junk, CV.junk, CV.junk, CV.junk, CV.junk, CV.junk, CV.junk, CV.junk, CV.junk, CV.junk, CV.junk, CV.junk, CV.junk, CV.junk, CV.junk, CV.junk, CV.junk, CV.junk, CV.junk, CV.junk, CV.junk, CV.junk, CV.junk, CV.junk] [Blk.mem (CV.pure (Ty.pair (Ty.int IntKind.i64) (Ty.pair (Ty.slice (Ty.arr (32 : Nat) (Ty.int IntKind.u8))) (Ty.pair (Ty.slice (Ty.arr (32 : Nat) (Ty.int IntKind.u8))) Ty.unit))) p1), Blk.mem (CV.pure (Ty.pair (Ty.int IntKind.i64) (Ty.pair (Ty.slice (Ty.arr (32 : Nat) (Ty.int IntKind.u8))) (Ty.pair (Ty.slice (Ty.arr (32 : Nat) (Ty.int IntKind.u8))) Ty.unit))) p2)] (0 : Nat)
def X_21_1_0 : St := St.mk [CV.junk, CV.junk, CV.junk, CV.junk, CV.bool false, CV.junk, CV.junk, CV.junk, CV.junk, CV.junk, CV.junk, CV.junk, CV.junk, CV.junk, CV.junk, CV.junk, CV.junk, CV.junk, CV.junk, CV.junk, CV.junk, CV.junk, CV.junk, CV.junk, CV.junk, CV.junk, CV.junk, CV.junk, CV.junk, CV.junk, CV.junk, CV.junk, CV.junk, CV.junk, CV.junk, CV.junk, CV.junk, CV.junk, CV.junk, CV.junk, CV.junk, CV.junk, CV.junk, CV.junk, CV.junk, CV.junk, CV.junk, CV.junk, CV.junk, CV.junk, CV.junk, CV.junk, CV.junk, CV.junk, CV.junk, CV.junk, CV.junk, CV.junk, CV.junk, CV.junk, CV.junk, CV.junk, CV.junk, CV.junk, CV.junk, CV.junk] [] (0 : Nat)
def X_21_1_1 : St := St.mk [CV.junk, CV.junk, CV.junk, CV.junk, CV.junk, CV.junk, CV.junk, CV.junk, CV.junk, CV.junk, CV.junk, CV.junk, CV.junk, CV.junk, CV.junk, CV.junk, CV.junk, CV.junk, CV.junk, CV.junk, CV.junk, CV.junk, CV.junk, CV.junk, CV.junk, CV.junk, CV.junk, CV.junk, CV.junk, CV.junk, CV.junk, CV.junk, CV.junk, CV.junk, CV.junk, CV.junk, CV.junk, CV.junk, CV.junk, CV.junk, CV.junk, CV.junk, CV.junk, CV.junk, CV.junk, CV.junk, CV.junk, CV.junk, CV.junk, CV.junk, CV.junk, CV.junk, CV.junk, CV.junk, CV.junk, CV.junk, CV.junk, CV.junk, CV.junk, CV.junk, CV.junk, CV.junk, CV.junk, CV.junk, CV.junk, CV.junk] [] (0 : Nat)
inductive Sp.E_21_1 where
  | e0
  | e1
def Sp.B_21_1 {R : Type} (r : Option Sp.E_21_1) (k0 : Option R) (k1 : Option R) : Option R := match r with
  | none => none
  | some (.e0) => k0
  | some (.e1) => k1
def Sp.L_21_1 : Nat → (Int) → (Int × List (List Int) × List (List Int) × PUnit) → (Int × List (List Int) × List (List Int) × PUnit) → Option Sp.E_21_1
  | 0, _, _, _ => none
  | m + 1, p0, p1, p2 => bif decide (p0 < (↑(List.length (Prod.fst (Prod.snd (Prod.snd p1)))) : Int)) then gd (inB p0 (List.length (Prod.fst (Prod.snd (Prod.snd p1))))) (gd (inB p0 (List.length (Prod.fst (Prod.snd (Prod.snd p2))))) (bif !Ty.beq (Ty.arr (32 : Nat) (Ty.int IntKind.u8)) (List.getD (Prod.fst (Prod.snd (Prod.snd p1))) (Int.toNat p0) (Ty.dflt (Ty.arr (32 : Nat) (Ty.int IntKind.u8)))) (List.getD (Prod.fst (Prod.snd (Prod.snd p2))) (Int.toNat p0) (Ty.dflt (Ty.arr (32 : Nat) (Ty.int IntKind.u8)))) then some (Sp.E_21_1.e0) else Sp.L_21_1 m (IntKind.wrap IntKind.i64 (p0 + (1 : Int))) p1 p2)) else some (Sp.E_21_1.e1)
def G_21_1 {R : Type} (p0 : Int) (p1 : Int × List (List Int) × List (List Int) × PUnit) (p2 : Int × List (List Int) × List (List Int) × PUnit) (k : Ex → St → Option R) : Option R := Sp.B_21_1 (Sp.L_21_1 FU p0 p1 p2) (k Ex.ret (X_21_1_0)) (k (Ex.exit (2 : Nat)) (X_21_1_1))
def o_21_1 {R : Type} (G : (Int) → (Int × List (List Int) × List (List Int) × PUnit) → (Int × List (List Int) × List (List Int) × PUnit) → (Ex → St → Option R) → Option R) : St → (Ex → St → Option R) → Option R := fun T k => match T.sl.getD 2 .junk, T.sl.getD 3 .junk, T.sl.getD 6 .junk, T.hp with
  | CV.ptr (0 : Nat) [], CV.ptr (1 : Nat) [], CV.int IntKind.i64 p0, ((Blk.mem (CV.pure (Ty.pair (Ty.int IntKind.i64) (Ty.pair (Ty.slice (Ty.arr (32 : Nat) (Ty.int IntKind.u8))) (Ty.pair (Ty.slice (Ty.arr (32 : Nat) (Ty.int IntKind.u8))) Ty.unit))) p1)) :: (Blk.mem (CV.pure (Ty.pair (Ty.int IntKind.i64) (Ty.pair (Ty.slice (Ty.arr (32 : Nat) (Ty.int IntKind.u8))) (Ty.pair (Ty.slice (Ty.arr (32 : Nat) (Ty.int IntKind.u8))) Ty.unit))) p2)) :: []) => gd (shapeOK T 66 [2, 3, 6] (0 : Nat)) (G p0 p1 p2 k)
  | _, _, _, _ => none
theorem o_21_1_inv {R : Type} {G : (Int) → (Int × List (List Int) × List (List Int) × PUnit) → (Int × List (List Int) × List (List Int) × PUnit) → (Ex → St → Option R) → Option R} {T : St} {k : Ex → St → Option R} {r : R} (h : o_21_1 G T k = some r) : ∃ p0 p1 p2, T = T_21_1 p0 p1 p2 ∧ G p0 p1 p2 k = some r := by
  unfold o_21_1 at h
  split at h
  · obtain ⟨hs, h'⟩ := gd_some h
    refine ⟨_, _, _, (st_of (asg := [(2, _), (3, _), (6, _)]) hs ⟨by assumption, by assumption, by assumption, trivial⟩ (by assumption)).trans ?_, h'⟩
    kernel_rfl
  · cases h
def O_21_21_0 {R : Type} : St → (Ex → St → Option R) → Option R := fun T k => o_21_0 G_21_0 T k
def O_21_21_1 {R : Type} : St → (Ex → St → Option R) → Option R := fun T k => o_21_1 G_21_1 T k
theorem body_21_0 {R : Type} (K0 : St → Option R) (K1 : Ex → St → Option R) (p0 : Int) (p1 : Int × List (List Int) × List (List Int) × PUnit) (p2 : Int × List (List Int) × List (List Int) × PUnit) : evLB (evCodeL sm_21 FU (ovr noO (evFn sm_21 fns FU 0)) .nil ir21_b0) (St.norm ir21_v0) (T_21_0 p0 p1 p2) K0 K1 =
  bif decide (p0 < (↑(List.length (Prod.fst (Prod.snd p1))) : Int)) then gd (inB p0 (List.length (Prod.fst (Prod.snd p1)))) (gd (inB p0 (List.length (Prod.fst (Prod.snd p2)))) (bif !Ty.beq (Ty.arr (32 : Nat) (Ty.int IntKind.u8)) (List.getD (Prod.fst (Prod.snd p1)) (Int.toNat p0) (Ty.dflt (Ty.arr (32 : Nat) (Ty.int IntKind.u8)))) (List.getD (Prod.fst (Prod.snd p2)) (Int.toNat p0) (Ty.dflt (Ty.arr (32 : Nat) (Ty.int IntKind.u8)))) then K1 Ex.ret X_21_0_0 else K0 (T_21_0 (IntKind.wrap IntKind.i64 (p0 + (1 : Int))) p1 p2))) else K1 (Ex.exit (0 : Nat)) (X_21_0_1 p1 p2) := by kernel_rfl
theorem Bgd_21_0 {R : Type} {c : Bool} {x : Option R} {y : Option Sp.E_21_0} {k0 : Option R} {k1 : (Int × List (List Int) × List (List Int) × PUnit) → (Int × List (List Int) × List (List Int) × PUnit) → Option R} (h : x = Sp.B_21_0 y k0 k1) : gd c x = Sp.B_21_0 (gd c y) k0 k1 := by cases c; rfl; exact h
theorem Bcond_21_0 {R : Type} {c : Bool} {x x' : Option R} {y y' : Option Sp.E_21_0} {k0 : Option R} {k1 : (Int × List (List Int) × List (List Int) × PUnit) → (Int × List (List Int) × List (List Int) × PUnit) → Option R} (h : x = Sp.B_21_0 y k0 k1) (h' : x' = Sp.B_21_0 y' k0 k1) : (bif c then x else x') = Sp.B_21_0 (bif c then y else y') k0 k1 := by cases c; exact h'; exact h
theorem loop_21_0 {R : Type} (k : Ex → St → Option R) : ∀ (m : Nat) (p0 : Int) (p1 : Int × List (List Int) × List (List Int) × PUnit) (p2 : Int × List (List Int) × List (List Int) × PUnit), evLoopN (evCodeL sm_21 FU (ovr noO (evFn sm_21 fns FU 0)) .nil ir21_b0) (St.norm ir21_v0) m (T_21_0 p0 p1 p2) k = Sp.B_21_0 (Sp.L_21_0 m p0 p1 p2) (k Ex.ret (X_21_0_0)) (fun p1 p2 => k (Ex.exit (0 : Nat)) (X_21_0_1 p1 p2))
  | 0, _, _, _ => rfl
  | m + 1, p0, p1, p2 => by
    rw [evLoopN_succ, body_21_0, Sp.L_21_0]
    repeat' first | apply Bgd_21_0 | apply Bcond_21_0 | exact loop_21_0 k m _ _ _ | rfl
theorem ok_21_0 {R : Type} (T : St) (k : Ex → St → Option R) (r : R) (h0 : o_21_0 G_21_0 T k = some r) : evLoopN (evCode sm_21 FU (evFn sm_21 fns FU 0) ir21_b0) (St.norm ir21_v0) FU T k = some r := by
  obtain ⟨p0, p1, p2, rfl, h⟩ := o_21_0_inv h0
  refine evLoopN_L (t := .nil) noO_ok trivial _ _ _ _ ?_
  rw [loop_21_0]
  exact h
theorem OK_21_21_0 {R : Type} (T : St) (k : Ex → St → Option R) (r : R) (h : O_21_21_0 T k = some r) : evLoopN (evCode sm_21 FU (evFn sm_21 fns FU 0) ir21_b0) (St.norm ir21_v0) FU T k = some r := ok_21_0 T k r h
theorem body_21_1 {R : Type} (K0 : St → Option R) (K1 : Ex → St → Option R) (p0 : Int) (p1 : Int × List (List Int) × List (List Int) × PUnit) (p2 : Int × List (List Int) × List (List Int) × PUnit) : evLB (evCodeL sm_21 FU (ovr noO (evFn sm_21 fns FU 0)) .nil ir21_b1) (St.norm ir21_v1) (T_21_1 p0 p1 p2) K0 K1 =
  bif decide (p0 < (↑(List.length (Prod.fst (Prod.snd (Prod.snd p1)))) : Int)) then gd (inB p0 (List.length (Prod.fst (Prod.snd (Prod.snd p1))))) (gd (inB p0 (List.length (Prod.fst (Prod.snd (Prod.snd p2))))) (bif !Ty.beq (Ty.arr (32 : Nat) (Ty.int IntKind.u8)) (List.getD (Prod.fst (Prod.snd (Prod.snd p1))) (Int.toNat p0) (Ty.dflt (Ty.arr (32 : Nat) (Ty.int IntKind.u8)))) (List.getD (Prod.fst (Prod.snd (Prod.snd p2))) (Int.toNat p0) (Ty.dflt (Ty.arr (32 : Nat) (Ty.int IntKind.u8)))) then K1 Ex.ret X_21_1_0 else K0 (T_21_1 (IntKind.wrap IntKind.i64 (p0 + (1 : Int))) p1 p2))) else K1 (Ex.exit (2 : Nat)) X_21_1_1 := by kernel_rfl
theorem Bgd_21_1 {R : Type} {c : Bool} {x : Option R} {y : Option Sp.E_21_1} {k0 : Option R} {k1 : Option R} (h : x = Sp.B_21_1 y k0 k1) : gd c x = Sp.B_21_1 (gd c y) k0 k1 := by cases c; rfl; exact h
theorem Bcond_21_1 {R : Type} {c : Bool} {x x' : Option R} {y y' : Option Sp.E_21_1} {k0 : Option R} {k1 : Option R} (h : x = Sp.B_21_1 y k0 k1) (h' : x' = Sp.B_21_1 y' k0 k1) : (bif c then x else x') = Sp.B_21_1 (bif c then y else y') k0 k1 := by cases c; exact h'; exact h
theorem loop_21_1 {R : Type} (k : Ex → St → Option R) : ∀ (m : Nat) (p0 : Int) (p1 : Int × List (List Int) × List (List Int) × PUnit) (p2 : Int × List (List Int) × List (List Int) × PUnit), evLoopN (evCodeL sm_21 FU (ovr noO (evFn sm_21 fns FU 0)) .nil ir21_b1) (St.norm ir21_v1) m (T_21_1 p0 p1 p2) k = Sp.B_21_1 (Sp.L_21_1 m p0 p1 p2) (k Ex.ret (X_21_1_0)) (k (Ex.exit (2 : Nat)) (X_21_1_1))
  | 0, _, _, _ => rfl
  | m + 1, p0, p1, p2 => by
    rw [evLoopN_succ, body_21_1, Sp.L_21_1]
    repeat' first | apply Bgd_21_1 | apply Bcond_21_1 | exact loop_21_1 k m _ _ _ | rfl
theorem ok_21_1 {R : Type} (T : St) (k : Ex → St → Option R) (r : R) (h0 : o_21_1 G_21_1 T k = some r) : evLoopN (evCode sm_21 FU (evFn sm_21 fns FU 0) ir21_b1) (St.norm ir21_v1) FU T k = some r := by
  obtain ⟨p0, p1, p2, rfl, h⟩ := o_21_1_inv h0
  refine evLoopN_L (t := .nil) noO_ok trivial _ _ _ _ ?_
  rw [loop_21_1]
  exact h
theorem OK_21_21_1 {R : Type} (T : St) (k : Ex → St → Option R) (r : R) (h : O_21_21_1 T k = some r) : evLoopN (evCode sm_21 FU (evFn sm_21 fns FU 0) ir21_b1) (St.norm ir21_v1) FU T k = some r := ok_21_1 T k r h
def F_21 (a0 : (Int × ((List (List Int)) × ((List (List Int)) × Unit)))) (a1 : (Int × ((List (List Int)) × ((List (List Int)) × Unit)))) : Option (Bool × Unit) :=
  bif Prod.fst a0 != Prod.fst a1 then some (false, PUnit.unit) else bif (↑(List.length (Prod.fst (Prod.snd a0))) : Int) != (↑(List.length (Prod.fst (Prod.snd a1))) : Int) then some (false, PUnit.unit) else bif (↑(List.length (Prod.fst (Prod.snd (Prod.snd a0)))) : Int) != (↑(List.length (Prod.fst (Prod.snd (Prod.snd a1)))) : Int) then some (false, PUnit.unit) else Sp.B_21_0 (Sp.L_21_0 (4611686018427387904 : Nat) (0 : Int) a0 a1) (some (false, PUnit.unit)) fun (y2 y3 : Int × List (List Int) × List (List Int) × PUnit) => Sp.B_21_1 (Sp.L_21_1 (4611686018427387904 : Nat) (0 : Int) y2 y3) (some (false, PUnit.unit)) (some (true, PUnit.unit))
theorem fn_21 (a0 : (Int × ((List (List Int)) × ((List (List Int)) × Unit)))) (a1 : (Int × ((List (List Int)) × ((List (List Int)) × Unit)))) : evFnL sm_21 FU (ovr noO (evFn sm_21 fns FU 0)) (ir21_t O_21_21_0 O_21_21_1) ir21 (ofH [(.pair (.int .i64) (.pair (.slice (.arr 32 (.int .u8))) (.pair (.slice (.arr 32 (.int .u8))) .unit))), (.pair (.int .i64) (.pair (.slice (.arr 32 (.int .u8))) (.pair (.slice (.arr 32 (.int .u8))) .unit)))] (a0, a1, ())) [] (pureK [.bool]) = F_21 a0 a1 := by kernel_rfl
def Sp.p_21 (a0 : (Int × ((List (List Int)) × ((List (List Int)) × Unit)))) (a1 : (Int × ((List (List Int)) × ((List (List Int)) × Unit)))) : Bool := (F_21 a0 a1).isSome
def Sp.v_21 (a0 : (Int × ((List (List Int)) × ((List (List Int)) × Unit)))) (a1 : (Int × ((List (List Int)) × ((List (List Int)) × Unit)))) : Bool × Unit := (F_21 a0 a1).getD (dfH [.bool])
def s_21 : Summ := shN [(.pair (.int .i64) (.pair (.slice (.arr 32 (.int .u8))) (.pair (.slice (.arr 32 (.int .u8))) .unit))), (.pair (.int .i64) (.pair (.slice (.arr 32 (.int .u8))) (.pair (.slice (.arr 32 (.int .u8))) .unit)))] [.bool] (fun x => Sp.p_21 x.1 x.2.1) (fun x => Sp.v_21 x.1 x.2.1)
theorem pv_21 (a0 : (Int × ((List (List Int)) × ((List (List Int)) × Unit)))) (a1 : (Int × ((List (List Int)) × ((List (List Int)) × Unit)))) {y : Bool × Unit} (h : F_21 a0 a1 = some y) : Sp.p_21 a0 a1 = true ∧ Sp.v_21 a0 a1 = y := ⟨by rw [Sp.p_21, h]; rfl, by rw [Sp.v_21, h]; rfl⟩
theorem run_21 (x : HDen [(.pair (.int .i64) (.pair (.slice (.arr 32 (.int .u8))) (.pair (.slice (.arr 32 (.int .u8))) .unit))), (.pair (.int .i64) (.pair (.slice (.arr 32 (.int .u8))) (.pair (.slice (.arr 32 (.int .u8))) .unit)))]) (y : HDen [.bool]) (h : F_21 x.1 x.2.1 = some y) : evFn sm_21 fns FU 1 21 (ofH [(.pair (.int .i64) (.pair (.slice (.arr 32 (.int .u8))) (.pair (.slice (.arr 32 (.int .u8))) .unit))), (.pair (.int .i64) (.pair (.slice (.arr 32 (.int .u8))) (.pair (.slice (.arr 32 (.int .u8))) .unit)))] x) [] (pureK [.bool]) = some y :=
  evFnL_sound (fn := ir21) (t := (ir21_t O_21_21_0 O_21_21_1)) (o := noO) rfl noO_ok (ir21_tok (fun T k r => OK_21_21_0 T k r) (fun T k r => OK_21_21_1 T k r)) ((fn_21 _ _).trans h)
end
end Go.Ev
namespace Go.Ev
open Go
set_option maxRecDepth 100000
set_option maxHeartbeats 4000000
set_option linter.unusedVariables false
noncomputable section

def sm_15 : Nat → Option Summ := fun f => none
def T_15_0 (p0 : Int) (p1 : Int) (p2 : List Int) (p3 : List Int) : St := St.mk [CV.junk, CV.ptr (0 : Nat) [], CV.junk, CV.whole (1 : Nat), CV.int IntKind.i64 p0, CV.int IntKind.i64 p1, CV.junk, CV.junk, CV.junk, CV.junk, CV.junk, CV.junk, CV.junk, CV.junk, CV.junk, CV.junk, CV.junk, CV.junk, CV.junk, CV.junk, CV.junk, CV.junk, CV.junk, CV.junk, CV.junk, CV.junk, CV.junk, CV.junk, CV.junk, CV.junk, CV.junk, CV.junk, CV.junk, CV.junk, CV.junk, CV.junk, CV.junk, CV.junk, CV.junk, CV.junk, CV.junk, CV.junk, CV.junk, CV.junk] [Blk.mem (CV.pure (Ty.arr (32 : Nat) (Ty.int IntKind.u8)) p2), Blk.vec (3 : Nat) (Ty.int IntKind.i64) p3] (0 : Nat)
def X_15_0_0 (p0 : Int) (p3 : List Int) : St := St.mk [CV.junk, CV.junk, CV.junk, CV.whole (0 : Nat), CV.int IntKind.i64 p0, CV.junk, CV.junk, CV.junk, CV.junk, CV.junk, CV.junk, CV.junk, CV.junk, CV.junk, CV.junk, CV.junk, CV.junk, CV.junk, CV.junk, CV.junk, CV.junk, CV.junk, CV.junk, CV.junk, CV.junk, CV.junk, CV.junk, CV.junk, CV.junk, CV.junk, CV.junk, CV.junk, CV.junk, CV.junk, CV.junk, CV.junk, CV.junk, CV.junk, CV.junk, CV.junk, CV.junk, CV.junk, CV.junk, CV.junk] [Blk.vec (3 : Nat) (Ty.int IntKind.i64) p3] (0 : Nat)
inductive Sp.E_15_0 where
  | e0 (p0 : Int) (p3 : List Int)
def Sp.B_15_0 {R : Type} (r : Option Sp.E_15_0) (k0 : (Int) → (List Int) → Option R) : Option R := match r with
  | none => none
  | some (.e0 p0 p3) => k0 p0 p3
def Sp.L_15_0 : Nat → (Int) → (Int) → (List Int) → (List Int) → Option Sp.E_15_0
  | 0, _, _, _, _ => none
  | m + 1, p0, p1, p2, p3 => bif decide (p1 < (64 : Int)) then gd (inB (IntKind.wrap IntKind.i64 (Int.tdiv p1 (2 : Int))) (32 : Nat)) (gd (decide (Int.toNat (IntKind.wrap IntKind.i64 (Int.tdiv p1 (2 : Int))) < (32 : Nat)) && true) (bif Int.tmod p1 (2 : Int) == (1 : Int) then gd (inB (IntKind.wrap IntKind.i64 (Int.tdiv p1 (2 : Int))) (32 : Nat)) (gd (decide (Int.toNat (IntKind.wrap IntKind.i64 (Int.tdiv p1 (2 : Int))) < (32 : Nat)) && true) (gd (room (List.length p3 + (1 : Nat)) (8 : Nat)) (Sp.L_15_0 m (IntKind.wrap IntKind.i64 (IntKind.wrap IntKind.i64 (p0 + (15 : Int)) - IntKind.wrap IntKind.i64 (Sp.andI IntKind.u8 (List.getD p2 (Int.toNat (IntKind.wrap IntKind.i64 (Int.tdiv p1 (2 : Int)))) (0 : Int)) (15 : Int)))) (IntKind.wrap IntKind.i64 (p1 + (1 : Int))) p2 (p3 ++ [IntKind.wrap IntKind.i64 (Sp.andI IntKind.u8 (List.getD p2 (Int.toNat (IntKind.wrap IntKind.i64 (Int.tdiv p1 (2 : Int)))) (0 : Int)) (15 : Int))])))) else gd (room (List.length p3 + (1 : Nat)) (8 : Nat)) (Sp.L_15_0 m (IntKind.wrap IntKind.i64 (IntKind.wrap IntKind.i64 (p0 + (15 : Int)) - IntKind.wrap IntKind.i64 (Int.fdiv (List.getD p2 (Int.toNat (IntKind.wrap IntKind.i64 (Int.tdiv p1 (2 : Int)))) (0 : Int)) (16 : Int)))) (IntKind.wrap IntKind.i64 (p1 + (1 : Int))) p2 (p3 ++ [IntKind.wrap IntKind.i64 (Int.fdiv (List.getD p2 (Int.toNat (IntKind.wrap IntKind.i64 (Int.tdiv p1 (2 : Int)))) (0 : Int)) (16 : Int))])))) else some (Sp.E_15_0.e0 p0 p3)
def G_15_0 {R : Type} (p0 : Int) (p1 : Int) (p2 : List Int) (p3 : List Int) (k : Ex → St → Option R) : Option R := Sp.B_15_0 (Sp.L_15_0 FU p0 p1 p2 p3) (fun p0 p3 => k (Ex.exit (0 : Nat)) (X_15_0_0 p0 p3))
def o_15_0 {R : Type} (G : (Int) → (Int) → (List Int) → (List Int) → (Ex → St → Option R) → Option R) : St → (Ex → St → Option R) → Option R := fun T k => match T.sl.getD 1 .junk, T.sl.getD 3 .junk, T.sl.getD 4 .junk, T.sl.getD 5 .junk, T.hp with
  | CV.ptr (0 : Nat) [], CV.whole (1 : Nat), CV.int IntKind.i64 p0, CV.int IntKind.i64 p1, ((Blk.mem (CV.pure (Ty.arr (32 : Nat) (Ty.int IntKind.u8)) p2)) :: (Blk.vec (3 : Nat) (Ty.int IntKind.i64) p3) :: []) => gd (shapeOK T 44 [1, 3, 4, 5] (0 : Nat)) (G p0 p1 p2 p3 k)
  | _, _, _, _, _ => none
theorem o_15_0_inv {R : Type} {G : (Int) → (Int) → (List Int) → (List Int) → (Ex → St → Option R) → Option R} {T : St} {k : Ex → St → Option R} {r : R} (h : o_15_0 G T k = some r) : ∃ p0 p1 p2 p3, T = T_15_0 p0 p1 p2 p3 ∧ G p0 p1 p2 p3 k = some r := by
  unfold o_15_0 at h
  split at h
  · obtain ⟨hs, h'⟩ := gd_some h
    refine ⟨_, _, _, _, (st_of (asg := [(1, _), (3, _), (4, _), (5, _)]) hs ⟨by assumption, by assumption, by assumption, by assumption, trivial⟩ (by assumption)).trans ?_, h'⟩
    kernel_rfl
  · cases h
def O_15_15_0 {R : Type} : St → (Ex → St → Option R) → Option R := fun T k => o_15_0 G_15_0 T k
theorem body_15_0 {R : Type} (K0 : St → Option R) (K1 : Ex → St → Option R) (p0 : Int) (p1 : Int) (p2 : List Int) (p3 : List Int) : evLB (evCodeL sm_15 FU (ovr noO (evFn sm_15 fns FU 0)) .nil ir15_b0) (St.norm ir15_v0) (T_15_0 p0 p1 p2 p3) K0 K1 =
  bif decide (p1 < (64 : Int)) then gd (inB (IntKind.wrap IntKind.i64 (Int.tdiv p1 (2 : Int))) (32 : Nat)) (gd (decide (Int.toNat (IntKind.wrap IntKind.i64 (Int.tdiv p1 (2 : Int))) < (32 : Nat)) && true) (bif Int.tmod p1 (2 : Int) == (1 : Int) then gd (inB (IntKind.wrap IntKind.i64 (Int.tdiv p1 (2 : Int))) (32 : Nat)) (gd (decide (Int.toNat (IntKind.wrap IntKind.i64 (Int.tdiv p1 (2 : Int))) < (32 : Nat)) && true) (gd (room (List.length p3 + (1 : Nat)) (8 : Nat)) (K0 (T_15_0 (IntKind.wrap IntKind.i64 (IntKind.wrap IntKind.i64 (p0 + (15 : Int)) - IntKind.wrap IntKind.i64 (Sp.andI IntKind.u8 (List.getD p2 (Int.toNat (IntKind.wrap IntKind.i64 (Int.tdiv p1 (2 : Int)))) (0 : Int)) (15 : Int)))) (IntKind.wrap IntKind.i64 (p1 + (1 : Int))) p2 (p3 ++ [IntKind.wrap IntKind.i64 (Sp.andI IntKind.u8 (List.getD p2 (Int.toNat (IntKind.wrap IntKind.i64 (Int.tdiv p1 (2 : Int)))) (0 : Int)) (15 : Int))]))))) else gd (room (List.length p3 + (1 : Nat)) (8 : Nat)) (K0 (T_15_0 (IntKind.wrap IntKind.i64 (IntKind.wrap IntKind.i64 (p0 + (15 : Int)) - IntKind.wrap IntKind.i64 (Int.fdiv (List.getD p2 (Int.toNat (IntKind.wrap IntKind.i64 (Int.tdiv p1 (2 : Int)))) (0 : Int)) (16 : Int)))) (IntKind.wrap IntKind.i64 (p1 + (1 : Int))) p2 (p3 ++ [IntKind.wrap IntKind.i64 (Int.fdiv (List.getD p2 (Int.toNat (IntKind.wrap IntKind.i64 (Int.tdiv p1 (2 : Int)))) (0 : Int)) (16 : Int))]))))) else K1 (Ex.exit (0 : Nat)) (X_15_0_0 p0 p3) := by kernel_rfl
theorem Bgd_15_0 {R : Type} {c : Bool} {x : Option R} {y : Option Sp.E_15_0} {k0 : (Int) → (List Int) → Option R} (h : x = Sp.B_15_0 y k0) : gd c x = Sp.B_15_0 (gd c y) k0 := by cases c; rfl; exact h
theorem Bcond_15_0 {R : Type} {c : Bool} {x x' : Option R} {y y' : Option Sp.E_15_0} {k0 : (Int) → (List Int) → Option R} (h : x = Sp.B_15_0 y k0) (h' : x' = Sp.B_15_0 y' k0) : (bif c then x else x') = Sp.B_15_0 (bif c then y else y') k0 := by cases c; exact h'; exact h
theorem loop_15_0 {R : Type} (k : Ex → St → Option R) : ∀ (m : Nat) (p0 : Int) (p1 : Int) (p2 : List Int) (p3 : List Int), evLoopN (evCodeL sm_15 FU (ovr noO (evFn sm_15 fns FU 0)) .nil ir15_b0) (St.norm ir15_v0) m (T_15_0 p0 p1 p2 p3) k = Sp.B_15_0 (Sp.L_15_0 m p0 p1 p2 p3) (fun p0 p3 => k (Ex.exit (0 : Nat)) (X_15_0_0 p0 p3))
  | 0, _, _, _, _ => rfl
  | m + 1, p0, p1, p2, p3 => by
    rw [evLoopN_succ, body_15_0, Sp.L_15_0]
    repeat' first | apply Bgd_15_0 | apply Bcond_15_0 | exact loop_15_0 k m _ _ _ _ | rfl
theorem ok_15_0 {R : Type} (T : St) (k : Ex → St → Option R) (r : R) (h0 : o_15_0 G_15_0 T k = some r) : evLoopN (evCode sm_15 FU (evFn sm_15 fns FU 0) ir15_b0) (St.norm ir15_v0) FU T k = some r := by
  obtain ⟨p0, p1, p2, p3, rfl, h⟩ := o_15_0_inv h0
  refine evLoopN_L (t := .nil) noO_ok trivial _ _ _ _ ?_
  rw [loop_15_0]
  exact h
theorem OK_15_15_0 {R : Type} (T : St) (k : Ex → St → Option R) (r : R) (h : O_15_15_0 T k = some r) : evLoopN (evCode sm_15 FU (evFn sm_15 fns FU 0) ir15_b0) (St.norm ir15_v0) FU T k = some r := ok_15_0 T k r h
def F_15 (a0 : (List Int)) : Option ((List Int) × Unit) :=
  Sp.B_15_0 (Sp.L_15_0 (4611686018427387904 : Nat) (0 : Int) (0 : Int) a0 []) fun (y2 : Int) (y3 : List Int) => gd (room (List.length y3 + (3 : Nat)) (8 : Nat)) (some (y3 ++ [IntKind.wrap IntKind.i64 (Int.tdiv y2 (256 : Int)), Int.tmod (IntKind.wrap IntKind.i64 (Int.tdiv y2 (16 : Int))) (16 : Int), Int.tmod y2 (16 : Int)], PUnit.unit))
theorem fn_15 (a0 : (List Int)) : evFnL sm_15 FU (ovr noO (evFn sm_15 fns FU 0)) (ir15_t O_15_15_0) ir15 (ofH [(.arr 32 (.int .u8))] (a0, ())) [] (pureK [(.slice (.int .i64))]) = F_15 a0 := by kernel_rfl
def Sp.p_15 (a0 : (List Int)) : Bool := (F_15 a0).isSome
def Sp.v_15 (a0 : (List Int)) : (List Int) × Unit := (F_15 a0).getD (dfH [(.slice (.int .i64))])
def s_15 : Summ := shS [(.arr 32 (.int .u8))] [(.slice (.int .i64))] (fun x => Sp.p_15 x.1) (fun x => Sp.v_15 x.1)
theorem pv_15 (a0 : (List Int)) {y : (List Int) × Unit} (h : F_15 a0 = some y) : Sp.p_15 a0 = true ∧ Sp.v_15 a0 = y := ⟨by rw [Sp.p_15, h]; rfl, by rw [Sp.v_15, h]; rfl⟩
theorem run_15 (x : HDen [(.arr 32 (.int .u8))]) (y : HDen [(.slice (.int .i64))]) (h : F_15 x.1 = some y) : evFn sm_15 fns FU 1 15 (ofH [(.arr 32 (.int .u8))] x) [] (pureK [(.slice (.int .i64))]) = some y :=
  evFnL_sound (fn := ir15) (t := (ir15_t O_15_15_0)) (o := noO) rfl noO_ok (ir15_tok (fun T k r => OK_15_15_0 T k r)) ((fn_15 _).trans h)
end
end Go.Ev
namespace Go.Ev
open Go
set_option maxRecDepth 100000
set_option maxHeartbeats 4000000
set_option linter.unusedVariables false
noncomputable section

def sm_35 : Nat → Option Summ := fun f => none
def T_35_0 (p0 : List Int) (p1 : List Int) : St := St.mk [CV.pure (Ty.slice (Ty.int IntKind.u8)) p0, CV.junk, CV.junk, CV.whole (0 : Nat), CV.junk, CV.junk, CV.junk, CV.junk, CV.junk, CV.junk, CV.junk, CV.junk, CV.junk, CV.junk, CV.junk, CV.junk, CV.junk, CV.junk, CV.junk, CV.junk, CV.junk, CV.junk, CV.junk, CV.junk, CV.junk, CV.junk, CV.junk, CV.junk, CV.junk, CV.junk, CV.junk, CV.junk, CV.junk, CV.junk, CV.junk, CV.junk] [Blk.vec (5 : Nat) (Ty.int IntKind.u8) p1] (0 : Nat)
def X_35_0_0 (p0 : List Int) (p1 : List Int) : St := St.mk [CV.pure (Ty.slice (Ty.int IntKind.u8)) p0, CV.junk, CV.junk, CV.whole (0 : Nat), CV.junk, CV.junk, CV.junk, CV.junk, CV.junk, CV.junk, CV.junk, CV.junk, CV.junk, CV.junk, CV.junk, CV.junk, CV.junk, CV.junk, CV.junk, CV.junk, CV.junk, CV.junk, CV.junk, CV.junk, CV.junk, CV.junk, CV.junk, CV.junk, CV.junk, CV.junk, CV.junk, CV.junk, CV.junk, CV.junk, CV.junk, CV.junk] [Blk.vec (5 : Nat) (Ty.int IntKind.u8) p1] (0 : Nat)
inductive Sp.E_35_0 where
  | e0 (p0 : List Int) (p1 : List Int)
def Sp.B_35_0 {R : Type} (r : Option Sp.E_35_0) (k0 : (List Int) → (List Int) → Option R) : Option R := match r with
  | none => none
  | some (.e0 p0 p1) => k0 p0 p1
def Sp.L_35_0 : Nat → (List Int) → (List Int) → Option Sp.E_35_0
  | 0, _, _ => none
  | m + 1, p0, p1 => bif Int.tmod (↑(List.length p1) : Int) (64 : Int) != (56 : Int) then gd (room (List.length p1 + (1 : Nat)) (1 : Nat)) (Sp.L_35_0 m p0 (p1 ++ [(0 : Int)])) else some (Sp.E_35_0.e0 p0 p1)
def G_35_0 {R : Type} (p0 : List Int) (p1 : List Int) (k : Ex → St → Option R) : Option R := Sp.B_35_0 (Sp.L_35_0 FU p0 p1) (fun p0 p1 => k (Ex.exit (0 : Nat)) (X_35_0_0 p0 p1))
def o_35_0 {R : Type} (G : (List Int) → (List Int) → (Ex → St → Option R) → Option R) : St → (Ex → St → Option R) → Option R := fun T k => match T.sl.getD 0 .junk, T.sl.getD 3 .junk, T.hp with
  | CV.pure (Ty.slice (Ty.int IntKind.u8)) p0, CV.whole (0 : Nat), ((Blk.vec (5 : Nat) (Ty.int IntKind.u8) p1) :: []) => gd (shapeOK T 36 [0, 3] (0 : Nat)) (G p0 p1 k)
  | _, _, _ => none
theorem o_35_0_inv {R : Type} {G : (List Int) → (List Int) → (Ex → St → Option R) → Option R} {T : St} {k : Ex → St → Option R} {r : R} (h : o_35_0 G T k = some r) : ∃ p0 p1, T = T_35_0 p0 p1 ∧ G p0 p1 k = some r := by
  unfold o_35_0 at h
  split at h
  · obtain ⟨hs, h'⟩ := gd_some h
    refine ⟨_, _, (st_of (asg := [(0, _), (3, _)]) hs ⟨by assumption, by assumption, trivial⟩ (by assumption)).trans ?_, h'⟩
    kernel_rfl
  · cases h
def T_35_1 (p0 : Int) (p1 : Int) (p2 : List Int) : St := St.mk [CV.junk, CV.junk, CV.junk, CV.whole (0 : Nat), CV.int IntKind.u64 p0, CV.int IntKind.i64 p1, CV.junk, CV.junk, CV.junk, CV.junk, CV.junk, CV.junk, CV.junk, CV.junk, CV.junk, CV.junk, CV.junk, CV.junk, CV.junk, CV.junk, CV.junk, CV.junk, CV.junk, CV.junk, CV.junk, CV.junk, CV.junk, CV.junk, CV.junk, CV.junk, CV.junk, CV.junk, CV.junk, CV.junk, CV.junk, CV.junk] [Blk.vec (5 : Nat) (Ty.int IntKind.u8) p2] (0 : Nat)
def X_35_1_0 (p2 : List Int) : St := St.mk [CV.junk, CV.junk, CV.junk, CV.whole (0 : Nat), CV.junk, CV.junk, CV.junk, CV.junk, CV.junk, CV.junk, CV.junk, CV.junk, CV.junk, CV.junk, CV.junk, CV.junk, CV.junk, CV.junk, CV.junk, CV.junk, CV.junk, CV.junk, CV.junk, CV.junk, CV.junk, CV.junk, CV.junk, CV.junk, CV.junk, CV.junk, CV.junk, CV.junk, CV.junk, CV.junk, CV.junk, CV.junk] [Blk.vec (5 : Nat) (Ty.int IntKind.u8) p2] (0 : Nat)
inductive Sp.E_35_1 where
  | e0 (p2 : List Int)
def Sp.B_35_1 {R : Type} (r : Option Sp.E_35_1) (k0 : (List Int) → Option R) : Option R := match r with
  | none => none
  | some (.e0 p2) => k0 p2
def Sp.L_35_1 : Nat → (Int) → (Int) → (List Int) → Option Sp.E_35_1
  | 0, _, _, _ => none
  | m + 1, p0, p1, p2 => bif decide (p1 ≥ (0 : Int)) then gd (decide ((0 : Int) ≤ IntKind.wrap IntKind.u64 p1)) (gd (room (List.length p2 + (1 : Nat)) (1 : Nat)) (Sp.L_35_1 m p0 (IntKind.wrap IntKind.i64 (p1 - (8 : Int))) (p2 ++ [IntKind.wrap IntKind.u8 (Int.fdiv p0 ((2 : Int) ^ Nat.min (Int.toNat (IntKind.wrap IntKind.u64 p1)) (64 : Nat)))]))) else some (Sp.E_35_1.e0 p2)
def G_35_1 {R : Type} (p0 : Int) (p1 : Int) (p2 : List Int) (k : Ex → St → Option R) : Option R := Sp.B_35_1 (Sp.L_35_1 FU p0 p1 p2) (fun p2 => k (Ex.exit (2 : Nat)) (X_35_1_0 p2))
def o_35_1 {R : Type} (G : (Int) → (Int) → (List Int) → (Ex → St → Option R) → Option R) : St → (Ex → St → Option R) → Option R := fun T k => match T.sl.getD 3 .junk, T.sl.getD 4 .junk, T.sl.getD 5 .junk, T.hp with
  | CV.whole (0 : Nat), CV.int IntKind.u64 p0, CV.int IntKind.i64 p1, ((Blk.vec (5 : Nat) (Ty.int IntKind.u8) p2) :: []) => gd (shapeOK T 36 [3, 4, 5] (0 : Nat)) (G p0 p1 p2 k)
  | _, _, _, _ => none
theorem o_35_1_inv {R : Type} {G : (Int) → (Int) → (List Int) → (Ex → St → Option R) → Option R} {T : St} {k : Ex → St → Option R} {r : R} (h : o_35_1 G T k = some r) : ∃ p0 p1 p2, T = T_35_1 p0 p1 p2 ∧ G p0 p1 p2 k = some r := by
  unfold o_35_1 at h
  split at h
  · obtain ⟨hs, h'⟩ := gd_some h
    refine ⟨_, _, _, (st_of (asg := [(3, _), (4, _), (5, _)]) hs ⟨by assumption, by assumption, by assumption, trivial⟩ (by assumption)).trans ?_, h'⟩
    kernel_rfl
  · cases h
def O_35_35_0 {R : Type} : St → (Ex → St → Option R) → Option R := fun T k => o_35_0 G_35_0 T k
def O_35_35_1 {R : Type} : St → (Ex → St → Option R) → Option R := fun T k => o_35_1 G_35_1 T k
theorem body_35_0 {R : Type} (K0 : St → Option R) (K1 : Ex → St → Option R) (p0 : List Int) (p1 : List Int) : evLB (evCodeL sm_35 FU (ovr noO (evFn sm_35 fns FU 0)) .nil ir35_b0) (St.norm ir35_v0) (T_35_0 p0 p1) K0 K1 =
  bif Int.tmod (↑(List.length p1) : Int) (64 : Int) != (56 : Int) then gd (room (List.length p1 + (1 : Nat)) (1 : Nat)) (K0 (T_35_0 p0 (p1 ++ [(0 : Int)]))) else K1 (Ex.exit (0 : Nat)) (X_35_0_0 p0 p1) := by kernel_rfl
theorem Bgd_35_0 {R : Type} {c : Bool} {x : Option R} {y : Option Sp.E_35_0} {k0 : (List Int) → (List Int) → Option R} (h : x = Sp.B_35_0 y k0) : gd c x = Sp.B_35_0 (gd c y) k0 := by cases c; rfl; exact h
theorem Bcond_35_0 {R : Type} {c : Bool} {x x' : Option R} {y y' : Option Sp.E_35_0} {k0 : (List Int) → (List Int) → Option R} (h : x = Sp.B_35_0 y k0) (h' : x' = Sp.B_35_0 y' k0) : (bif c then x else x') = Sp.B_35_0 (bif c then y else y') k0 := by cases c; exact h'; exact h
theorem loop_35_0 {R : Type} (k : Ex → St → Option R) : ∀ (m : Nat) (p0 : List Int) (p1 : List Int), evLoopN (evCodeL sm_35 FU (ovr noO (evFn sm_35 fns FU 0)) .nil ir35_b0) (St.norm ir35_v0) m (T_35_0 p0 p1) k = Sp.B_35_0 (Sp.L_35_0 m p0 p1) (fun p0 p1 => k (Ex.exit (0 : Nat)) (X_35_0_0 p0 p1))
  | 0, _, _ => rfl
  | m + 1, p0, p1 => by
    rw [evLoopN_succ, body_35_0, Sp.L_35_0]
    repeat' first | apply Bgd_35_0 | apply Bcond_35_0 | exact loop_35_0 k m _ _ | rfl
theorem ok_35_0 {R : Type} (T : St) (k : Ex → St → Option R) (r : R) (h0 : o_35_0 G_35_0 T k = some r) : evLoopN (evCode sm_35 FU (evFn sm_35 fns FU 0) ir35_b0) (St.norm ir35_v0) FU T k = some r := by
  obtain ⟨p0, p1, rfl, h⟩ := o_35_0_inv h0
  refine evLoopN_L (t := .nil) noO_ok trivial _ _ _ _ ?_
  rw [loop_35_0]
  exact h
theorem OK_35_35_0 {R : Type} (T : St) (k : Ex → St → Option R) (r : R) (h : O_35_35_0 T k = some r) : evLoopN (evCode sm_35 FU (evFn sm_35 fns FU 0) ir35_b0) (St.norm ir35_v0) FU T k = some r := ok_35_0 T k r h
theorem body_35_1 {R : Type} (K0 : St → Option R) (K1 : Ex → St → Option R) (p0 : Int) (p1 : Int) (p2 : List Int) : evLB (evCodeL sm_35 FU (ovr noO (evFn sm_35 fns FU 0)) .nil ir35_b1) (St.norm ir35_v1) (T_35_1 p0 p1 p2) K0 K1 =
  bif decide (p1 ≥ (0 : Int)) then gd (decide ((0 : Int) ≤ IntKind.wrap IntKind.u64 p1)) (gd (room (List.length p2 + (1 : Nat)) (1 : Nat)) (K0 (T_35_1 p0 (IntKind.wrap IntKind.i64 (p1 - (8 : Int))) (p2 ++ [IntKind.wrap IntKind.u8 (Int.fdiv p0 ((2 : Int) ^ Nat.min (Int.toNat (IntKind.wrap IntKind.u64 p1)) (64 : Nat)))])))) else K1 (Ex.exit (2 : Nat)) (X_35_1_0 p2) := by kernel_rfl
theorem Bgd_35_1 {R : Type} {c : Bool} {x : Option R} {y : Option Sp.E_35_1} {k0 : (List Int) → Option R} (h : x = Sp.B_35_1 y k0) : gd c x = Sp.B_35_1 (gd c y) k0 := by cases c; rfl; exact h
theorem Bcond_35_1 {R : Type} {c : Bool} {x x' : Option R} {y y' : Option Sp.E_35_1} {k0 : (List Int) → Option R} (h : x = Sp.B_35_1 y k0) (h' : x' = Sp.B_35_1 y' k0) : (bif c then x else x') = Sp.B_35_1 (bif c then y else y') k0 := by cases c; exact h'; exact h
theorem loop_35_1 {R : Type} (k : Ex → St → Option R) : ∀ (m : Nat) (p0 : Int) (p1 : Int) (p2 : List Int), evLoopN (evCodeL sm_35 FU (ovr noO (evFn sm_35 fns FU 0)) .nil ir35_b1) (St.norm ir35_v1) m (T_35_1 p0 p1 p2) k = Sp.B_35_1 (Sp.L_35_1 m p0 p1 p2) (fun p2 => k (Ex.exit (2 : Nat)) (X_35_1_0 p2))
  | 0, _, _, _ => rfl
  | m + 1, p0, p1, p2 => by
    rw [evLoopN_succ, body_35_1, Sp.L_35_1]
    repeat' first | apply Bgd_35_1 | apply Bcond_35_1 | exact loop_35_1 k m _ _ _ | rfl
theorem ok_35_1 {R : Type} (T : St) (k : Ex → St → Option R) (r : R) (h0 : o_35_1 G_35_1 T k = some r) : evLoopN (evCode sm_35 FU (evFn sm_35 fns FU 0) ir35_b1) (St.norm ir35_v1) FU T k = some r := by
  obtain ⟨p0, p1, p2, rfl, h⟩ := o_35_1_inv h0
  refine evLoopN_L (t := .nil) noO_ok trivial _ _ _ _ ?_
  rw [loop_35_1]
  exact h
theorem OK_35_35_1 {R : Type} (T : St) (k : Ex → St → Option R) (r : R) (h : O_35_35_1 T k = some r) : evLoopN (evCode sm_35 FU (evFn sm_35 fns FU 0) ir35_b1) (St.norm ir35_v1) FU T k = some r := ok_35_1 T k r h
def F_35 (a0 : (List Int)) : Option ((List Int) × Unit) :=
  gd (room ((0 : Nat) + List.length a0) (1 : Nat)) (gd (room (List.length ([] ++ a0) + (1 : Nat)) (1 : Nat)) (Sp.B_35_0 (Sp.L_35_0 (4611686018427387904 : Nat) a0 ([] ++ a0 ++ [(128 : Int)])) fun (y3 y4 : List Int) => Sp.B_35_1 (Sp.L_35_1 (4611686018427387904 : Nat) (IntKind.wrap IntKind.u64 (IntKind.wrap IntKind.u64 (↑(List.length y3) : Int) * (8 : Int))) (56 : Int) y4) fun (y5 : List Int) => some (y5, PUnit.unit)))
theorem fn_35 (a0 : (List Int)) : evFnL sm_35 FU (ovr noO (evFn sm_35 fns FU 0)) (ir35_t O_35_35_0 O_35_35_1) ir35 (ofH [(.slice (.int .u8))] (a0, ())) [] (pureK [(.slice (.int .u8))]) = F_35 a0 := by kernel_rfl
def Sp.p_35 (a0 : (List Int)) : Bool := (F_35 a0).isSome
def Sp.v_35 (a0 : (List Int)) : (List Int) × Unit := (F_35 a0).getD (dfH [(.slice (.int .u8))])
def s_35 : Summ := shS [(.slice (.int .u8))] [(.slice (.int .u8))] (fun x => Sp.p_35 x.1) (fun x => Sp.v_35 x.1)
theorem pv_35 (a0 : (List Int)) {y : (List Int) × Unit} (h : F_35 a0 = some y) : Sp.p_35 a0 = true ∧ Sp.v_35 a0 = y := ⟨by rw [Sp.p_35, h]; rfl, by rw [Sp.v_35, h]; rfl⟩
theorem run_35 (x : HDen [(.slice (.int .u8))]) (y : HDen [(.slice (.int .u8))]) (h : F_35 x.1 = some y) : evFn sm_35 fns FU 1 35 (ofH [(.slice (.int .u8))] x) [] (pureK [(.slice (.int .u8))]) = some y :=
  evFnL_sound (fn := ir35) (t := (ir35_t O_35_35_0 O_35_35_1)) (o := noO) rfl noO_ok (ir35_tok (fun T k r => OK_35_35_0 T k r) (fun T k r => OK_35_35_1 T k r)) ((fn_35 _).trans h)
end
end Go.Ev
