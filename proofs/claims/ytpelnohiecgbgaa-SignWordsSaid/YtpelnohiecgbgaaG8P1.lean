/- Helpers: functions of the program as Lean functions, and what they compute. No condition. -/
import Derived.Test.YtpelnohiecgbgaaEvPart2
import Derived.Test.YtpelnohiecgbgaaG8P0
set_option maxRecDepth 10000
set_option linter.unusedVariables false
set_option linter.unusedSimpArgs false
namespace Go.Ev
open Go
set_option maxRecDepth 100000
set_option maxHeartbeats 4000000
set_option linter.unusedVariables false
noncomputable section

def sm_11 : Nat → Option Summ := fun f => bif Nat.beq f 32 then some s_32 else bif Nat.beq f 47 then some s_47 else bif Nat.beq f 49 then some s_49 else none
def T_11_33_0_0 (p0 : List Int) (p1 : Int) (p2 : List Int) (p3 : List Int) (p4 : List Int) (p5 : List Int) : St := St.mk [CV.ptr (1 : Nat) [], CV.ptr (2 : Nat) [], CV.pure (Ty.slice (Ty.int IntKind.u8)) p0, jk, jk, jk, CV.ptr (3 : Nat) [], jk, jk, jk, jk, jk, jk, jk, jk, jk, jk, jk, jk, jk, CV.int IntKind.i64 p1, jk, jk, jk, jk, jk, jk, jk, jk, jk, jk, jk, jk, jk, jk, jk, jk, jk, jk, jk, jk, jk, jk, jk, jk, jk, jk, jk, jk, jk, jk, jk, jk, jk, jk, jk, jk, jk, jk, jk, jk, jk, jk, jk, jk, jk, jk, jk, jk, jk, jk, jk, jk, jk, jk, jk, jk, jk, jk, jk, jk, jk, jk, jk, jk, jk, jk, jk, jk, jk, jk, jk, jk, jk, jk, jk, jk, jk, jk, jk, jk, jk, jk, jk, jk, jk, jk, jk, jk, jk, jk, jk, jk, jk, jk, jk, jk, jk, jk, jk, jk, jk, jk, jk, jk, jk, jk, jk, jk, jk, jk, jk, jk, jk, jk, jk, jk, jk, jk, jk, jk, jk, jk, jk, jk, jk, jk, jk, jk, jk, jk, jk, jk, jk, jk, jk, jk, jk, jk, jk, jk, jk, jk, jk, jk, jk, jk, jk, jk, jk, jk, jk, jk, jk, jk, jk] [Blk.mem (CV.pure (Ty.arr (32 : Nat) (Ty.int IntKind.u8)) p2), Blk.mem (CV.pure (Ty.arr (8 : Nat) (Ty.int IntKind.u32)) p3), Blk.mem (CV.pure (Ty.arr (64 : Nat) (Ty.int IntKind.u32)) p4), Blk.mem (CV.pure (Ty.arr (64 : Nat) (Ty.int IntKind.u32)) p5)] (3 : Nat)
def X_11_33_0_0_0 (p2 : List Int) (p3 : List Int) (p4 : List Int) (p5 : List Int) : St := St.mk [CV.ptr (1 : Nat) [], CV.ptr (2 : Nat) [], jk, jk, jk, jk, CV.ptr (3 : Nat) [], jk, jk, jk, jk, jk, jk, jk, jk, jk, jk, jk, jk, jk, jk, jk, jk, jk, jk, jk, jk, jk, jk, jk, jk, jk, jk, jk, jk, jk, jk, jk, jk, jk, jk, jk, jk, jk, jk, jk, jk, jk, jk, jk, jk, jk, jk, jk, jk, jk, jk, jk, jk, jk, jk, jk, jk, jk, jk, jk, jk, jk, jk, jk, jk, jk, jk, jk, jk, jk, jk, jk, jk, jk, jk, jk, jk, jk, jk, jk, jk, jk, jk, jk, jk, jk, jk, jk, jk, jk, jk, jk, jk, jk, jk, jk, jk, jk, jk, jk, jk, jk, jk, jk, jk, jk, jk, jk, jk, jk, jk, jk, jk, jk, jk, jk, jk, jk, jk, jk, jk, jk, jk, jk, jk, jk, jk, jk, jk, jk, jk, jk, jk, jk, jk, jk, jk, jk, jk, jk, jk, jk, jk, jk, jk, jk, jk, jk, jk, jk, jk, jk, jk, jk, jk, jk, jk, jk, jk, jk, jk, jk, jk, jk, jk, jk, jk, jk, jk, jk] [Blk.mem (CV.pure (Ty.arr (32 : Nat) (Ty.int IntKind.u8)) p2), Blk.mem (CV.pure (Ty.arr (8 : Nat) (Ty.int IntKind.u32)) p3), Blk.mem (CV.pure (Ty.arr (64 : Nat) (Ty.int IntKind.u32)) p4), Blk.mem (CV.pure (Ty.arr (64 : Nat) (Ty.int IntKind.u32)) p5)] (3 : Nat)
inductive Sp.E_11_33_0_0 where
  | e0 (p2 : List Int) (p3 : List Int) (p4 : List Int) (p5 : List Int)
def Sp.B_11_33_0_0 {R : Type} (r : Option Sp.E_11_33_0_0) (k0 : (List Int) → (List Int) → (List Int) → (List Int) → Option R) : Option R := match r with
  | none => none
  | some (.e0 p2 p3 p4 p5) => k0 p2 p3 p4 p5
def Sp.L_11_33_0_0 : Nat → (List Int) → (Int) → (List Int) → (List Int) → (List Int) → (List Int) → Option Sp.E_11_33_0_0
  | 0, _, _, _, _, _, _ => none
  | m + 1, p0, p1, p2, p3, p4, p5 => bif decide (p1 < (16 : Int)) then gd (sl3 (IntKind.wrap IntKind.i64 ((4 : Int) * p1)) (↑(List.length p0) : Int) (↑(List.length p0) : Int)) (gd (Sp.p_47 (List.drop (Int.toNat (IntKind.wrap IntKind.i64 ((4 : Int) * p1))) p0)) (gd (inB p1 (64 : Nat)) (gd (decide (Int.toNat p1 < (64 : Nat)) && true) (Sp.L_11_33_0_0 m p0 (IntKind.wrap IntKind.i64 (p1 + (1 : Int))) p2 p3 p4 (List.set p5 (Int.toNat p1) (Prod.fst (Sp.v_47 (List.drop (Int.toNat (IntKind.wrap IntKind.i64 ((4 : Int) * p1))) p0)))))))) else some (Sp.E_11_33_0_0.e0 p2 p3 p4 p5)
def G_11_33_0_0 {R : Type} (p0 : List Int) (p1 : Int) (p2 : List Int) (p3 : List Int) (p4 : List Int) (p5 : List Int) (k : Ex → St → Option R) : Option R := Sp.B_11_33_0_0 (Sp.L_11_33_0_0 FU p0 p1 p2 p3 p4 p5) (fun p2 p3 p4 p5 => k (Ex.exit (0 : Nat)) (X_11_33_0_0_0 p2 p3 p4 p5))
def m_11_33_0_0 : St → Bool := fun T => match T.sl.getD 0 .junk, T.sl.getD 1 .junk, T.sl.getD 2 .junk, T.sl.getD 6 .junk, T.sl.getD 20 .junk, T.hp with
  | CV.ptr (1 : Nat) [], CV.ptr (2 : Nat) [], CV.pure (Ty.slice (Ty.int IntKind.u8)) p0, CV.ptr (3 : Nat) [], CV.int IntKind.i64 p1, ((Blk.mem (CV.pure (Ty.arr (32 : Nat) (Ty.int IntKind.u8)) p2)) :: (Blk.mem (CV.pure (Ty.arr (8 : Nat) (Ty.int IntKind.u32)) p3)) :: (Blk.mem (CV.pure (Ty.arr (64 : Nat) (Ty.int IntKind.u32)) p4)) :: (Blk.mem (CV.pure (Ty.arr (64 : Nat) (Ty.int IntKind.u32)) p5)) :: []) => shapeOK T 176 [0, 1, 2, 6, 20] (3 : Nat)
  | _, _, _, _, _, _ => false
def o_11_33_0_0 {R : Type} (G : (List Int) → (Int) → (List Int) → (List Int) → (List Int) → (List Int) → (Ex → St → Option R) → Option R) : St → (Ex → St → Option R) → Option R := fun T k => match T.sl.getD 0 .junk, T.sl.getD 1 .junk, T.sl.getD 2 .junk, T.sl.getD 6 .junk, T.sl.getD 20 .junk, T.hp with
  | CV.ptr (1 : Nat) [], CV.ptr (2 : Nat) [], CV.pure (Ty.slice (Ty.int IntKind.u8)) p0, CV.ptr (3 : Nat) [], CV.int IntKind.i64 p1, ((Blk.mem (CV.pure (Ty.arr (32 : Nat) (Ty.int IntKind.u8)) p2)) :: (Blk.mem (CV.pure (Ty.arr (8 : Nat) (Ty.int IntKind.u32)) p3)) :: (Blk.mem (CV.pure (Ty.arr (64 : Nat) (Ty.int IntKind.u32)) p4)) :: (Blk.mem (CV.pure (Ty.arr (64 : Nat) (Ty.int IntKind.u32)) p5)) :: []) => gd (shapeOK T 176 [0, 1, 2, 6, 20] (3 : Nat)) (G p0 p1 p2 p3 p4 p5 k)
  | _, _, _, _, _, _ => none
theorem o_11_33_0_0_inv {R : Type} {G : (List Int) → (Int) → (List Int) → (List Int) → (List Int) → (List Int) → (Ex → St → Option R) → Option R} {T : St} {k : Ex → St → Option R} {r : R} (h : o_11_33_0_0 G T k = some r) : ∃ p0 p1 p2 p3 p4 p5, T = T_11_33_0_0 p0 p1 p2 p3 p4 p5 ∧ G p0 p1 p2 p3 p4 p5 k = some r := by
  unfold o_11_33_0_0 at h
  split at h
  · obtain ⟨hs, h'⟩ := gd_some h
    refine ⟨_, _, _, _, _, _, (st_of (asg := [(0, _), (1, _), (2, _), (6, _), (20, _)]) hs ⟨by assumption, by assumption, by assumption, by assumption, by assumption, trivial⟩ (by assumption)).trans ?_, h'⟩
    kernel_rfl
  · cases h
def T_11_33_1_0 (p0 : Int) (p1 : List Int) (p2 : List Int) (p3 : List Int) (p4 : List Int) : St := St.mk [CV.ptr (1 : Nat) [], CV.ptr (2 : Nat) [], jk, jk, jk, jk, CV.ptr (3 : Nat) [], jk, CV.int IntKind.i64 p0, jk, jk, jk, jk, jk, jk, jk, jk, jk, jk, jk, jk, jk, jk, jk, jk, jk, jk, jk, jk, jk, jk, jk, jk, jk, jk, jk, jk, jk, jk, jk, jk, jk, jk, jk, jk, jk, jk, jk, jk, jk, jk, jk, jk, jk, jk, jk, jk, jk, jk, jk, jk, jk, jk, jk, jk, jk, jk, jk, jk, jk, jk, jk, jk, jk, jk, jk, jk, jk, jk, jk, jk, jk, jk, jk, jk, jk, jk, jk, jk, jk, jk, jk, jk, jk, jk, jk, jk, jk, jk, jk, jk, jk, jk, jk, jk, jk, jk, jk, jk, jk, jk, jk, jk, jk, jk, jk, jk, jk, jk, jk, jk, jk, jk, jk, jk, jk, jk, jk, jk, jk, jk, jk, jk, jk, jk, jk, jk, jk, jk, jk, jk, jk, jk, jk, jk, jk, jk, jk, jk, jk, jk, jk, jk, jk, jk, jk, jk, jk, jk, jk, jk, jk, jk, jk, jk, jk, jk, jk, jk, jk, jk, jk, jk, jk, jk, jk] [Blk.mem (CV.pure (Ty.arr (32 : Nat) (Ty.int IntKind.u8)) p1), Blk.mem (CV.pure (Ty.arr (8 : Nat) (Ty.int IntKind.u32)) p2), Blk.mem (CV.pure (Ty.arr (64 : Nat) (Ty.int IntKind.u32)) p3), Blk.mem (CV.pure (Ty.arr (64 : Nat) (Ty.int IntKind.u32)) p4)] (3 : Nat)
def X_11_33_1_0_0 (p1 : List Int) (p2 : List Int) (p3 : List Int) (p4 : List Int) : St := St.mk [CV.ptr (1 : Nat) [], CV.ptr (2 : Nat) [], jk, jk, jk, jk, CV.ptr (3 : Nat) [], jk, jk, jk, jk, jk, jk, jk, jk, jk, jk, jk, jk, jk, jk, jk, jk, jk, jk, jk, jk, jk, jk, jk, jk, jk, jk, jk, jk, jk, jk, jk, jk, jk, jk, jk, jk, jk, jk, jk, jk, jk, jk, jk, jk, jk, jk, jk, jk, jk, jk, jk, jk, jk, jk, jk, jk, jk, jk, jk, jk, jk, jk, jk, jk, jk, jk, jk, jk, jk, jk, jk, jk, jk, jk, jk, jk, jk, jk, jk, jk, jk, jk, jk, jk, jk, jk, jk, jk, jk, jk, jk, jk, jk, jk, jk, jk, jk, jk, jk, jk, jk, jk, jk, jk, jk, jk, jk, jk, jk, jk, jk, jk, jk, jk, jk, jk, jk, jk, jk, jk, jk, jk, jk, jk, jk, jk, jk, jk, jk, jk, jk, jk, jk, jk, jk, jk, jk, jk, jk, jk, jk, jk, jk, jk, jk, jk, jk, jk, jk, jk, jk, jk, jk, jk, jk, jk, jk, jk, jk, jk, jk, jk, jk, jk, jk, jk, jk, jk, jk] [Blk.mem (CV.pure (Ty.arr (32 : Nat) (Ty.int IntKind.u8)) p1), Blk.mem (CV.pure (Ty.arr (8 : Nat) (Ty.int IntKind.u32)) p2), Blk.mem (CV.pure (Ty.arr (64 : Nat) (Ty.int IntKind.u32)) p3), Blk.mem (CV.pure (Ty.arr (64 : Nat) (Ty.int IntKind.u32)) p4)] (3 : Nat)
inductive Sp.E_11_33_1_0 where
  | e0 (p1 : List Int) (p2 : List Int) (p3 : List Int) (p4 : List Int)
def Sp.B_11_33_1_0 {R : Type} (r : Option Sp.E_11_33_1_0) (k0 : (List Int) → (List Int) → (List Int) → (List Int) → Option R) : Option R := match r with
  | none => none
  | some (.e0 p1 p2 p3 p4) => k0 p1 p2 p3 p4
def Sp.L_11_33_1_0 : Nat → (Int) → (List Int) → (List Int) → (List Int) → (List Int) → Option Sp.E_11_33_1_0
  | 0, _, _, _, _, _ => none
  | m + 1, p0, p1, p2, p3, p4 => bif decide (p0 < (64 : Int)) then gd (inB (IntKind.wrap IntKind.i64 (p0 - (15 : Int))) (64 : Nat)) (gd (decide (Int.toNat (IntKind.wrap IntKind.i64 (p0 - (15 : Int))) < (64 : Nat)) && true) (gd (inB (IntKind.wrap IntKind.i64 (p0 - (2 : Int))) (64 : Nat)) (gd (decide (Int.toNat (IntKind.wrap IntKind.i64 (p0 - (2 : Int))) < (64 : Nat)) && true) (gd (Sp.p_49 (List.getD p4 (Int.toNat (IntKind.wrap IntKind.i64 (p0 - (15 : Int)))) (0 : Int)) (7 : Int)) (gd (Sp.p_49 (List.getD p4 (Int.toNat (IntKind.wrap IntKind.i64 (p0 - (15 : Int)))) (0 : Int)) (18 : Int)) (gd (Sp.p_49 (List.getD p4 (Int.toNat (IntKind.wrap IntKind.i64 (p0 - (2 : Int)))) (0 : Int)) (17 : Int)) (gd (Sp.p_49 (List.getD p4 (Int.toNat (IntKind.wrap IntKind.i64 (p0 - (2 : Int)))) (0 : Int)) (19 : Int)) (gd (inB (IntKind.wrap IntKind.i64 (p0 - (7 : Int))) (64 : Nat)) (gd (decide (Int.toNat (IntKind.wrap IntKind.i64 (p0 - (7 : Int))) < (64 : Nat)) && true) (gd (inB (IntKind.wrap IntKind.i64 (p0 - (16 : Int))) (64 : Nat)) (gd (decide (Int.toNat (IntKind.wrap IntKind.i64 (p0 - (16 : Int))) < (64 : Nat)) && true) (gd (inB p0 (64 : Nat)) (gd (decide (Int.toNat p0 < (64 : Nat)) && true) (Sp.L_11_33_1_0 m (IntKind.wrap IntKind.i64 (p0 + (1 : Int))) p1 p2 p3 (List.set p4 (Int.toNat p0) (IntKind.wrap IntKind.u32 (IntKind.wrap IntKind.u32 (IntKind.wrap IntKind.u32 (Sp.xorI IntKind.u32 (Sp.xorI IntKind.u32 (Prod.fst (Sp.v_49 (List.getD p4 (Int.toNat (IntKind.wrap IntKind.i64 (p0 - (2 : Int)))) (0 : Int)) (17 : Int))) (Prod.fst (Sp.v_49 (List.getD p4 (Int.toNat (IntKind.wrap IntKind.i64 (p0 - (2 : Int)))) (0 : Int)) (19 : Int)))) (Int.fdiv (List.getD p4 (Int.toNat (IntKind.wrap IntKind.i64 (p0 - (2 : Int)))) (0 : Int)) (1024 : Int)) + List.getD p4 (Int.toNat (IntKind.wrap IntKind.i64 (p0 - (7 : Int)))) (0 : Int)) + Sp.xorI IntKind.u32 (Sp.xorI IntKind.u32 (Prod.fst (Sp.v_49 (List.getD p4 (Int.toNat (IntKind.wrap IntKind.i64 (p0 - (15 : Int)))) (0 : Int)) (7 : Int))) (Prod.fst (Sp.v_49 (List.getD p4 (Int.toNat (IntKind.wrap IntKind.i64 (p0 - (15 : Int)))) (0 : Int)) (18 : Int)))) (Int.fdiv (List.getD p4 (Int.toNat (IntKind.wrap IntKind.i64 (p0 - (15 : Int)))) (0 : Int)) (8 : Int))) + List.getD p4 (Int.toNat (IntKind.wrap IntKind.i64 (p0 - (16 : Int)))) (0 : Int)))))))))))))))))) else some (Sp.E_11_33_1_0.e0 p1 p2 p3 p4)
def G_11_33_1_0 {R : Type} (p0 : Int) (p1 : List Int) (p2 : List Int) (p3 : List Int) (p4 : List Int) (k : Ex → St → Option R) : Option R := Sp.B_11_33_1_0 (Sp.L_11_33_1_0 FU p0 p1 p2 p3 p4) (fun p1 p2 p3 p4 => k (Ex.exit (2 : Nat)) (X_11_33_1_0_0 p1 p2 p3 p4))
def m_11_33_1_0 : St → Bool := fun T => match T.sl.getD 0 .junk, T.sl.getD 1 .junk, T.sl.getD 6 .junk, T.sl.getD 8 .junk, T.hp with
  | CV.ptr (1 : Nat) [], CV.ptr (2 : Nat) [], CV.ptr (3 : Nat) [], CV.int IntKind.i64 p0, ((Blk.mem (CV.pure (Ty.arr (32 : Nat) (Ty.int IntKind.u8)) p1)) :: (Blk.mem (CV.pure (Ty.arr (8 : Nat) (Ty.int IntKind.u32)) p2)) :: (Blk.mem (CV.pure (Ty.arr (64 : Nat) (Ty.int IntKind.u32)) p3)) :: (Blk.mem (CV.pure (Ty.arr (64 : Nat) (Ty.int IntKind.u32)) p4)) :: []) => shapeOK T 176 [0, 1, 6, 8] (3 : Nat)
  | _, _, _, _, _ => false
def o_11_33_1_0 {R : Type} (G : (Int) → (List Int) → (List Int) → (List Int) → (List Int) → (Ex → St → Option R) → Option R) : St → (Ex → St → Option R) → Option R := fun T k => match T.sl.getD 0 .junk, T.sl.getD 1 .junk, T.sl.getD 6 .junk, T.sl.getD 8 .junk, T.hp with
  | CV.ptr (1 : Nat) [], CV.ptr (2 : Nat) [], CV.ptr (3 : Nat) [], CV.int IntKind.i64 p0, ((Blk.mem (CV.pure (Ty.arr (32 : Nat) (Ty.int IntKind.u8)) p1)) :: (Blk.mem (CV.pure (Ty.arr (8 : Nat) (Ty.int IntKind.u32)) p2)) :: (Blk.mem (CV.pure (Ty.arr (64 : Nat) (Ty.int IntKind.u32)) p3)) :: (Blk.mem (CV.pure (Ty.arr (64 : Nat) (Ty.int IntKind.u32)) p4)) :: []) => gd (shapeOK T 176 [0, 1, 6, 8] (3 : Nat)) (G p0 p1 p2 p3 p4 k)
  | _, _, _, _, _ => none
theorem o_11_33_1_0_inv {R : Type} {G : (Int) → (List Int) → (List Int) → (List Int) → (List Int) → (Ex → St → Option R) → Option R} {T : St} {k : Ex → St → Option R} {r : R} (h : o_11_33_1_0 G T k = some r) : ∃ p0 p1 p2 p3 p4, T = T_11_33_1_0 p0 p1 p2 p3 p4 ∧ G p0 p1 p2 p3 p4 k = some r := by
  unfold o_11_33_1_0 at h
  split at h
  · obtain ⟨hs, h'⟩ := gd_some h
    refine ⟨_, _, _, _, _, (st_of (asg := [(0, _), (1, _), (6, _), (8, _)]) hs ⟨by assumption, by assumption, by assumption, by assumption, trivial⟩ (by assumption)).trans ?_, h'⟩
    kernel_rfl
  · cases h
def T_11_33_2_0 (p0 : Int) (p1 : List Int) (p2 : List Int) (p3 : List Int) (p4 : List Int) (p5 : List Int) : St := St.mk [CV.ptr (1 : Nat) [], CV.ptr (2 : Nat) [], jk, jk, jk, jk, CV.ptr (3 : Nat) [], jk, jk, jk, jk, jk, jk, CV.ptr (4 : Nat) [], jk, jk, jk, jk, jk, jk, jk, jk, jk, jk, jk, jk, jk, jk, jk, jk, jk, jk, jk, jk, jk, jk, jk, jk, jk, jk, jk, jk, jk, jk, jk, jk, jk, jk, jk, jk, jk, jk, jk, jk, jk, jk, jk, jk, jk, jk, jk, jk, jk, jk, jk, jk, jk, jk, jk, jk, jk, jk, jk, jk, jk, jk, jk, CV.int IntKind.i64 p0, jk, jk, jk, jk, jk, jk, jk, jk, jk, jk, jk, jk, jk, jk, jk, jk, jk, jk, jk, jk, jk, jk, jk, jk, jk, jk, jk, jk, jk, jk, jk, jk, jk, jk, jk, jk, jk, jk, jk, jk, jk, jk, jk, jk, jk, jk, jk, jk, jk, jk, jk, jk, jk, jk, jk, jk, jk, jk, jk, jk, jk, jk, jk, jk, jk, jk, jk, jk, jk, jk, jk, jk, jk, jk, jk, jk, jk, jk, jk, jk, jk, jk, jk, jk, jk, jk, jk, jk, jk, jk, jk, jk, jk, jk, jk, jk, jk, jk] [Blk.mem (CV.pure (Ty.arr (32 : Nat) (Ty.int IntKind.u8)) p1), Blk.mem (CV.pure (Ty.arr (8 : Nat) (Ty.int IntKind.u32)) p2), Blk.mem (CV.pure (Ty.arr (64 : Nat) (Ty.int IntKind.u32)) p3), Blk.mem (CV.pure (Ty.arr (64 : Nat) (Ty.int IntKind.u32)) p4), Blk.mem (CV.pure (Ty.arr (8 : Nat) (Ty.int IntKind.u32)) p5)] (3 : Nat)
def X_11_33_2_0_0 (p1 : List Int) (p2 : List Int) (p3 : List Int) (p5 : List Int) : St := St.mk [CV.ptr (1 : Nat) [], jk, jk, jk, jk, jk, jk, jk, jk, jk, jk, jk, jk, CV.ptr (3 : Nat) [], jk, jk, jk, jk, jk, jk, jk, jk, jk, jk, jk, jk, jk, jk, jk, jk, jk, jk, jk, jk, jk, jk, jk, jk, jk, jk, jk, jk, jk, jk, jk, jk, jk, jk, jk, jk, jk, jk, jk, jk, jk, jk, jk, jk, jk, jk, jk, jk, jk, jk, jk, jk, jk, jk, jk, jk, jk, jk, jk, jk, jk, jk, jk, jk, jk, jk, jk, jk, jk, jk, jk, jk, jk, jk, jk, jk, jk, jk, jk, jk, jk, jk, jk, jk, jk, jk, jk, jk, jk, jk, jk, jk, jk, jk, jk, jk, jk, jk, jk, jk, jk, jk, jk, jk, jk, jk, jk, jk, jk, jk, jk, jk, jk, jk, jk, jk, jk, jk, jk, jk, jk, jk, jk, jk, jk, jk, jk, jk, jk, jk, jk, jk, jk, jk, jk, jk, jk, jk, jk, jk, jk, jk, jk, jk, jk, jk, jk, jk, jk, jk, jk, jk, jk, jk, jk, jk, jk, jk, jk, jk, jk, jk] [Blk.mem (CV.pure (Ty.arr (32 : Nat) (Ty.int IntKind.u8)) p1), Blk.mem (CV.pure (Ty.arr (8 : Nat) (Ty.int IntKind.u32)) p2), Blk.mem (CV.pure (Ty.arr (64 : Nat) (Ty.int IntKind.u32)) p3), Blk.mem (CV.pure (Ty.arr (8 : Nat) (Ty.int IntKind.u32)) p5)] (3 : Nat)
inductive Sp.E_11_33_2_0 where
  | e0 (p1 : List Int) (p2 : List Int) (p3 : List Int) (p5 : List Int)
def Sp.B_11_33_2_0 {R : Type} (r : Option Sp.E_11_33_2_0) (k0 : (List Int) → (List Int) → (List Int) → (List Int) → Option R) : Option R := match r with
  | none => none
  | some (.e0 p1 p2 p3 p5) => k0 p1 p2 p3 p5
def Sp.L_11_33_2_0 : Nat → (Int) → (List Int) → (List Int) → (List Int) → (List Int) → (List Int) → Option Sp.E_11_33_2_0
  | 0, _, _, _, _, _, _ => none
  | m + 1, p0, p1, p2, p3, p4, p5 => bif decide (p0 < (64 : Int)) then gd (Sp.p_49 (List.getD p5 (4 : Nat) (0 : Int)) (6 : Int)) (gd (Sp.p_49 (List.getD p5 (4 : Nat) (0 : Int)) (11 : Int)) (gd (Sp.p_49 (List.getD p5 (4 : Nat) (0 : Int)) (25 : Int)) (gd (inB p0 (64 : Nat)) (gd (decide (Int.toNat p0 < (64 : Nat)) && true) (gd (inB p0 (64 : Nat)) (gd (decide (Int.toNat p0 < (64 : Nat)) && true) (gd (Sp.p_49 (List.getD p5 (0 : Nat) (0 : Int)) (2 : Int)) (gd (Sp.p_49 (List.getD p5 (0 : Nat) (0 : Int)) (13 : Int)) (gd (Sp.p_49 (List.getD p5 (0 : Nat) (0 : Int)) (22 : Int)) (Sp.L_11_33_2_0 m (IntKind.wrap IntKind.i64 (p0 + (1 : Int))) p1 p2 p3 p4 [IntKind.wrap IntKind.u32 (IntKind.wrap IntKind.u32 (IntKind.wrap IntKind.u32 (IntKind.wrap IntKind.u32 (IntKind.wrap IntKind.u32 (List.getD p5 (7 : Nat) (0 : Int) + Sp.xorI IntKind.u32 (Sp.xorI IntKind.u32 (Prod.fst (Sp.v_49 (List.getD p5 (4 : Nat) (0 : Int)) (6 : Int))) (Prod.fst (Sp.v_49 (List.getD p5 (4 : Nat) (0 : Int)) (11 : Int)))) (Prod.fst (Sp.v_49 (List.getD p5 (4 : Nat) (0 : Int)) (25 : Int)))) + Sp.xorI IntKind.u32 (Sp.andI IntKind.u32 (List.getD p5 (4 : Nat) (0 : Int)) (List.getD p5 (5 : Nat) (0 : Int))) (Sp.andI IntKind.u32 (Sp.xorI IntKind.u32 (4294967295 : Int) (List.getD p5 (4 : Nat) (0 : Int))) (List.getD p5 (6 : Nat) (0 : Int)))) + List.getD p3 (Int.toNat p0) (0 : Int)) + List.getD p4 (Int.toNat p0) (0 : Int)) + IntKind.wrap IntKind.u32 (Sp.xorI IntKind.u32 (Sp.xorI IntKind.u32 (Prod.fst (Sp.v_49 (List.getD p5 (0 : Nat) (0 : Int)) (2 : Int))) (Prod.fst (Sp.v_49 (List.getD p5 (0 : Nat) (0 : Int)) (13 : Int)))) (Prod.fst (Sp.v_49 (List.getD p5 (0 : Nat) (0 : Int)) (22 : Int))) + Sp.xorI IntKind.u32 (Sp.xorI IntKind.u32 (Sp.andI IntKind.u32 (List.getD p5 (0 : Nat) (0 : Int)) (List.getD p5 (1 : Nat) (0 : Int))) (Sp.andI IntKind.u32 (List.getD p5 (0 : Nat) (0 : Int)) (List.getD p5 (2 : Nat) (0 : Int)))) (Sp.andI IntKind.u32 (List.getD p5 (1 : Nat) (0 : Int)) (List.getD p5 (2 : Nat) (0 : Int))))), List.getD p5 (0 : Nat) (0 : Int), List.getD p5 (1 : Nat) (0 : Int), List.getD p5 (2 : Nat) (0 : Int), IntKind.wrap IntKind.u32 (List.getD p5 (3 : Nat) (0 : Int) + IntKind.wrap IntKind.u32 (IntKind.wrap IntKind.u32 (IntKind.wrap IntKind.u32 (IntKind.wrap IntKind.u32 (List.getD p5 (7 : Nat) (0 : Int) + Sp.xorI IntKind.u32 (Sp.xorI IntKind.u32 (Prod.fst (Sp.v_49 (List.getD p5 (4 : Nat) (0 : Int)) (6 : Int))) (Prod.fst (Sp.v_49 (List.getD p5 (4 : Nat) (0 : Int)) (11 : Int)))) (Prod.fst (Sp.v_49 (List.getD p5 (4 : Nat) (0 : Int)) (25 : Int)))) + Sp.xorI IntKind.u32 (Sp.andI IntKind.u32 (List.getD p5 (4 : Nat) (0 : Int)) (List.getD p5 (5 : Nat) (0 : Int))) (Sp.andI IntKind.u32 (Sp.xorI IntKind.u32 (4294967295 : Int) (List.getD p5 (4 : Nat) (0 : Int))) (List.getD p5 (6 : Nat) (0 : Int)))) + List.getD p3 (Int.toNat p0) (0 : Int)) + List.getD p4 (Int.toNat p0) (0 : Int))), List.getD p5 (4 : Nat) (0 : Int), List.getD p5 (5 : Nat) (0 : Int), List.getD p5 (6 : Nat) (0 : Int)])))))))))) else some (Sp.E_11_33_2_0.e0 p1 p2 p3 p5)
def G_11_33_2_0 {R : Type} (p0 : Int) (p1 : List Int) (p2 : List Int) (p3 : List Int) (p4 : List Int) (p5 : List Int) (k : Ex → St → Option R) : Option R := Sp.B_11_33_2_0 (Sp.L_11_33_2_0 FU p0 p1 p2 p3 p4 p5) (fun p1 p2 p3 p5 => k (Ex.exit (4 : Nat)) (X_11_33_2_0_0 p1 p2 p3 p5))
def m_11_33_2_0 : St → Bool := fun T => match T.sl.getD 0 .junk, T.sl.getD 1 .junk, T.sl.getD 6 .junk, T.sl.getD 13 .junk, T.sl.getD 77 .junk, T.hp with
  | CV.ptr (1 : Nat) [], CV.ptr (2 : Nat) [], CV.ptr (3 : Nat) [], CV.ptr (4 : Nat) [], CV.int IntKind.i64 p0, ((Blk.mem (CV.pure (Ty.arr (32 : Nat) (Ty.int IntKind.u8)) p1)) :: (Blk.mem (CV.pure (Ty.arr (8 : Nat) (Ty.int IntKind.u32)) p2)) :: (Blk.mem (CV.pure (Ty.arr (64 : Nat) (Ty.int IntKind.u32)) p3)) :: (Blk.mem (CV.pure (Ty.arr (64 : Nat) (Ty.int IntKind.u32)) p4)) :: (Blk.mem (CV.pure (Ty.arr (8 : Nat) (Ty.int IntKind.u32)) p5)) :: []) => shapeOK T 176 [0, 1, 6, 13, 77] (3 : Nat)
  | _, _, _, _, _, _ => false
def o_11_33_2_0 {R : Type} (G : (Int) → (List Int) → (List Int) → (List Int) → (List Int) → (List Int) → (Ex → St → Option R) → Option R) : St → (Ex → St → Option R) → Option R := fun T k => match T.sl.getD 0 .junk, T.sl.getD 1 .junk, T.sl.getD 6 .junk, T.sl.getD 13 .junk, T.sl.getD 77 .junk, T.hp with
  | CV.ptr (1 : Nat) [], CV.ptr (2 : Nat) [], CV.ptr (3 : Nat) [], CV.ptr (4 : Nat) [], CV.int IntKind.i64 p0, ((Blk.mem (CV.pure (Ty.arr (32 : Nat) (Ty.int IntKind.u8)) p1)) :: (Blk.mem (CV.pure (Ty.arr (8 : Nat) (Ty.int IntKind.u32)) p2)) :: (Blk.mem (CV.pure (Ty.arr (64 : Nat) (Ty.int IntKind.u32)) p3)) :: (Blk.mem (CV.pure (Ty.arr (64 : Nat) (Ty.int IntKind.u32)) p4)) :: (Blk.mem (CV.pure (Ty.arr (8 : Nat) (Ty.int IntKind.u32)) p5)) :: []) => gd (shapeOK T 176 [0, 1, 6, 13, 77] (3 : Nat)) (G p0 p1 p2 p3 p4 p5 k)
  | _, _, _, _, _, _ => none
theorem o_11_33_2_0_inv {R : Type} {G : (Int) → (List Int) → (List Int) → (List Int) → (List Int) → (List Int) → (Ex → St → Option R) → Option R} {T : St} {k : Ex → St → Option R} {r : R} (h : o_11_33_2_0 G T k = some r) : ∃ p0 p1 p2 p3 p4 p5, T = T_11_33_2_0 p0 p1 p2 p3 p4 p5 ∧ G p0 p1 p2 p3 p4 p5 k = some r := by
  unfold o_11_33_2_0 at h
  split at h
  · obtain ⟨hs, h'⟩ := gd_some h
    refine ⟨_, _, _, _, _, _, (st_of (asg := [(0, _), (1, _), (6, _), (13, _), (77, _)]) hs ⟨by assumption, by assumption, by assumption, by assumption, by assumption, trivial⟩ (by assumption)).trans ?_, h'⟩
    kernel_rfl
  · cases h
def T_11_33_3_0 (p0 : Int) (p1 : List Int) (p2 : List Int) (p3 : List Int) (p4 : List Int) : St := St.mk [CV.ptr (1 : Nat) [], jk, jk, jk, jk, jk, jk, jk, jk, jk, jk, jk, jk, CV.ptr (3 : Nat) [], jk, jk, jk, jk, jk, jk, jk, jk, jk, jk, jk, jk, jk, jk, jk, jk, jk, jk, jk, jk, jk, jk, jk, jk, jk, jk, jk, jk, jk, jk, jk, jk, jk, jk, jk, jk, jk, jk, jk, jk, jk, jk, jk, jk, jk, jk, jk, jk, jk, jk, jk, jk, jk, jk, jk, jk, jk, jk, jk, jk, jk, jk, jk, jk, jk, jk, jk, jk, jk, jk, jk, jk, jk, jk, jk, jk, jk, jk, jk, jk, jk, jk, jk, jk, jk, jk, jk, jk, jk, jk, jk, jk, jk, jk, jk, jk, jk, jk, jk, jk, jk, jk, jk, jk, jk, jk, jk, jk, jk, jk, jk, jk, jk, jk, jk, jk, jk, jk, jk, jk, jk, jk, jk, jk, jk, jk, jk, jk, jk, jk, jk, jk, jk, jk, jk, jk, jk, jk, jk, jk, jk, jk, jk, jk, jk, jk, jk, CV.int IntKind.i64 p0, jk, jk, jk, jk, jk, jk, jk, jk, jk, jk, jk, jk, jk, jk] [Blk.mem (CV.pure (Ty.arr (32 : Nat) (Ty.int IntKind.u8)) p1), Blk.mem (CV.pure (Ty.arr (8 : Nat) (Ty.int IntKind.u32)) p2), Blk.mem (CV.pure (Ty.arr (64 : Nat) (Ty.int IntKind.u32)) p3), Blk.mem (CV.pure (Ty.arr (8 : Nat) (Ty.int IntKind.u32)) p4)] (3 : Nat)
def X_11_33_3_0_0 (p1 : List Int) (p2 : List Int) (p3 : List Int) : St := St.mk [jk, jk, jk, jk, jk, jk, jk, jk, jk, jk, jk, jk, jk, jk, jk, jk, jk, jk, jk, jk, jk, jk, jk, jk, jk, jk, jk, jk, jk, jk, jk, jk, jk, jk, jk, jk, jk, jk, jk, jk, jk, jk, jk, jk, jk, jk, jk, jk, jk, jk, jk, jk, jk, jk, jk, jk, jk, jk, jk, jk, jk, jk, jk, jk, jk, jk, jk, jk, jk, jk, jk, jk, jk, jk, jk, jk, jk, jk, jk, jk, jk, jk, jk, jk, jk, jk, jk, jk, jk, jk, jk, jk, jk, jk, jk, jk, jk, jk, jk, jk, jk, jk, jk, jk, jk, jk, jk, jk, jk, jk, jk, jk, jk, jk, jk, jk, jk, jk, jk, jk, jk, jk, jk, jk, jk, jk, jk, jk, jk, jk, jk, jk, jk, jk, jk, jk, jk, jk, jk, jk, jk, jk, jk, jk, jk, jk, jk, jk, jk, jk, jk, jk, jk, jk, jk, jk, jk, jk, jk, jk, jk, jk, jk, jk, jk, jk, jk, jk, jk, jk, jk, jk, jk, jk, jk, jk] [Blk.mem (CV.pure (Ty.arr (32 : Nat) (Ty.int IntKind.u8)) p1), Blk.mem (CV.pure (Ty.arr (8 : Nat) (Ty.int IntKind.u32)) p2), Blk.mem (CV.pure (Ty.arr (64 : Nat) (Ty.int IntKind.u32)) p3)] (3 : Nat)
inductive Sp.E_11_33_3_0 where
  | e0 (p1 : List Int) (p2 : List Int) (p3 : List Int)
def Sp.B_11_33_3_0 {R : Type} (r : Option Sp.E_11_33_3_0) (k0 : (List Int) → (List Int) → (List Int) → Option R) : Option R := match r with
  | none => none
  | some (.e0 p1 p2 p3) => k0 p1 p2 p3
def Sp.L_11_33_3_0 : Nat → (Int) → (List Int) → (List Int) → (List Int) → (List Int) → Option Sp.E_11_33_3_0
  | 0, _, _, _, _, _ => none
  | m + 1, p0, p1, p2, p3, p4 => bif decide (p0 < (8 : Int)) then gd (inB p0 (8 : Nat)) (gd (decide (Int.toNat p0 < (8 : Nat)) && true) (gd (inB p0 (8 : Nat)) (gd (decide (Int.toNat p0 < (8 : Nat)) && true) (gd (inB p0 (8 : Nat)) (gd (decide (Int.toNat p0 < (8 : Nat)) && true) (Sp.L_11_33_3_0 m (IntKind.wrap IntKind.i64 (p0 + (1 : Int))) p1 (List.set p2 (Int.toNat p0) (IntKind.wrap IntKind.u32 (List.getD p2 (Int.toNat p0) (0 : Int) + List.getD p4 (Int.toNat p0) (0 : Int)))) p3 p4)))))) else some (Sp.E_11_33_3_0.e0 p1 p2 p3)
def G_11_33_3_0 {R : Type} (p0 : Int) (p1 : List Int) (p2 : List Int) (p3 : List Int) (p4 : List Int) (k : Ex → St → Option R) : Option R := Sp.B_11_33_3_0 (Sp.L_11_33_3_0 FU p0 p1 p2 p3 p4) (fun p1 p2 p3 => k (Ex.exit (6 : Nat)) (X_11_33_3_0_0 p1 p2 p3))
def m_11_33_3_0 : St → Bool := fun T => match T.sl.getD 0 .junk, T.sl.getD 13 .junk, T.sl.getD 161 .junk, T.hp with
  | CV.ptr (1 : Nat) [], CV.ptr (3 : Nat) [], CV.int IntKind.i64 p0, ((Blk.mem (CV.pure (Ty.arr (32 : Nat) (Ty.int IntKind.u8)) p1)) :: (Blk.mem (CV.pure (Ty.arr (8 : Nat) (Ty.int IntKind.u32)) p2)) :: (Blk.mem (CV.pure (Ty.arr (64 : Nat) (Ty.int IntKind.u32)) p3)) :: (Blk.mem (CV.pure (Ty.arr (8 : Nat) (Ty.int IntKind.u32)) p4)) :: []) => shapeOK T 176 [0, 13, 161] (3 : Nat)
  | _, _, _, _ => false
def o_11_33_3_0 {R : Type} (G : (Int) → (List Int) → (List Int) → (List Int) → (List Int) → (Ex → St → Option R) → Option R) : St → (Ex → St → Option R) → Option R := fun T k => match T.sl.getD 0 .junk, T.sl.getD 13 .junk, T.sl.getD 161 .junk, T.hp with
  | CV.ptr (1 : Nat) [], CV.ptr (3 : Nat) [], CV.int IntKind.i64 p0, ((Blk.mem (CV.pure (Ty.arr (32 : Nat) (Ty.int IntKind.u8)) p1)) :: (Blk.mem (CV.pure (Ty.arr (8 : Nat) (Ty.int IntKind.u32)) p2)) :: (Blk.mem (CV.pure (Ty.arr (64 : Nat) (Ty.int IntKind.u32)) p3)) :: (Blk.mem (CV.pure (Ty.arr (8 : Nat) (Ty.int IntKind.u32)) p4)) :: []) => gd (shapeOK T 176 [0, 13, 161] (3 : Nat)) (G p0 p1 p2 p3 p4 k)
  | _, _, _, _ => none
theorem o_11_33_3_0_inv {R : Type} {G : (Int) → (List Int) → (List Int) → (List Int) → (List Int) → (Ex → St → Option R) → Option R} {T : St} {k : Ex → St → Option R} {r : R} (h : o_11_33_3_0 G T k = some r) : ∃ p0 p1 p2 p3 p4, T = T_11_33_3_0 p0 p1 p2 p3 p4 ∧ G p0 p1 p2 p3 p4 k = some r := by
  unfold o_11_33_3_0 at h
  split at h
  · obtain ⟨hs, h'⟩ := gd_some h
    refine ⟨_, _, _, _, _, (st_of (asg := [(0, _), (13, _), (161, _)]) hs ⟨by assumption, by assumption, by assumption, trivial⟩ (by assumption)).trans ?_, h'⟩
    kernel_rfl
  · cases h
def T_11_0 (p0 : List Int) (p1 : List Int) (p2 : List Int) (p3 : List Int) (p4 : List Int) : St := St.mk [CV.pure (Ty.slice (Ty.int IntKind.u8)) p0, jk, CV.ptr (0 : Nat) [], CV.ptr (1 : Nat) [], CV.ptr (2 : Nat) [], CV.pure (Ty.slice (Ty.int IntKind.u8)) p1, jk, jk, jk, jk, jk, jk, jk, jk, jk, jk, jk, jk, jk, jk, jk, jk, jk, jk, jk, jk, jk, jk, jk, jk, jk, jk, jk, jk, jk, jk, jk, jk, jk, jk, jk, jk, jk, jk, jk, jk, jk, jk, jk, jk, jk, jk, jk, jk, jk, jk, jk, jk, jk, jk, jk, jk, jk, jk, jk, jk, jk, jk, jk, jk, jk, jk] [Blk.mem (CV.pure (Ty.arr (32 : Nat) (Ty.int IntKind.u8)) p2), Blk.mem (CV.pure (Ty.arr (8 : Nat) (Ty.int IntKind.u32)) p3), Blk.mem (CV.pure (Ty.arr (64 : Nat) (Ty.int IntKind.u32)) p4)] (0 : Nat)
def X_11_0_0 (p0 : List Int) (p1 : List Int) (p2 : List Int) (p3 : List Int) (p4 : List Int) : St := St.mk [CV.pure (Ty.slice (Ty.int IntKind.u8)) p0, jk, CV.ptr (0 : Nat) [], CV.ptr (1 : Nat) [], CV.ptr (2 : Nat) [], CV.pure (Ty.slice (Ty.int IntKind.u8)) p1, jk, jk, jk, jk, jk, jk, jk, jk, jk, jk, jk, jk, jk, jk, jk, jk, jk, jk, jk, jk, jk, jk, jk, jk, jk, jk, jk, jk, jk, jk, jk, jk, jk, jk, jk, jk, jk, jk, jk, jk, jk, jk, jk, jk, jk, jk, jk, jk, jk, jk, jk, jk, jk, jk, jk, jk, jk, jk, jk, jk, jk, jk, jk, jk, jk, jk] [Blk.mem (CV.pure (Ty.arr (32 : Nat) (Ty.int IntKind.u8)) p2), Blk.mem (CV.pure (Ty.arr (8 : Nat) (Ty.int IntKind.u32)) p3), Blk.mem (CV.pure (Ty.arr (64 : Nat) (Ty.int IntKind.u32)) p4)] (0 : Nat)
inductive Sp.E_11_0 where
  | e0 (p0 : List Int) (p1 : List Int) (p2 : List Int) (p3 : List Int) (p4 : List Int)
def Sp.B_11_0 {R : Type} (r : Option Sp.E_11_0) (k0 : (List Int) → (List Int) → (List Int) → (List Int) → (List Int) → Option R) : Option R := match r with
  | none => none
  | some (.e0 p0 p1 p2 p3 p4) => k0 p0 p1 p2 p3 p4
def Sp.L_11_0 : Nat → (List Int) → (List Int) → (List Int) → (List Int) → (List Int) → Option Sp.E_11_0
  | 0, _, _, _, _, _ => none
  | m + 1, p0, p1, p2, p3, p4 => bif decide ((↑(List.length p1) : Int) ≥ (64 : Int)) then gd (sl3 (0 : Int) (64 : Int) (↑(List.length p1) : Int)) (Sp.B_11_33_0_0 (Sp.L_11_33_0_0 (4611686018427387904 : Nat) (List.take (64 : Nat) (List.drop (0 : Nat) p1)) (0 : Int) p2 p3 p4 (List.replicate (64 : Nat) (0 : Int))) fun (y19 y20 y21 y22 : List Int) => Sp.B_11_33_1_0 (Sp.L_11_33_1_0 (4611686018427387904 : Nat) (16 : Int) y19 y20 y21 y22) fun (y23 y24 y25 y26 : List Int) => Sp.B_11_33_2_0 (Sp.L_11_33_2_0 (4611686018427387904 : Nat) (0 : Int) y23 y24 y25 y26 y24) fun (y27 y28 y29 y30 : List Int) => Sp.B_11_33_3_0 (Sp.L_11_33_3_0 (4611686018427387904 : Nat) (0 : Int) y27 y28 y29 y30) fun (y31 y32 y33 : List Int) => gd (sl3 (64 : Int) (↑(List.length p1) : Int) (↑(List.length p1) : Int)) (Sp.L_11_0 m p0 (List.drop (64 : Nat) p1) y31 y32 y33)) else some (Sp.E_11_0.e0 p0 p1 p2 p3 p4)
def G_11_0 {R : Type} (p0 : List Int) (p1 : List Int) (p2 : List Int) (p3 : List Int) (p4 : List Int) (k : Ex → St → Option R) : Option R := Sp.B_11_0 (Sp.L_11_0 FU p0 p1 p2 p3 p4) (fun p0 p1 p2 p3 p4 => k (Ex.exit (0 : Nat)) (X_11_0_0 p0 p1 p2 p3 p4))
def o_11_0 {R : Type} (G : (List Int) → (List Int) → (List Int) → (List Int) → (List Int) → (Ex → St → Option R) → Option R) : St → (Ex → St → Option R) → Option R := fun T k => match T.sl.getD 0 .junk, T.sl.getD 2 .junk, T.sl.getD 3 .junk, T.sl.getD 4 .junk, T.sl.getD 5 .junk, T.hp with
  | CV.pure (Ty.slice (Ty.int IntKind.u8)) p0, CV.ptr (0 : Nat) [], CV.ptr (1 : Nat) [], CV.ptr (2 : Nat) [], CV.pure (Ty.slice (Ty.int IntKind.u8)) p1, ((Blk.mem (CV.pure (Ty.arr (32 : Nat) (Ty.int IntKind.u8)) p2)) :: (Blk.mem (CV.pure (Ty.arr (8 : Nat) (Ty.int IntKind.u32)) p3)) :: (Blk.mem (CV.pure (Ty.arr (64 : Nat) (Ty.int IntKind.u32)) p4)) :: []) => gd (shapeOK T 72 [0, 2, 3, 4, 5] (0 : Nat)) (G p0 p1 p2 p3 p4 k)
  | _, _, _, _, _, _ => none
theorem o_11_0_inv {R : Type} {G : (List Int) → (List Int) → (List Int) → (List Int) → (List Int) → (Ex → St → Option R) → Option R} {T : St} {k : Ex → St → Option R} {r : R} (h : o_11_0 G T k = some r) : ∃ p0 p1 p2 p3 p4, T = T_11_0 p0 p1 p2 p3 p4 ∧ G p0 p1 p2 p3 p4 k = some r := by
  unfold o_11_0 at h
  split at h
  · obtain ⟨hs, h'⟩ := gd_some h
    refine ⟨_, _, _, _, _, (st_of (asg := [(0, _), (2, _), (3, _), (4, _), (5, _)]) hs ⟨by assumption, by assumption, by assumption, by assumption, by assumption, trivial⟩ (by assumption)).trans ?_, h'⟩
    kernel_rfl
  · cases h
def T_11_33_0_1 (p0 : Nat) (p1 : Nat) (p2 : Nat) (p3 : Int) (p4 : List Int) (p5 : List Int) (p6 : List Int) (p7 : List Int) (p8 : List Int) : St := St.mk [CV.ptr (1 : Nat) [], CV.ptr (2 : Nat) [], CV.sub (3 : Nat) [] (1 : Nat) p0 p1 (some p2), jk, jk, jk, CV.ptr (4 : Nat) [], jk, jk, jk, jk, jk, jk, jk, jk, jk, jk, jk, jk, jk, CV.int IntKind.i64 p3, jk, jk, jk, jk, jk, jk, jk, jk, jk, jk, jk, jk, jk, jk, jk, jk, jk, jk, jk, jk, jk, jk, jk, jk, jk, jk, jk, jk, jk, jk, jk, jk, jk, jk, jk, jk, jk, jk, jk, jk, jk, jk, jk, jk, jk, jk, jk, jk, jk, jk, jk, jk, jk, jk, jk, jk, jk, jk, jk, jk, jk, jk, jk, jk, jk, jk, jk, jk, jk, jk, jk, jk, jk, jk, jk, jk, jk, jk, jk, jk, jk, jk, jk, jk, jk, jk, jk, jk, jk, jk, jk, jk, jk, jk, jk, jk, jk, jk, jk, jk, jk, jk, jk, jk, jk, jk, jk, jk, jk, jk, jk, jk, jk, jk, jk, jk, jk, jk, jk, jk, jk, jk, jk, jk, jk, jk, jk, jk, jk, jk, jk, jk, jk, jk, jk, jk, jk, jk, jk, jk, jk, jk, jk, jk, jk, jk, jk, jk, jk, jk, jk, jk, jk, jk, jk] [Blk.mem (CV.pure (Ty.arr (32 : Nat) (Ty.int IntKind.u8)) p4), Blk.mem (CV.pure (Ty.arr (8 : Nat) (Ty.int IntKind.u32)) p5), Blk.mem (CV.pure (Ty.arr (64 : Nat) (Ty.int IntKind.u32)) p6), Blk.mem (CV.pure (Ty.arr (128 : Nat) (Ty.int IntKind.u8)) p7), Blk.mem (CV.pure (Ty.arr (64 : Nat) (Ty.int IntKind.u32)) p8)] (4 : Nat)
def X_11_33_0_1_0 (p4 : List Int) (p5 : List Int) (p6 : List Int) (p7 : List Int) (p8 : List Int) : St := St.mk [CV.ptr (1 : Nat) [], CV.ptr (2 : Nat) [], jk, jk, jk, jk, CV.ptr (4 : Nat) [], jk, jk, jk, jk, jk, jk, jk, jk, jk, jk, jk, jk, jk, jk, jk, jk, jk, jk, jk, jk, jk, jk, jk, jk, jk, jk, jk, jk, jk, jk, jk, jk, jk, jk, jk, jk, jk, jk, jk, jk, jk, jk, jk, jk, jk, jk, jk, jk, jk, jk, jk, jk, jk, jk, jk, jk, jk, jk, jk, jk, jk, jk, jk, jk, jk, jk, jk, jk, jk, jk, jk, jk, jk, jk, jk, jk, jk, jk, jk, jk, jk, jk, jk, jk, jk, jk, jk, jk, jk, jk, jk, jk, jk, jk, jk, jk, jk, jk, jk, jk, jk, jk, jk, jk, jk, jk, jk, jk, jk, jk, jk, jk, jk, jk, jk, jk, jk, jk, jk, jk, jk, jk, jk, jk, jk, jk, jk, jk, jk, jk, jk, jk, jk, jk, jk, jk, jk, jk, jk, jk, jk, jk, jk, jk, jk, jk, jk, jk, jk, jk, jk, jk, jk, jk, jk, jk, jk, jk, jk, jk, jk, jk, jk, jk, jk, jk, jk, jk, jk] [Blk.mem (CV.pure (Ty.arr (32 : Nat) (Ty.int IntKind.u8)) p4), Blk.mem (CV.pure (Ty.arr (8 : Nat) (Ty.int IntKind.u32)) p5), Blk.mem (CV.pure (Ty.arr (64 : Nat) (Ty.int IntKind.u32)) p6), Blk.mem (CV.pure (Ty.arr (128 : Nat) (Ty.int IntKind.u8)) p7), Blk.mem (CV.pure (Ty.arr (64 : Nat) (Ty.int IntKind.u32)) p8)] (4 : Nat)
inductive Sp.E_11_33_0_1 where
  | e0 (p4 : List Int) (p5 : List Int) (p6 : List Int) (p7 : List Int) (p8 : List Int)
def Sp.B_11_33_0_1 {R : Type} (r : Option Sp.E_11_33_0_1) (k0 : (List Int) → (List Int) → (List Int) → (List Int) → (List Int) → Option R) : Option R := match r with
  | none => none
  | some (.e0 p4 p5 p6 p7 p8) => k0 p4 p5 p6 p7 p8
def Sp.L_11_33_0_1 : Nat → (Nat) → (Nat) → (Nat) → (Int) → (List Int) → (List Int) → (List Int) → (List Int) → (List Int) → Option Sp.E_11_33_0_1
  | 0, _, _, _, _, _, _, _, _, _ => none
  | m + 1, p0, p1, p2, p3, p4, p5, p6, p7, p8 => bif decide (p3 < (16 : Int)) then gd (sl3 (IntKind.wrap IntKind.i64 ((4 : Int) * p3)) (↑p1 : Int) (↑p1 : Int)) (gd (decide (p0 + Int.toNat (IntKind.wrap IntKind.i64 ((4 : Int) * p3)) + (Int.toNat (↑p1 : Int) - Int.toNat (IntKind.wrap IntKind.i64 ((4 : Int) * p3))) ≤ (128 : Nat)) && true && Sp.p_47 (List.take (Int.toNat (↑p1 : Int) - Int.toNat (IntKind.wrap IntKind.i64 ((4 : Int) * p3))) (List.drop (p0 + Int.toNat (IntKind.wrap IntKind.i64 ((4 : Int) * p3))) p7))) (gd (inB p3 (64 : Nat)) (gd (decide (Int.toNat p3 < (64 : Nat)) && true) (Sp.L_11_33_0_1 m p0 p1 p2 (IntKind.wrap IntKind.i64 (p3 + (1 : Int))) p4 p5 p6 p7 (List.set p8 (Int.toNat p3) (Prod.fst (Sp.v_47 (List.take (Int.toNat (↑p1 : Int) - Int.toNat (IntKind.wrap IntKind.i64 ((4 : Int) * p3))) (List.drop (p0 + Int.toNat (IntKind.wrap IntKind.i64 ((4 : Int) * p3))) p7))))))))) else some (Sp.E_11_33_0_1.e0 p4 p5 p6 p7 p8)
def G_11_33_0_1 {R : Type} (p0 : Nat) (p1 : Nat) (p2 : Nat) (p3 : Int) (p4 : List Int) (p5 : List Int) (p6 : List Int) (p7 : List Int) (p8 : List Int) (k : Ex → St → Option R) : Option R := Sp.B_11_33_0_1 (Sp.L_11_33_0_1 FU p0 p1 p2 p3 p4 p5 p6 p7 p8) (fun p4 p5 p6 p7 p8 => k (Ex.exit (0 : Nat)) (X_11_33_0_1_0 p4 p5 p6 p7 p8))
def m_11_33_0_1 : St → Bool := fun T => match T.sl.getD 0 .junk, T.sl.getD 1 .junk, T.sl.getD 2 .junk, T.sl.getD 6 .junk, T.sl.getD 20 .junk, T.hp with
  | CV.ptr (1 : Nat) [], CV.ptr (2 : Nat) [], CV.sub (3 : Nat) [] (1 : Nat) p0 p1 (some p2), CV.ptr (4 : Nat) [], CV.int IntKind.i64 p3, ((Blk.mem (CV.pure (Ty.arr (32 : Nat) (Ty.int IntKind.u8)) p4)) :: (Blk.mem (CV.pure (Ty.arr (8 : Nat) (Ty.int IntKind.u32)) p5)) :: (Blk.mem (CV.pure (Ty.arr (64 : Nat) (Ty.int IntKind.u32)) p6)) :: (Blk.mem (CV.pure (Ty.arr (128 : Nat) (Ty.int IntKind.u8)) p7)) :: (Blk.mem (CV.pure (Ty.arr (64 : Nat) (Ty.int IntKind.u32)) p8)) :: []) => shapeOK T 176 [0, 1, 2, 6, 20] (4 : Nat)
  | _, _, _, _, _, _ => false
def o_11_33_0_1 {R : Type} (G : (Nat) → (Nat) → (Nat) → (Int) → (List Int) → (List Int) → (List Int) → (List Int) → (List Int) → (Ex → St → Option R) → Option R) : St → (Ex → St → Option R) → Option R := fun T k => match T.sl.getD 0 .junk, T.sl.getD 1 .junk, T.sl.getD 2 .junk, T.sl.getD 6 .junk, T.sl.getD 20 .junk, T.hp with
  | CV.ptr (1 : Nat) [], CV.ptr (2 : Nat) [], CV.sub (3 : Nat) [] (1 : Nat) p0 p1 (some p2), CV.ptr (4 : Nat) [], CV.int IntKind.i64 p3, ((Blk.mem (CV.pure (Ty.arr (32 : Nat) (Ty.int IntKind.u8)) p4)) :: (Blk.mem (CV.pure (Ty.arr (8 : Nat) (Ty.int IntKind.u32)) p5)) :: (Blk.mem (CV.pure (Ty.arr (64 : Nat) (Ty.int IntKind.u32)) p6)) :: (Blk.mem (CV.pure (Ty.arr (128 : Nat) (Ty.int IntKind.u8)) p7)) :: (Blk.mem (CV.pure (Ty.arr (64 : Nat) (Ty.int IntKind.u32)) p8)) :: []) => gd (shapeOK T 176 [0, 1, 2, 6, 20] (4 : Nat)) (G p0 p1 p2 p3 p4 p5 p6 p7 p8 k)
  | _, _, _, _, _, _ => none
theorem o_11_33_0_1_inv {R : Type} {G : (Nat) → (Nat) → (Nat) → (Int) → (List Int) → (List Int) → (List Int) → (List Int) → (List Int) → (Ex → St → Option R) → Option R} {T : St} {k : Ex → St → Option R} {r : R} (h : o_11_33_0_1 G T k = some r) : ∃ p0 p1 p2 p3 p4 p5 p6 p7 p8, T = T_11_33_0_1 p0 p1 p2 p3 p4 p5 p6 p7 p8 ∧ G p0 p1 p2 p3 p4 p5 p6 p7 p8 k = some r := by
  unfold o_11_33_0_1 at h
  split at h
  · obtain ⟨hs, h'⟩ := gd_some h
    refine ⟨_, _, _, _, _, _, _, _, _, (st_of (asg := [(0, _), (1, _), (2, _), (6, _), (20, _)]) hs ⟨by assumption, by assumption, by assumption, by assumption, by assumption, trivial⟩ (by assumption)).trans ?_, h'⟩
    kernel_rfl
  · cases h
def T_11_33_1_1 (p0 : Int) (p1 : List Int) (p2 : List Int) (p3 : List Int) (p4 : List Int) (p5 : List Int) : St := St.mk [CV.ptr (1 : Nat) [], CV.ptr (2 : Nat) [], jk, jk, jk, jk, CV.ptr (4 : Nat) [], jk, CV.int IntKind.i64 p0, jk, jk, jk, jk, jk, jk, jk, jk, jk, jk, jk, jk, jk, jk, jk, jk, jk, jk, jk, jk, jk, jk, jk, jk, jk, jk, jk, jk, jk, jk, jk, jk, jk, jk, jk, jk, jk, jk, jk, jk, jk, jk, jk, jk, jk, jk, jk, jk, jk, jk, jk, jk, jk, jk, jk, jk, jk, jk, jk, jk, jk, jk, jk, jk, jk, jk, jk, jk, jk, jk, jk, jk, jk, jk, jk, jk, jk, jk, jk, jk, jk, jk, jk, jk, jk, jk, jk, jk, jk, jk, jk, jk, jk, jk, jk, jk, jk, jk, jk, jk, jk, jk, jk, jk, jk, jk, jk, jk, jk, jk, jk, jk, jk, jk, jk, jk, jk, jk, jk, jk, jk, jk, jk, jk, jk, jk, jk, jk, jk, jk, jk, jk, jk, jk, jk, jk, jk, jk, jk, jk, jk, jk, jk, jk, jk, jk, jk, jk, jk, jk, jk, jk, jk, jk, jk, jk, jk, jk, jk, jk, jk, jk, jk, jk, jk, jk, jk] [Blk.mem (CV.pure (Ty.arr (32 : Nat) (Ty.int IntKind.u8)) p1), Blk.mem (CV.pure (Ty.arr (8 : Nat) (Ty.int IntKind.u32)) p2), Blk.mem (CV.pure (Ty.arr (64 : Nat) (Ty.int IntKind.u32)) p3), Blk.mem (CV.pure (Ty.arr (128 : Nat) (Ty.int IntKind.u8)) p4), Blk.mem (CV.pure (Ty.arr (64 : Nat) (Ty.int IntKind.u32)) p5)] (4 : Nat)
def X_11_33_1_1_0 (p1 : List Int) (p2 : List Int) (p3 : List Int) (p4 : List Int) (p5 : List Int) : St := St.mk [CV.ptr (1 : Nat) [], CV.ptr (2 : Nat) [], jk, jk, jk, jk, CV.ptr (4 : Nat) [], jk, jk, jk, jk, jk, jk, jk, jk, jk, jk, jk, jk, jk, jk, jk, jk, jk, jk, jk, jk, jk, jk, jk, jk, jk, jk, jk, jk, jk, jk, jk, jk, jk, jk, jk, jk, jk, jk, jk, jk, jk, jk, jk, jk, jk, jk, jk, jk, jk, jk, jk, jk, jk, jk, jk, jk, jk, jk, jk, jk, jk, jk, jk, jk, jk, jk, jk, jk, jk, jk, jk, jk, jk, jk, jk, jk, jk, jk, jk, jk, jk, jk, jk, jk, jk, jk, jk, jk, jk, jk, jk, jk, jk, jk, jk, jk, jk, jk, jk, jk, jk, jk, jk, jk, jk, jk, jk, jk, jk, jk, jk, jk, jk, jk, jk, jk, jk, jk, jk, jk, jk, jk, jk, jk, jk, jk, jk, jk, jk, jk, jk, jk, jk, jk, jk, jk, jk, jk, jk, jk, jk, jk, jk, jk, jk, jk, jk, jk, jk, jk, jk, jk, jk, jk, jk, jk, jk, jk, jk, jk, jk, jk, jk, jk, jk, jk, jk, jk, jk] [Blk.mem (CV.pure (Ty.arr (32 : Nat) (Ty.int IntKind.u8)) p1), Blk.mem (CV.pure (Ty.arr (8 : Nat) (Ty.int IntKind.u32)) p2), Blk.mem (CV.pure (Ty.arr (64 : Nat) (Ty.int IntKind.u32)) p3), Blk.mem (CV.pure (Ty.arr (128 : Nat) (Ty.int IntKind.u8)) p4), Blk.mem (CV.pure (Ty.arr (64 : Nat) (Ty.int IntKind.u32)) p5)] (4 : Nat)
inductive Sp.E_11_33_1_1 where
  | e0 (p1 : List Int) (p2 : List Int) (p3 : List Int) (p4 : List Int) (p5 : List Int)
def Sp.B_11_33_1_1 {R : Type} (r : Option Sp.E_11_33_1_1) (k0 : (List Int) → (List Int) → (List Int) → (List Int) → (List Int) → Option R) : Option R := match r with
  | none => none
  | some (.e0 p1 p2 p3 p4 p5) => k0 p1 p2 p3 p4 p5
def Sp.L_11_33_1_1 : Nat → (Int) → (List Int) → (List Int) → (List Int) → (List Int) → (List Int) → Option Sp.E_11_33_1_1
  | 0, _, _, _, _, _, _ => none
  | m + 1, p0, p1, p2, p3, p4, p5 => bif decide (p0 < (64 : Int)) then gd (inB (IntKind.wrap IntKind.i64 (p0 - (15 : Int))) (64 : Nat)) (gd (decide (Int.toNat (IntKind.wrap IntKind.i64 (p0 - (15 : Int))) < (64 : Nat)) && true) (gd (inB (IntKind.wrap IntKind.i64 (p0 - (2 : Int))) (64 : Nat)) (gd (decide (Int.toNat (IntKind.wrap IntKind.i64 (p0 - (2 : Int))) < (64 : Nat)) && true) (gd (Sp.p_49 (List.getD p5 (Int.toNat (IntKind.wrap IntKind.i64 (p0 - (15 : Int)))) (0 : Int)) (7 : Int)) (gd (Sp.p_49 (List.getD p5 (Int.toNat (IntKind.wrap IntKind.i64 (p0 - (15 : Int)))) (0 : Int)) (18 : Int)) (gd (Sp.p_49 (List.getD p5 (Int.toNat (IntKind.wrap IntKind.i64 (p0 - (2 : Int)))) (0 : Int)) (17 : Int)) (gd (Sp.p_49 (List.getD p5 (Int.toNat (IntKind.wrap IntKind.i64 (p0 - (2 : Int)))) (0 : Int)) (19 : Int)) (gd (inB (IntKind.wrap IntKind.i64 (p0 - (7 : Int))) (64 : Nat)) (gd (decide (Int.toNat (IntKind.wrap IntKind.i64 (p0 - (7 : Int))) < (64 : Nat)) && true) (gd (inB (IntKind.wrap IntKind.i64 (p0 - (16 : Int))) (64 : Nat)) (gd (decide (Int.toNat (IntKind.wrap IntKind.i64 (p0 - (16 : Int))) < (64 : Nat)) && true) (gd (inB p0 (64 : Nat)) (gd (decide (Int.toNat p0 < (64 : Nat)) && true) (Sp.L_11_33_1_1 m (IntKind.wrap IntKind.i64 (p0 + (1 : Int))) p1 p2 p3 p4 (List.set p5 (Int.toNat p0) (IntKind.wrap IntKind.u32 (IntKind.wrap IntKind.u32 (IntKind.wrap IntKind.u32 (Sp.xorI IntKind.u32 (Sp.xorI IntKind.u32 (Prod.fst (Sp.v_49 (List.getD p5 (Int.toNat (IntKind.wrap IntKind.i64 (p0 - (2 : Int)))) (0 : Int)) (17 : Int))) (Prod.fst (Sp.v_49 (List.getD p5 (Int.toNat (IntKind.wrap IntKind.i64 (p0 - (2 : Int)))) (0 : Int)) (19 : Int)))) (Int.fdiv (List.getD p5 (Int.toNat (IntKind.wrap IntKind.i64 (p0 - (2 : Int)))) (0 : Int)) (1024 : Int)) + List.getD p5 (Int.toNat (IntKind.wrap IntKind.i64 (p0 - (7 : Int)))) (0 : Int)) + Sp.xorI IntKind.u32 (Sp.xorI IntKind.u32 (Prod.fst (Sp.v_49 (List.getD p5 (Int.toNat (IntKind.wrap IntKind.i64 (p0 - (15 : Int)))) (0 : Int)) (7 : Int))) (Prod.fst (Sp.v_49 (List.getD p5 (Int.toNat (IntKind.wrap IntKind.i64 (p0 - (15 : Int)))) (0 : Int)) (18 : Int)))) (Int.fdiv (List.getD p5 (Int.toNat (IntKind.wrap IntKind.i64 (p0 - (15 : Int)))) (0 : Int)) (8 : Int))) + List.getD p5 (Int.toNat (IntKind.wrap IntKind.i64 (p0 - (16 : Int)))) (0 : Int)))))))))))))))))) else some (Sp.E_11_33_1_1.e0 p1 p2 p3 p4 p5)
def G_11_33_1_1 {R : Type} (p0 : Int) (p1 : List Int) (p2 : List Int) (p3 : List Int) (p4 : List Int) (p5 : List Int) (k : Ex → St → Option R) : Option R := Sp.B_11_33_1_1 (Sp.L_11_33_1_1 FU p0 p1 p2 p3 p4 p5) (fun p1 p2 p3 p4 p5 => k (Ex.exit (2 : Nat)) (X_11_33_1_1_0 p1 p2 p3 p4 p5))
def m_11_33_1_1 : St → Bool := fun T => match T.sl.getD 0 .junk, T.sl.getD 1 .junk, T.sl.getD 6 .junk, T.sl.getD 8 .junk, T.hp with
  | CV.ptr (1 : Nat) [], CV.ptr (2 : Nat) [], CV.ptr (4 : Nat) [], CV.int IntKind.i64 p0, ((Blk.mem (CV.pure (Ty.arr (32 : Nat) (Ty.int IntKind.u8)) p1)) :: (Blk.mem (CV.pure (Ty.arr (8 : Nat) (Ty.int IntKind.u32)) p2)) :: (Blk.mem (CV.pure (Ty.arr (64 : Nat) (Ty.int IntKind.u32)) p3)) :: (Blk.mem (CV.pure (Ty.arr (128 : Nat) (Ty.int IntKind.u8)) p4)) :: (Blk.mem (CV.pure (Ty.arr (64 : Nat) (Ty.int IntKind.u32)) p5)) :: []) => shapeOK T 176 [0, 1, 6, 8] (4 : Nat)
  | _, _, _, _, _ => false
def o_11_33_1_1 {R : Type} (G : (Int) → (List Int) → (List Int) → (List Int) → (List Int) → (List Int) → (Ex → St → Option R) → Option R) : St → (Ex → St → Option R) → Option R := fun T k => match T.sl.getD 0 .junk, T.sl.getD 1 .junk, T.sl.getD 6 .junk, T.sl.getD 8 .junk, T.hp with
  | CV.ptr (1 : Nat) [], CV.ptr (2 : Nat) [], CV.ptr (4 : Nat) [], CV.int IntKind.i64 p0, ((Blk.mem (CV.pure (Ty.arr (32 : Nat) (Ty.int IntKind.u8)) p1)) :: (Blk.mem (CV.pure (Ty.arr (8 : Nat) (Ty.int IntKind.u32)) p2)) :: (Blk.mem (CV.pure (Ty.arr (64 : Nat) (Ty.int IntKind.u32)) p3)) :: (Blk.mem (CV.pure (Ty.arr (128 : Nat) (Ty.int IntKind.u8)) p4)) :: (Blk.mem (CV.pure (Ty.arr (64 : Nat) (Ty.int IntKind.u32)) p5)) :: []) => gd (shapeOK T 176 [0, 1, 6, 8] (4 : Nat)) (G p0 p1 p2 p3 p4 p5 k)
  | _, _, _, _, _ => none
theorem o_11_33_1_1_inv {R : Type} {G : (Int) → (List Int) → (List Int) → (List Int) → (List Int) → (List Int) → (Ex → St → Option R) → Option R} {T : St} {k : Ex → St → Option R} {r : R} (h : o_11_33_1_1 G T k = some r) : ∃ p0 p1 p2 p3 p4 p5, T = T_11_33_1_1 p0 p1 p2 p3 p4 p5 ∧ G p0 p1 p2 p3 p4 p5 k = some r := by
  unfold o_11_33_1_1 at h
  split at h
  · obtain ⟨hs, h'⟩ := gd_some h
    refine ⟨_, _, _, _, _, _, (st_of (asg := [(0, _), (1, _), (6, _), (8, _)]) hs ⟨by assumption, by assumption, by assumption, by assumption, trivial⟩ (by assumption)).trans ?_, h'⟩
    kernel_rfl
  · cases h
def T_11_33_2_1 (p0 : Int) (p1 : List Int) (p2 : List Int) (p3 : List Int) (p4 : List Int) (p5 : List Int) (p6 : List Int) : St := St.mk [CV.ptr (1 : Nat) [], CV.ptr (2 : Nat) [], jk, jk, jk, jk, CV.ptr (4 : Nat) [], jk, jk, jk, jk, jk, jk, CV.ptr (5 : Nat) [], jk, jk, jk, jk, jk, jk, jk, jk, jk, jk, jk, jk, jk, jk, jk, jk, jk, jk, jk, jk, jk, jk, jk, jk, jk, jk, jk, jk, jk, jk, jk, jk, jk, jk, jk, jk, jk, jk, jk, jk, jk, jk, jk, jk, jk, jk, jk, jk, jk, jk, jk, jk, jk, jk, jk, jk, jk, jk, jk, jk, jk, jk, jk, CV.int IntKind.i64 p0, jk, jk, jk, jk, jk, jk, jk, jk, jk, jk, jk, jk, jk, jk, jk, jk, jk, jk, jk, jk, jk, jk, jk, jk, jk, jk, jk, jk, jk, jk, jk, jk, jk, jk, jk, jk, jk, jk, jk, jk, jk, jk, jk, jk, jk, jk, jk, jk, jk, jk, jk, jk, jk, jk, jk, jk, jk, jk, jk, jk, jk, jk, jk, jk, jk, jk, jk, jk, jk, jk, jk, jk, jk, jk, jk, jk, jk, jk, jk, jk, jk, jk, jk, jk, jk, jk, jk, jk, jk, jk, jk, jk, jk, jk, jk, jk, jk, jk] [Blk.mem (CV.pure (Ty.arr (32 : Nat) (Ty.int IntKind.u8)) p1), Blk.mem (CV.pure (Ty.arr (8 : Nat) (Ty.int IntKind.u32)) p2), Blk.mem (CV.pure (Ty.arr (64 : Nat) (Ty.int IntKind.u32)) p3), Blk.mem (CV.pure (Ty.arr (128 : Nat) (Ty.int IntKind.u8)) p4), Blk.mem (CV.pure (Ty.arr (64 : Nat) (Ty.int IntKind.u32)) p5), Blk.mem (CV.pure (Ty.arr (8 : Nat) (Ty.int IntKind.u32)) p6)] (4 : Nat)
def X_11_33_2_1_0 (p1 : List Int) (p2 : List Int) (p3 : List Int) (p4 : List Int) (p6 : List Int) : St := St.mk [CV.ptr (1 : Nat) [], jk, jk, jk, jk, jk, jk, jk, jk, jk, jk, jk, jk, CV.ptr (4 : Nat) [], jk, jk, jk, jk, jk, jk, jk, jk, jk, jk, jk, jk, jk, jk, jk, jk, jk, jk, jk, jk, jk, jk, jk, jk, jk, jk, jk, jk, jk, jk, jk, jk, jk, jk, jk, jk, jk, jk, jk, jk, jk, jk, jk, jk, jk, jk, jk, jk, jk, jk, jk, jk, jk, jk, jk, jk, jk, jk, jk, jk, jk, jk, jk, jk, jk, jk, jk, jk, jk, jk, jk, jk, jk, jk, jk, jk, jk, jk, jk, jk, jk, jk, jk, jk, jk, jk, jk, jk, jk, jk, jk, jk, jk, jk, jk, jk, jk, jk, jk, jk, jk, jk, jk, jk, jk, jk, jk, jk, jk, jk, jk, jk, jk, jk, jk, jk, jk, jk, jk, jk, jk, jk, jk, jk, jk, jk, jk, jk, jk, jk, jk, jk, jk, jk, jk, jk, jk, jk, jk, jk, jk, jk, jk, jk, jk, jk, jk, jk, jk, jk, jk, jk, jk, jk, jk, jk, jk, jk, jk, jk, jk, jk] [Blk.mem (CV.pure (Ty.arr (32 : Nat) (Ty.int IntKind.u8)) p1), Blk.mem (CV.pure (Ty.arr (8 : Nat) (Ty.int IntKind.u32)) p2), Blk.mem (CV.pure (Ty.arr (64 : Nat) (Ty.int IntKind.u32)) p3), Blk.mem (CV.pure (Ty.arr (128 : Nat) (Ty.int IntKind.u8)) p4), Blk.mem (CV.pure (Ty.arr (8 : Nat) (Ty.int IntKind.u32)) p6)] (4 : Nat)
inductive Sp.E_11_33_2_1 where
  | e0 (p1 : List Int) (p2 : List Int) (p3 : List Int) (p4 : List Int) (p6 : List Int)
def Sp.B_11_33_2_1 {R : Type} (r : Option Sp.E_11_33_2_1) (k0 : (List Int) → (List Int) → (List Int) → (List Int) → (List Int) → Option R) : Option R := match r with
  | none => none
  | some (.e0 p1 p2 p3 p4 p6) => k0 p1 p2 p3 p4 p6
def Sp.L_11_33_2_1 : Nat → (Int) → (List Int) → (List Int) → (List Int) → (List Int) → (List Int) → (List Int) → Option Sp.E_11_33_2_1
  | 0, _, _, _, _, _, _, _ => none
  | m + 1, p0, p1, p2, p3, p4, p5, p6 => bif decide (p0 < (64 : Int)) then gd (Sp.p_49 (List.getD p6 (4 : Nat) (0 : Int)) (6 : Int)) (gd (Sp.p_49 (List.getD p6 (4 : Nat) (0 : Int)) (11 : Int)) (gd (Sp.p_49 (List.getD p6 (4 : Nat) (0 : Int)) (25 : Int)) (gd (inB p0 (64 : Nat)) (gd (decide (Int.toNat p0 < (64 : Nat)) && true) (gd (inB p0 (64 : Nat)) (gd (decide (Int.toNat p0 < (64 : Nat)) && true) (gd (Sp.p_49 (List.getD p6 (0 : Nat) (0 : Int)) (2 : Int)) (gd (Sp.p_49 (List.getD p6 (0 : Nat) (0 : Int)) (13 : Int)) (gd (Sp.p_49 (List.getD p6 (0 : Nat) (0 : Int)) (22 : Int)) (Sp.L_11_33_2_1 m (IntKind.wrap IntKind.i64 (p0 + (1 : Int))) p1 p2 p3 p4 p5 [IntKind.wrap IntKind.u32 (IntKind.wrap IntKind.u32 (IntKind.wrap IntKind.u32 (IntKind.wrap IntKind.u32 (IntKind.wrap IntKind.u32 (List.getD p6 (7 : Nat) (0 : Int) + Sp.xorI IntKind.u32 (Sp.xorI IntKind.u32 (Prod.fst (Sp.v_49 (List.getD p6 (4 : Nat) (0 : Int)) (6 : Int))) (Prod.fst (Sp.v_49 (List.getD p6 (4 : Nat) (0 : Int)) (11 : Int)))) (Prod.fst (Sp.v_49 (List.getD p6 (4 : Nat) (0 : Int)) (25 : Int)))) + Sp.xorI IntKind.u32 (Sp.andI IntKind.u32 (List.getD p6 (4 : Nat) (0 : Int)) (List.getD p6 (5 : Nat) (0 : Int))) (Sp.andI IntKind.u32 (Sp.xorI IntKind.u32 (4294967295 : Int) (List.getD p6 (4 : Nat) (0 : Int))) (List.getD p6 (6 : Nat) (0 : Int)))) + List.getD p3 (Int.toNat p0) (0 : Int)) + List.getD p5 (Int.toNat p0) (0 : Int)) + IntKind.wrap IntKind.u32 (Sp.xorI IntKind.u32 (Sp.xorI IntKind.u32 (Prod.fst (Sp.v_49 (List.getD p6 (0 : Nat) (0 : Int)) (2 : Int))) (Prod.fst (Sp.v_49 (List.getD p6 (0 : Nat) (0 : Int)) (13 : Int)))) (Prod.fst (Sp.v_49 (List.getD p6 (0 : Nat) (0 : Int)) (22 : Int))) + Sp.xorI IntKind.u32 (Sp.xorI IntKind.u32 (Sp.andI IntKind.u32 (List.getD p6 (0 : Nat) (0 : Int)) (List.getD p6 (1 : Nat) (0 : Int))) (Sp.andI IntKind.u32 (List.getD p6 (0 : Nat) (0 : Int)) (List.getD p6 (2 : Nat) (0 : Int)))) (Sp.andI IntKind.u32 (List.getD p6 (1 : Nat) (0 : Int)) (List.getD p6 (2 : Nat) (0 : Int))))), List.getD p6 (0 : Nat) (0 : Int), List.getD p6 (1 : Nat) (0 : Int), List.getD p6 (2 : Nat) (0 : Int), IntKind.wrap IntKind.u32 (List.getD p6 (3 : Nat) (0 : Int) + IntKind.wrap IntKind.u32 (IntKind.wrap IntKind.u32 (IntKind.wrap IntKind.u32 (IntKind.wrap IntKind.u32 (List.getD p6 (7 : Nat) (0 : Int) + Sp.xorI IntKind.u32 (Sp.xorI IntKind.u32 (Prod.fst (Sp.v_49 (List.getD p6 (4 : Nat) (0 : Int)) (6 : Int))) (Prod.fst (Sp.v_49 (List.getD p6 (4 : Nat) (0 : Int)) (11 : Int)))) (Prod.fst (Sp.v_49 (List.getD p6 (4 : Nat) (0 : Int)) (25 : Int)))) + Sp.xorI IntKind.u32 (Sp.andI IntKind.u32 (List.getD p6 (4 : Nat) (0 : Int)) (List.getD p6 (5 : Nat) (0 : Int))) (Sp.andI IntKind.u32 (Sp.xorI IntKind.u32 (4294967295 : Int) (List.getD p6 (4 : Nat) (0 : Int))) (List.getD p6 (6 : Nat) (0 : Int)))) + List.getD p3 (Int.toNat p0) (0 : Int)) + List.getD p5 (Int.toNat p0) (0 : Int))), List.getD p6 (4 : Nat) (0 : Int), List.getD p6 (5 : Nat) (0 : Int), List.getD p6 (6 : Nat) (0 : Int)])))))))))) else some (Sp.E_11_33_2_1.e0 p1 p2 p3 p4 p6)
def G_11_33_2_1 {R : Type} (p0 : Int) (p1 : List Int) (p2 : List Int) (p3 : List Int) (p4 : List Int) (p5 : List Int) (p6 : List Int) (k : Ex → St → Option R) : Option R := Sp.B_11_33_2_1 (Sp.L_11_33_2_1 FU p0 p1 p2 p3 p4 p5 p6) (fun p1 p2 p3 p4 p6 => k (Ex.exit (4 : Nat)) (X_11_33_2_1_0 p1 p2 p3 p4 p6))
def m_11_33_2_1 : St → Bool := fun T => match T.sl.getD 0 .junk, T.sl.getD 1 .junk, T.sl.getD 6 .junk, T.sl.getD 13 .junk, T.sl.getD 77 .junk, T.hp with
  | CV.ptr (1 : Nat) [], CV.ptr (2 : Nat) [], CV.ptr (4 : Nat) [], CV.ptr (5 : Nat) [], CV.int IntKind.i64 p0, ((Blk.mem (CV.pure (Ty.arr (32 : Nat) (Ty.int IntKind.u8)) p1)) :: (Blk.mem (CV.pure (Ty.arr (8 : Nat) (Ty.int IntKind.u32)) p2)) :: (Blk.mem (CV.pure (Ty.arr (64 : Nat) (Ty.int IntKind.u32)) p3)) :: (Blk.mem (CV.pure (Ty.arr (128 : Nat) (Ty.int IntKind.u8)) p4)) :: (Blk.mem (CV.pure (Ty.arr (64 : Nat) (Ty.int IntKind.u32)) p5)) :: (Blk.mem (CV.pure (Ty.arr (8 : Nat) (Ty.int IntKind.u32)) p6)) :: []) => shapeOK T 176 [0, 1, 6, 13, 77] (4 : Nat)
  | _, _, _, _, _, _ => false
def o_11_33_2_1 {R : Type} (G : (Int) → (List Int) → (List Int) → (List Int) → (List Int) → (List Int) → (List Int) → (Ex → St → Option R) → Option R) : St → (Ex → St → Option R) → Option R := fun T k => match T.sl.getD 0 .junk, T.sl.getD 1 .junk, T.sl.getD 6 .junk, T.sl.getD 13 .junk, T.sl.getD 77 .junk, T.hp with
  | CV.ptr (1 : Nat) [], CV.ptr (2 : Nat) [], CV.ptr (4 : Nat) [], CV.ptr (5 : Nat) [], CV.int IntKind.i64 p0, ((Blk.mem (CV.pure (Ty.arr (32 : Nat) (Ty.int IntKind.u8)) p1)) :: (Blk.mem (CV.pure (Ty.arr (8 : Nat) (Ty.int IntKind.u32)) p2)) :: (Blk.mem (CV.pure (Ty.arr (64 : Nat) (Ty.int IntKind.u32)) p3)) :: (Blk.mem (CV.pure (Ty.arr (128 : Nat) (Ty.int IntKind.u8)) p4)) :: (Blk.mem (CV.pure (Ty.arr (64 : Nat) (Ty.int IntKind.u32)) p5)) :: (Blk.mem (CV.pure (Ty.arr (8 : Nat) (Ty.int IntKind.u32)) p6)) :: []) => gd (shapeOK T 176 [0, 1, 6, 13, 77] (4 : Nat)) (G p0 p1 p2 p3 p4 p5 p6 k)
  | _, _, _, _, _, _ => none
theorem o_11_33_2_1_inv {R : Type} {G : (Int) → (List Int) → (List Int) → (List Int) → (List Int) → (List Int) → (List Int) → (Ex → St → Option R) → Option R} {T : St} {k : Ex → St → Option R} {r : R} (h : o_11_33_2_1 G T k = some r) : ∃ p0 p1 p2 p3 p4 p5 p6, T = T_11_33_2_1 p0 p1 p2 p3 p4 p5 p6 ∧ G p0 p1 p2 p3 p4 p5 p6 k = some r := by
  unfold o_11_33_2_1 at h
  split at h
  · obtain ⟨hs, h'⟩ := gd_some h
    refine ⟨_, _, _, _, _, _, _, (st_of (asg := [(0, _), (1, _), (6, _), (13, _), (77, _)]) hs ⟨by assumption, by assumption, by assumption, by assumption, by assumption, trivial⟩ (by assumption)).trans ?_, h'⟩
    kernel_rfl
  · cases h
def T_11_33_3_1 (p0 : Int) (p1 : List Int) (p2 : List Int) (p3 : List Int) (p4 : List Int) (p5 : List Int) : St := St.mk [CV.ptr (1 : Nat) [], jk, jk, jk, jk, jk, jk, jk, jk, jk, jk, jk, jk, CV.ptr (4 : Nat) [], jk, jk, jk, jk, jk, jk, jk, jk, jk, jk, jk, jk, jk, jk, jk, jk, jk, jk, jk, jk, jk, jk, jk, jk, jk, jk, jk, jk, jk, jk, jk, jk, jk, jk, jk, jk, jk, jk, jk, jk, jk, jk, jk, jk, jk, jk, jk, jk, jk, jk, jk, jk, jk, jk, jk, jk, jk, jk, jk, jk, jk, jk, jk, jk, jk, jk, jk, jk, jk, jk, jk, jk, jk, jk, jk, jk, jk, jk, jk, jk, jk, jk, jk, jk, jk, jk, jk, jk, jk, jk, jk, jk, jk, jk, jk, jk, jk, jk, jk, jk, jk, jk, jk, jk, jk, jk, jk, jk, jk, jk, jk, jk, jk, jk, jk, jk, jk, jk, jk, jk, jk, jk, jk, jk, jk, jk, jk, jk, jk, jk, jk, jk, jk, jk, jk, jk, jk, jk, jk, jk, jk, jk, jk, jk, jk, jk, jk, CV.int IntKind.i64 p0, jk, jk, jk, jk, jk, jk, jk, jk, jk, jk, jk, jk, jk, jk] [Blk.mem (CV.pure (Ty.arr (32 : Nat) (Ty.int IntKind.u8)) p1), Blk.mem (CV.pure (Ty.arr (8 : Nat) (Ty.int IntKind.u32)) p2), Blk.mem (CV.pure (Ty.arr (64 : Nat) (Ty.int IntKind.u32)) p3), Blk.mem (CV.pure (Ty.arr (128 : Nat) (Ty.int IntKind.u8)) p4), Blk.mem (CV.pure (Ty.arr (8 : Nat) (Ty.int IntKind.u32)) p5)] (4 : Nat)
def X_11_33_3_1_0 (p1 : List Int) (p2 : List Int) (p3 : List Int) (p4 : List Int) : St := St.mk [jk, jk, jk, jk, jk, jk, jk, jk, jk, jk, jk, jk, jk, jk, jk, jk, jk, jk, jk, jk, jk, jk, jk, jk, jk, jk, jk, jk, jk, jk, jk, jk, jk, jk, jk, jk, jk, jk, jk, jk, jk, jk, jk, jk, jk, jk, jk, jk, jk, jk, jk, jk, jk, jk, jk, jk, jk, jk, jk, jk, jk, jk, jk, jk, jk, jk, jk, jk, jk, jk, jk, jk, jk, jk, jk, jk, jk, jk, jk, jk, jk, jk, jk, jk, jk, jk, jk, jk, jk, jk, jk, jk, jk, jk, jk, jk, jk, jk, jk, jk, jk, jk, jk, jk, jk, jk, jk, jk, jk, jk, jk, jk, jk, jk, jk, jk, jk, jk, jk, jk, jk, jk, jk, jk, jk, jk, jk, jk, jk, jk, jk, jk, jk, jk, jk, jk, jk, jk, jk, jk, jk, jk, jk, jk, jk, jk, jk, jk, jk, jk, jk, jk, jk, jk, jk, jk, jk, jk, jk, jk, jk, jk, jk, jk, jk, jk, jk, jk, jk, jk, jk, jk, jk, jk, jk, jk] [Blk.mem (CV.pure (Ty.arr (32 : Nat) (Ty.int IntKind.u8)) p1), Blk.mem (CV.pure (Ty.arr (8 : Nat) (Ty.int IntKind.u32)) p2), Blk.mem (CV.pure (Ty.arr (64 : Nat) (Ty.int IntKind.u32)) p3), Blk.mem (CV.pure (Ty.arr (128 : Nat) (Ty.int IntKind.u8)) p4)] (4 : Nat)
inductive Sp.E_11_33_3_1 where
  | e0 (p1 : List Int) (p2 : List Int) (p3 : List Int) (p4 : List Int)
def Sp.B_11_33_3_1 {R : Type} (r : Option Sp.E_11_33_3_1) (k0 : (List Int) → (List Int) → (List Int) → (List Int) → Option R) : Option R := match r with
  | none => none
  | some (.e0 p1 p2 p3 p4) => k0 p1 p2 p3 p4
def Sp.L_11_33_3_1 : Nat → (Int) → (List Int) → (List Int) → (List Int) → (List Int) → (List Int) → Option Sp.E_11_33_3_1
  | 0, _, _, _, _, _, _ => none
  | m + 1, p0, p1, p2, p3, p4, p5 => bif decide (p0 < (8 : Int)) then gd (inB p0 (8 : Nat)) (gd (decide (Int.toNat p0 < (8 : Nat)) && true) (gd (inB p0 (8 : Nat)) (gd (decide (Int.toNat p0 < (8 : Nat)) && true) (gd (inB p0 (8 : Nat)) (gd (decide (Int.toNat p0 < (8 : Nat)) && true) (Sp.L_11_33_3_1 m (IntKind.wrap IntKind.i64 (p0 + (1 : Int))) p1 (List.set p2 (Int.toNat p0) (IntKind.wrap IntKind.u32 (List.getD p2 (Int.toNat p0) (0 : Int) + List.getD p5 (Int.toNat p0) (0 : Int)))) p3 p4 p5)))))) else some (Sp.E_11_33_3_1.e0 p1 p2 p3 p4)
def G_11_33_3_1 {R : Type} (p0 : Int) (p1 : List Int) (p2 : List Int) (p3 : List Int) (p4 : List Int) (p5 : List Int) (k : Ex → St → Option R) : Option R := Sp.B_11_33_3_1 (Sp.L_11_33_3_1 FU p0 p1 p2 p3 p4 p5) (fun p1 p2 p3 p4 => k (Ex.exit (6 : Nat)) (X_11_33_3_1_0 p1 p2 p3 p4))
def m_11_33_3_1 : St → Bool := fun T => match T.sl.getD 0 .junk, T.sl.getD 13 .junk, T.sl.getD 161 .junk, T.hp with
  | CV.ptr (1 : Nat) [], CV.ptr (4 : Nat) [], CV.int IntKind.i64 p0, ((Blk.mem (CV.pure (Ty.arr (32 : Nat) (Ty.int IntKind.u8)) p1)) :: (Blk.mem (CV.pure (Ty.arr (8 : Nat) (Ty.int IntKind.u32)) p2)) :: (Blk.mem (CV.pure (Ty.arr (64 : Nat) (Ty.int IntKind.u32)) p3)) :: (Blk.mem (CV.pure (Ty.arr (128 : Nat) (Ty.int IntKind.u8)) p4)) :: (Blk.mem (CV.pure (Ty.arr (8 : Nat) (Ty.int IntKind.u32)) p5)) :: []) => shapeOK T 176 [0, 13, 161] (4 : Nat)
  | _, _, _, _ => false
def o_11_33_3_1 {R : Type} (G : (Int) → (List Int) → (List Int) → (List Int) → (List Int) → (List Int) → (Ex → St → Option R) → Option R) : St → (Ex → St → Option R) → Option R := fun T k => match T.sl.getD 0 .junk, T.sl.getD 13 .junk, T.sl.getD 161 .junk, T.hp with
  | CV.ptr (1 : Nat) [], CV.ptr (4 : Nat) [], CV.int IntKind.i64 p0, ((Blk.mem (CV.pure (Ty.arr (32 : Nat) (Ty.int IntKind.u8)) p1)) :: (Blk.mem (CV.pure (Ty.arr (8 : Nat) (Ty.int IntKind.u32)) p2)) :: (Blk.mem (CV.pure (Ty.arr (64 : Nat) (Ty.int IntKind.u32)) p3)) :: (Blk.mem (CV.pure (Ty.arr (128 : Nat) (Ty.int IntKind.u8)) p4)) :: (Blk.mem (CV.pure (Ty.arr (8 : Nat) (Ty.int IntKind.u32)) p5)) :: []) => gd (shapeOK T 176 [0, 13, 161] (4 : Nat)) (G p0 p1 p2 p3 p4 p5 k)
  | _, _, _, _ => none
theorem o_11_33_3_1_inv {R : Type} {G : (Int) → (List Int) → (List Int) → (List Int) → (List Int) → (List Int) → (Ex → St → Option R) → Option R} {T : St} {k : Ex → St → Option R} {r : R} (h : o_11_33_3_1 G T k = some r) : ∃ p0 p1 p2 p3 p4 p5, T = T_11_33_3_1 p0 p1 p2 p3 p4 p5 ∧ G p0 p1 p2 p3 p4 p5 k = some r := by
  unfold o_11_33_3_1 at h
  split at h
  · obtain ⟨hs, h'⟩ := gd_some h
    refine ⟨_, _, _, _, _, _, (st_of (asg := [(0, _), (13, _), (161, _)]) hs ⟨by assumption, by assumption, by assumption, trivial⟩ (by assumption)).trans ?_, h'⟩
    kernel_rfl
  · cases h
def T_11_2 (p0 : Int) (p1 : Int) (p2 : List Int) (p3 : List Int) (p4 : List Int) (p5 : List Int) : St := St.mk [jk, jk, CV.ptr (0 : Nat) [], CV.ptr (1 : Nat) [], CV.ptr (2 : Nat) [], jk, CV.ptr (3 : Nat) [], jk, CV.int IntKind.i64 p0, jk, CV.int IntKind.i64 p1, jk, jk, jk, jk, jk, jk, jk, jk, jk, jk, jk, jk, jk, jk, jk, jk, jk, jk, jk, jk, jk, jk, jk, jk, jk, jk, jk, jk, jk, jk, jk, jk, jk, jk, jk, jk, jk, jk, jk, jk, jk, jk, jk, jk, jk, jk, jk, jk, jk, jk, jk, jk, jk, jk, jk, jk, jk, jk, jk, jk, jk] [Blk.mem (CV.pure (Ty.arr (32 : Nat) (Ty.int IntKind.u8)) p2), Blk.mem (CV.pure (Ty.arr (8 : Nat) (Ty.int IntKind.u32)) p3), Blk.mem (CV.pure (Ty.arr (64 : Nat) (Ty.int IntKind.u32)) p4), Blk.mem (CV.pure (Ty.arr (128 : Nat) (Ty.int IntKind.u8)) p5)] (0 : Nat)
def X_11_2_0 (p2 : List Int) (p3 : List Int) : St := St.mk [jk, jk, CV.ptr (0 : Nat) [], CV.ptr (1 : Nat) [], jk, jk, jk, jk, jk, jk, jk, jk, jk, jk, jk, jk, jk, jk, jk, jk, jk, jk, jk, jk, jk, jk, jk, jk, jk, jk, jk, jk, jk, jk, jk, jk, jk, jk, jk, jk, jk, jk, jk, jk, jk, jk, jk, jk, jk, jk, jk, jk, jk, jk, jk, jk, jk, jk, jk, jk, jk, jk, jk, jk, jk, jk, jk, jk, jk, jk, jk, jk] [Blk.mem (CV.pure (Ty.arr (32 : Nat) (Ty.int IntKind.u8)) p2), Blk.mem (CV.pure (Ty.arr (8 : Nat) (Ty.int IntKind.u32)) p3)] (0 : Nat)
inductive Sp.E_11_2 where
  | e0 (p2 : List Int) (p3 : List Int)
def Sp.B_11_2 {R : Type} (r : Option Sp.E_11_2) (k0 : (List Int) → (List Int) → Option R) : Option R := match r with
  | none => none
  | some (.e0 p2 p3) => k0 p2 p3
def Sp.L_11_2 : Nat → (Int) → (Int) → (List Int) → (List Int) → (List Int) → (List Int) → Option Sp.E_11_2
  | 0, _, _, _, _, _, _ => none
  | m + 1, p0, p1, p2, p3, p4, p5 => bif decide (p1 < p0) then gd (sl3 p1 (IntKind.wrap IntKind.i64 (p1 + (64 : Int))) (128 : Int)) (Sp.B_11_33_0_1 (Sp.L_11_33_0_1 (4611686018427387904 : Nat) (Int.toNat p1) (Int.toNat (IntKind.wrap IntKind.i64 (p1 + (64 : Int))) - Int.toNat p1) ((128 : Nat) - Int.toNat p1) (0 : Int) p2 p3 p4 p5 (List.replicate (64 : Nat) (0 : Int))) fun (y19 y20 y21 y22 y23 : List Int) => Sp.B_11_33_1_1 (Sp.L_11_33_1_1 (4611686018427387904 : Nat) (16 : Int) y19 y20 y21 y22 y23) fun (y24 y25 y26 y27 y28 : List Int) => Sp.B_11_33_2_1 (Sp.L_11_33_2_1 (4611686018427387904 : Nat) (0 : Int) y24 y25 y26 y27 y28 y25) fun (y29 y30 y31 y32 y33 : List Int) => Sp.B_11_33_3_1 (Sp.L_11_33_3_1 (4611686018427387904 : Nat) (0 : Int) y29 y30 y31 y32 y33) fun (y34 y35 y36 y37 : List Int) => Sp.L_11_2 m p0 (IntKind.wrap IntKind.i64 (p1 + (64 : Int))) y34 y35 y36 y37) else some (Sp.E_11_2.e0 p2 p3)
def G_11_2 {R : Type} (p0 : Int) (p1 : Int) (p2 : List Int) (p3 : List Int) (p4 : List Int) (p5 : List Int) (k : Ex → St → Option R) : Option R := Sp.B_11_2 (Sp.L_11_2 FU p0 p1 p2 p3 p4 p5) (fun p2 p3 => k (Ex.exit (2 : Nat)) (X_11_2_0 p2 p3))
def o_11_2 {R : Type} (G : (Int) → (Int) → (List Int) → (List Int) → (List Int) → (List Int) → (Ex → St → Option R) → Option R) : St → (Ex → St → Option R) → Option R := fun T k => match T.sl.getD 2 .junk, T.sl.getD 3 .junk, T.sl.getD 4 .junk, T.sl.getD 6 .junk, T.sl.getD 8 .junk, T.sl.getD 10 .junk, T.hp with
  | CV.ptr (0 : Nat) [], CV.ptr (1 : Nat) [], CV.ptr (2 : Nat) [], CV.ptr (3 : Nat) [], CV.int IntKind.i64 p0, CV.int IntKind.i64 p1, ((Blk.mem (CV.pure (Ty.arr (32 : Nat) (Ty.int IntKind.u8)) p2)) :: (Blk.mem (CV.pure (Ty.arr (8 : Nat) (Ty.int IntKind.u32)) p3)) :: (Blk.mem (CV.pure (Ty.arr (64 : Nat) (Ty.int IntKind.u32)) p4)) :: (Blk.mem (CV.pure (Ty.arr (128 : Nat) (Ty.int IntKind.u8)) p5)) :: []) => gd (shapeOK T 72 [2, 3, 4, 6, 8, 10] (0 : Nat)) (G p0 p1 p2 p3 p4 p5 k)
  | _, _, _, _, _, _, _ => none
theorem o_11_2_inv {R : Type} {G : (Int) → (Int) → (List Int) → (List Int) → (List Int) → (List Int) → (Ex → St → Option R) → Option R} {T : St} {k : Ex → St → Option R} {r : R} (h : o_11_2 G T k = some r) : ∃ p0 p1 p2 p3 p4 p5, T = T_11_2 p0 p1 p2 p3 p4 p5 ∧ G p0 p1 p2 p3 p4 p5 k = some r := by
  unfold o_11_2 at h
  split at h
  · obtain ⟨hs, h'⟩ := gd_some h
    refine ⟨_, _, _, _, _, _, (st_of (asg := [(2, _), (3, _), (4, _), (6, _), (8, _), (10, _)]) hs ⟨by assumption, by assumption, by assumption, by assumption, by assumption, by assumption, trivial⟩ (by assumption)).trans ?_, h'⟩
    kernel_rfl
  · cases h
def T_11_3 (p0 : List Int) (p1 : Int) (p2 : List Int) (p3 : List Int) : St := St.mk [jk, jk, CV.ptr (0 : Nat) [], jk, jk, jk, jk, jk, jk, jk, jk, CV.ptr (1 : Nat) [], jk, jk, jk, jk, jk, jk, jk, jk, jk, jk, jk, jk, jk, jk, jk, jk, jk, jk, jk, jk, jk, jk, jk, jk, jk, jk, jk, jk, jk, jk, jk, jk, jk, jk, jk, jk, jk, jk, jk, jk, jk, jk, jk, jk, jk, jk, jk, jk, CV.pure (Ty.arr (8 : Nat) (Ty.int IntKind.u32)) p0, CV.int IntKind.i64 p1, jk, jk, jk, jk, jk, jk, jk, jk, jk, jk] [Blk.mem (CV.pure (Ty.arr (32 : Nat) (Ty.int IntKind.u8)) p2), Blk.mem (CV.pure (Ty.arr (32 : Nat) (Ty.int IntKind.u8)) p3)] (0 : Nat)
def X_11_3_0 (p2 : List Int) (p3 : List Int) : St := St.mk [jk, jk, CV.ptr (0 : Nat) [], jk, jk, jk, jk, jk, jk, jk, jk, CV.ptr (1 : Nat) [], jk, jk, jk, jk, jk, jk, jk, jk, jk, jk, jk, jk, jk, jk, jk, jk, jk, jk, jk, jk, jk, jk, jk, jk, jk, jk, jk, jk, jk, jk, jk, jk, jk, jk, jk, jk, jk, jk, jk, jk, jk, jk, jk, jk, jk, jk, jk, jk, jk, jk, jk, jk, jk, jk, jk, jk, jk, jk, jk, jk] [Blk.mem (CV.pure (Ty.arr (32 : Nat) (Ty.int IntKind.u8)) p2), Blk.mem (CV.pure (Ty.arr (32 : Nat) (Ty.int IntKind.u8)) p3)] (0 : Nat)
inductive Sp.E_11_3 where
  | e0 (p2 : List Int) (p3 : List Int)
def Sp.B_11_3 {R : Type} (r : Option Sp.E_11_3) (k0 : (List Int) → (List Int) → Option R) : Option R := match r with
  | none => none
  | some (.e0 p2 p3) => k0 p2 p3
def Sp.L_11_3 : Nat → (List Int) → (Int) → (List Int) → (List Int) → Option Sp.E_11_3
  | 0, _, _, _, _ => none
  | m + 1, p0, p1, p2, p3 => bif decide (p1 < (8 : Int)) then gd (inB p1 (8 : Nat)) (gd (sl3 (IntKind.wrap IntKind.i64 ((4 : Int) * p1)) (32 : Int) (32 : Int)) (gd (inB (0 : Int) ((32 : Nat) - Int.toNat (IntKind.wrap IntKind.i64 ((4 : Int) * p1)))) (gd (decide (Int.toNat (IntKind.wrap IntKind.i64 ((4 : Int) * p1)) + (0 : Nat) < (32 : Nat)) && true) (gd (inB (1 : Int) ((32 : Nat) - Int.toNat (IntKind.wrap IntKind.i64 ((4 : Int) * p1)))) (gd (decide (Int.toNat (IntKind.wrap IntKind.i64 ((4 : Int) * p1)) + (1 : Nat) < (32 : Nat)) && true) (gd (inB (2 : Int) ((32 : Nat) - Int.toNat (IntKind.wrap IntKind.i64 ((4 : Int) * p1)))) (gd (decide (Int.toNat (IntKind.wrap IntKind.i64 ((4 : Int) * p1)) + (2 : Nat) < (32 : Nat)) && true) (gd (inB (3 : Int) ((32 : Nat) - Int.toNat (IntKind.wrap IntKind.i64 ((4 : Int) * p1)))) (gd (decide (Int.toNat (IntKind.wrap IntKind.i64 ((4 : Int) * p1)) + (3 : Nat) < (32 : Nat)) && true) (Sp.L_11_3 m p0 (IntKind.wrap IntKind.i64 (p1 + (1 : Int))) p2 (List.set (List.set (List.set (List.set p3 (Int.toNat (IntKind.wrap IntKind.i64 ((4 : Int) * p1)) + (0 : Nat)) (IntKind.wrap IntKind.u8 (Int.fdiv (List.getD p0 (Int.toNat p1) (0 : Int)) (16777216 : Int)))) (Int.toNat (IntKind.wrap IntKind.i64 ((4 : Int) * p1)) + (1 : Nat)) (IntKind.wrap IntKind.u8 (Int.fdiv (List.getD p0 (Int.toNat p1) (0 : Int)) (65536 : Int)))) (Int.toNat (IntKind.wrap IntKind.i64 ((4 : Int) * p1)) + (2 : Nat)) (IntKind.wrap IntKind.u8 (Int.fdiv (List.getD p0 (Int.toNat p1) (0 : Int)) (256 : Int)))) (Int.toNat (IntKind.wrap IntKind.i64 ((4 : Int) * p1)) + (3 : Nat)) (IntKind.wrap IntKind.u8 (List.getD p0 (Int.toNat p1) (0 : Int)))))))))))))) else some (Sp.E_11_3.e0 p2 p3)
def G_11_3 {R : Type} (p0 : List Int) (p1 : Int) (p2 : List Int) (p3 : List Int) (k : Ex → St → Option R) : Option R := Sp.B_11_3 (Sp.L_11_3 FU p0 p1 p2 p3) (fun p2 p3 => k (Ex.exit (4 : Nat)) (X_11_3_0 p2 p3))
def o_11_3 {R : Type} (G : (List Int) → (Int) → (List Int) → (List Int) → (Ex → St → Option R) → Option R) : St → (Ex → St → Option R) → Option R := fun T k => match T.sl.getD 2 .junk, T.sl.getD 11 .junk, T.sl.getD 60 .junk, T.sl.getD 61 .junk, T.hp with
  | CV.ptr (0 : Nat) [], CV.ptr (1 : Nat) [], CV.pure (Ty.arr (8 : Nat) (Ty.int IntKind.u32)) p0, CV.int IntKind.i64 p1, ((Blk.mem (CV.pure (Ty.arr (32 : Nat) (Ty.int IntKind.u8)) p2)) :: (Blk.mem (CV.pure (Ty.arr (32 : Nat) (Ty.int IntKind.u8)) p3)) :: []) => gd (shapeOK T 72 [2, 11, 60, 61] (0 : Nat)) (G p0 p1 p2 p3 k)
  | _, _, _, _, _ => none
theorem o_11_3_inv {R : Type} {G : (List Int) → (Int) → (List Int) → (List Int) → (Ex → St → Option R) → Option R} {T : St} {k : Ex → St → Option R} {r : R} (h : o_11_3 G T k = some r) : ∃ p0 p1 p2 p3, T = T_11_3 p0 p1 p2 p3 ∧ G p0 p1 p2 p3 k = some r := by
  unfold o_11_3 at h
  split at h
  · obtain ⟨hs, h'⟩ := gd_some h
    refine ⟨_, _, _, _, (st_of (asg := [(2, _), (11, _), (60, _), (61, _)]) hs ⟨by assumption, by assumption, by assumption, by assumption, trivial⟩ (by assumption)).trans ?_, h'⟩
    kernel_rfl
  · cases h
def T_11_1 (p0 : List Int) (p1 : Int) (p2 : List Int) (p3 : List Int) (p4 : List Int) (p5 : List Int) : St := St.mk [CV.pure (Ty.slice (Ty.int IntKind.u8)) p0, jk, CV.ptr (0 : Nat) [], CV.ptr (1 : Nat) [], CV.ptr (2 : Nat) [], jk, CV.ptr (3 : Nat) [], jk, CV.int IntKind.i64 p1, jk, jk, jk, jk, jk, jk, jk, jk, jk, jk, jk, jk, jk, jk, jk, jk, jk, jk, jk, jk, jk, jk, jk, jk, jk, jk, jk, jk, jk, jk, jk, jk, jk, jk, jk, jk, jk, jk, jk, jk, jk, jk, jk, jk, jk, jk, jk, jk, jk, jk, jk, jk, jk, jk, jk, jk, jk, jk, jk, jk, jk, jk, jk] [Blk.mem (CV.pure (Ty.arr (32 : Nat) (Ty.int IntKind.u8)) p2), Blk.mem (CV.pure (Ty.arr (8 : Nat) (Ty.int IntKind.u32)) p3), Blk.mem (CV.pure (Ty.arr (64 : Nat) (Ty.int IntKind.u32)) p4), Blk.mem (CV.pure (Ty.arr (128 : Nat) (Ty.int IntKind.u8)) p5)] (0 : Nat)
def X_11_1_0 (y7 : List Int) : St := St.mk [jk, jk, CV.ptr (0 : Nat) [], jk, jk, jk, jk, jk, jk, jk, jk, jk, jk, jk, jk, jk, jk, jk, jk, jk, jk, jk, jk, jk, jk, jk, jk, jk, jk, jk, jk, jk, jk, jk, jk, jk, jk, jk, jk, jk, jk, jk, jk, jk, jk, jk, jk, jk, jk, jk, jk, jk, jk, jk, jk, jk, jk, jk, jk, jk, jk, jk, jk, jk, jk, jk, jk, jk, jk, jk, jk, jk] [Blk.mem (CV.pure (Ty.arr (32 : Nat) (Ty.int IntKind.u8)) y7)] (0 : Nat)
inductive Sp.E_11_1 where
  | e0 (y7 : List Int)
def Sp.B_11_1 {R : Type} (r : Option Sp.E_11_1) (k0 : (List Int) → Option R) : Option R := match r with
  | none => none
  | some (.e0 y7) => k0 y7
def Sp.J_11_1 (p0 : List Int) (p1 : Int) (p2 : List Int) (p3 : List Int) (p4 : List Int) (p5 : List Int) : Option Sp.E_11_1 :=
  gd (sl3 (IntKind.wrap IntKind.i64 (p1 - (8 : Int))) (128 : Int) (128 : Int)) (gd (inB (0 : Int) ((128 : Nat) - Int.toNat (IntKind.wrap IntKind.i64 (p1 - (8 : Int))))) (gd (decide (Int.toNat (IntKind.wrap IntKind.i64 (p1 - (8 : Int))) + (0 : Nat) < (128 : Nat)) && true) (gd (inB (1 : Int) ((128 : Nat) - Int.toNat (IntKind.wrap IntKind.i64 (p1 - (8 : Int))))) (gd (decide (Int.toNat (IntKind.wrap IntKind.i64 (p1 - (8 : Int))) + (1 : Nat) < (128 : Nat)) && true) (gd (inB (2 : Int) ((128 : Nat) - Int.toNat (IntKind.wrap IntKind.i64 (p1 - (8 : Int))))) (gd (decide (Int.toNat (IntKind.wrap IntKind.i64 (p1 - (8 : Int))) + (2 : Nat) < (128 : Nat)) && true) (gd (inB (3 : Int) ((128 : Nat) - Int.toNat (IntKind.wrap IntKind.i64 (p1 - (8 : Int))))) (gd (decide (Int.toNat (IntKind.wrap IntKind.i64 (p1 - (8 : Int))) + (3 : Nat) < (128 : Nat)) && true) (gd (sl3 (IntKind.wrap IntKind.i64 (p1 - (4 : Int))) (128 : Int) (128 : Int)) (gd (inB (0 : Int) ((128 : Nat) - Int.toNat (IntKind.wrap IntKind.i64 (p1 - (4 : Int))))) (gd (decide (Int.toNat (IntKind.wrap IntKind.i64 (p1 - (4 : Int))) + (0 : Nat) < (128 : Nat)) && true) (gd (inB (1 : Int) ((128 : Nat) - Int.toNat (IntKind.wrap IntKind.i64 (p1 - (4 : Int))))) (gd (decide (Int.toNat (IntKind.wrap IntKind.i64 (p1 - (4 : Int))) + (1 : Nat) < (128 : Nat)) && true) (gd (inB (2 : Int) ((128 : Nat) - Int.toNat (IntKind.wrap IntKind.i64 (p1 - (4 : Int))))) (gd (decide (Int.toNat (IntKind.wrap IntKind.i64 (p1 - (4 : Int))) + (2 : Nat) < (128 : Nat)) && true) (gd (inB (3 : Int) ((128 : Nat) - Int.toNat (IntKind.wrap IntKind.i64 (p1 - (4 : Int))))) (gd (decide (Int.toNat (IntKind.wrap IntKind.i64 (p1 - (4 : Int))) + (3 : Nat) < (128 : Nat)) && true) (Sp.B_11_2 (Sp.L_11_2 (4611686018427387904 : Nat) p1 (0 : Int) p2 p3 p4 (List.set (List.set (List.set (List.set (List.set (List.set (List.set (List.set p5 (Int.toNat (IntKind.wrap IntKind.i64 (p1 - (8 : Int))) + (0 : Nat)) (IntKind.wrap IntKind.u8 (Int.fdiv (IntKind.wrap IntKind.u32 (Int.fdiv (IntKind.wrap IntKind.u64 (IntKind.wrap IntKind.u64 (↑(List.length p0) : Int) * (8 : Int))) (4294967296 : Int))) (16777216 : Int)))) (Int.toNat (IntKind.wrap IntKind.i64 (p1 - (8 : Int))) + (1 : Nat)) (IntKind.wrap IntKind.u8 (Int.fdiv (IntKind.wrap IntKind.u32 (Int.fdiv (IntKind.wrap IntKind.u64 (IntKind.wrap IntKind.u64 (↑(List.length p0) : Int) * (8 : Int))) (4294967296 : Int))) (65536 : Int)))) (Int.toNat (IntKind.wrap IntKind.i64 (p1 - (8 : Int))) + (2 : Nat)) (IntKind.wrap IntKind.u8 (Int.fdiv (IntKind.wrap IntKind.u32 (Int.fdiv (IntKind.wrap IntKind.u64 (IntKind.wrap IntKind.u64 (↑(List.length p0) : Int) * (8 : Int))) (4294967296 : Int))) (256 : Int)))) (Int.toNat (IntKind.wrap IntKind.i64 (p1 - (8 : Int))) + (3 : Nat)) (IntKind.wrap IntKind.u8 (IntKind.wrap IntKind.u32 (Int.fdiv (IntKind.wrap IntKind.u64 (IntKind.wrap IntKind.u64 (↑(List.length p0) : Int) * (8 : Int))) (4294967296 : Int))))) (Int.toNat (IntKind.wrap IntKind.i64 (p1 - (4 : Int))) + (0 : Nat)) (IntKind.wrap IntKind.u8 (Int.fdiv (IntKind.wrap IntKind.u32 (IntKind.wrap IntKind.u64 (IntKind.wrap IntKind.u64 (↑(List.length p0) : Int) * (8 : Int)))) (16777216 : Int)))) (Int.toNat (IntKind.wrap IntKind.i64 (p1 - (4 : Int))) + (1 : Nat)) (IntKind.wrap IntKind.u8 (Int.fdiv (IntKind.wrap IntKind.u32 (IntKind.wrap IntKind.u64 (IntKind.wrap IntKind.u64 (↑(List.length p0) : Int) * (8 : Int)))) (65536 : Int)))) (Int.toNat (IntKind.wrap IntKind.i64 (p1 - (4 : Int))) + (2 : Nat)) (IntKind.wrap IntKind.u8 (Int.fdiv (IntKind.wrap IntKind.u32 (IntKind.wrap IntKind.u64 (IntKind.wrap IntKind.u64 (↑(List.length p0) : Int) * (8 : Int)))) (256 : Int)))) (Int.toNat (IntKind.wrap IntKind.i64 (p1 - (4 : Int))) + (3 : Nat)) (IntKind.wrap IntKind.u8 (IntKind.wrap IntKind.u32 (IntKind.wrap IntKind.u64 (IntKind.wrap IntKind.u64 (↑(List.length p0) : Int) * (8 : Int))))))) fun (y4 y5 : List Int) => Sp.B_11_3 (Sp.L_11_3 (4611686018427387904 : Nat) y5 (0 : Int) y4 (List.replicate (32 : Nat) (0 : Int))) fun (y6 y7 : List Int) => some (Sp.E_11_1.e0 y7)))))))))))))))))))
def G_11_1 {R : Type} (p0 : List Int) (p1 : Int) (p2 : List Int) (p3 : List Int) (p4 : List Int) (p5 : List Int) (k : Ex → St → Option R) : Option R := Sp.B_11_1 (Sp.J_11_1 p0 p1 p2 p3 p4 p5) (fun y7 => k Ex.ret (X_11_1_0 y7))
def o_11_1 {R : Type} (G : (List Int) → (Int) → (List Int) → (List Int) → (List Int) → (List Int) → (Ex → St → Option R) → Option R) : St → (Ex → St → Option R) → Option R := fun T k => match T.sl.getD 0 .junk, T.sl.getD 2 .junk, T.sl.getD 3 .junk, T.sl.getD 4 .junk, T.sl.getD 6 .junk, T.sl.getD 8 .junk, T.hp with
  | CV.pure (Ty.slice (Ty.int IntKind.u8)) p0, CV.ptr (0 : Nat) [], CV.ptr (1 : Nat) [], CV.ptr (2 : Nat) [], CV.ptr (3 : Nat) [], CV.int IntKind.i64 p1, ((Blk.mem (CV.pure (Ty.arr (32 : Nat) (Ty.int IntKind.u8)) p2)) :: (Blk.mem (CV.pure (Ty.arr (8 : Nat) (Ty.int IntKind.u32)) p3)) :: (Blk.mem (CV.pure (Ty.arr (64 : Nat) (Ty.int IntKind.u32)) p4)) :: (Blk.mem (CV.pure (Ty.arr (128 : Nat) (Ty.int IntKind.u8)) p5)) :: []) => gd (shapeOK T 72 [0, 2, 3, 4, 6, 8] (0 : Nat)) (G p0 p1 p2 p3 p4 p5 k)
  | _, _, _, _, _, _, _ => none
theorem o_11_1_inv {R : Type} {G : (List Int) → (Int) → (List Int) → (List Int) → (List Int) → (List Int) → (Ex → St → Option R) → Option R} {T : St} {k : Ex → St → Option R} {r : R} (h : o_11_1 G T k = some r) : ∃ p0 p1 p2 p3 p4 p5, T = T_11_1 p0 p1 p2 p3 p4 p5 ∧ G p0 p1 p2 p3 p4 p5 k = some r := by
  unfold o_11_1 at h
  split at h
  · obtain ⟨hs, h'⟩ := gd_some h
    refine ⟨_, _, _, _, _, _, (st_of (asg := [(0, _), (2, _), (3, _), (4, _), (6, _), (8, _)]) hs ⟨by assumption, by assumption, by assumption, by assumption, by assumption, by assumption, trivial⟩ (by assumption)).trans ?_, h'⟩
    kernel_rfl
  · cases h
def O_11_33_0 {R : Type} : St → (Ex → St → Option R) → Option R := fun T k => bif m_11_33_0_0 T then o_11_33_0_0 G_11_33_0_0 T k else bif m_11_33_0_1 T then o_11_33_0_1 G_11_33_0_1 T k else none
def O_11_33_1 {R : Type} : St → (Ex → St → Option R) → Option R := fun T k => bif m_11_33_1_0 T then o_11_33_1_0 G_11_33_1_0 T k else bif m_11_33_1_1 T then o_11_33_1_1 G_11_33_1_1 T k else none
def O_11_33_2 {R : Type} : St → (Ex → St → Option R) → Option R := fun T k => bif m_11_33_2_0 T then o_11_33_2_0 G_11_33_2_0 T k else bif m_11_33_2_1 T then o_11_33_2_1 G_11_33_2_1 T k else none
def O_11_33_3 {R : Type} : St → (Ex → St → Option R) → Option R := fun T k => bif m_11_33_3_0 T then o_11_33_3_0 G_11_33_3_0 T k else bif m_11_33_3_1 T then o_11_33_3_1 G_11_33_3_1 T k else none
def O_11_11_0 {R : Type} : St → (Ex → St → Option R) → Option R := fun T k => o_11_0 G_11_0 T k
def O_11_11_2 {R : Type} : St → (Ex → St → Option R) → Option R := fun T k => o_11_2 G_11_2 T k
def O_11_11_3 {R : Type} : St → (Ex → St → Option R) → Option R := fun T k => o_11_3 G_11_3 T k
def O_11_11_1 {R : Type} : St → (Ex → St → Option R) → Option R := fun T k => o_11_1 G_11_1 T k
def g_11_33 {R : Type} : List CV → List Blk → (CV → List Blk → Option R) → Option R := evFnL sm_11 FU (ovr noO (evFn sm_11 fns FU 0)) (ir33_t O_11_33_0 O_11_33_1 O_11_33_2 O_11_33_3) ir33
theorem body_11_33_0_0 {R : Type} (K0 : St → Option R) (K1 : Ex → St → Option R) (p0 : List Int) (p1 : Int) (p2 : List Int) (p3 : List Int) (p4 : List Int) (p5 : List Int) : evLB (evCodeL sm_11 FU (ovr noO (evFn sm_11 fns FU 0)) .nil ir33_b0) (St.norm ir33_v0) (T_11_33_0_0 p0 p1 p2 p3 p4 p5) K0 K1 =
  bif decide (p1 < (16 : Int)) then gd (sl3 (IntKind.wrap IntKind.i64 ((4 : Int) * p1)) (↑(List.length p0) : Int) (↑(List.length p0) : Int)) (gd (Sp.p_47 (List.drop (Int.toNat (IntKind.wrap IntKind.i64 ((4 : Int) * p1))) p0)) (gd (inB p1 (64 : Nat)) (gd (decide (Int.toNat p1 < (64 : Nat)) && true) (K0 (T_11_33_0_0 p0 (IntKind.wrap IntKind.i64 (p1 + (1 : Int))) p2 p3 p4 (List.set p5 (Int.toNat p1) (Prod.fst (Sp.v_47 (List.drop (Int.toNat (IntKind.wrap IntKind.i64 ((4 : Int) * p1))) p0))))))))) else K1 (Ex.exit (0 : Nat)) (X_11_33_0_0_0 p2 p3 p4 p5) := by kernel_rfl
theorem Bgd_11_33_0_0 {R : Type} {c : Bool} {x : Option R} {y : Option Sp.E_11_33_0_0} {k0 : (List Int) → (List Int) → (List Int) → (List Int) → Option R} (h : x = Sp.B_11_33_0_0 y k0) : gd c x = Sp.B_11_33_0_0 (gd c y) k0 := by cases c; rfl; exact h
theorem Bcond_11_33_0_0 {R : Type} {c : Bool} {x x' : Option R} {y y' : Option Sp.E_11_33_0_0} {k0 : (List Int) → (List Int) → (List Int) → (List Int) → Option R} (h : x = Sp.B_11_33_0_0 y k0) (h' : x' = Sp.B_11_33_0_0 y' k0) : (bif c then x else x') = Sp.B_11_33_0_0 (bif c then y else y') k0 := by cases c; exact h'; exact h
theorem loop_11_33_0_0 {R : Type} (k : Ex → St → Option R) : ∀ (m : Nat) (p0 : List Int) (p1 : Int) (p2 : List Int) (p3 : List Int) (p4 : List Int) (p5 : List Int), evLoopN (evCodeL sm_11 FU (ovr noO (evFn sm_11 fns FU 0)) .nil ir33_b0) (St.norm ir33_v0) m (T_11_33_0_0 p0 p1 p2 p3 p4 p5) k = Sp.B_11_33_0_0 (Sp.L_11_33_0_0 m p0 p1 p2 p3 p4 p5) (fun p2 p3 p4 p5 => k (Ex.exit (0 : Nat)) (X_11_33_0_0_0 p2 p3 p4 p5))
  | 0, _, _, _, _, _, _ => rfl
  | m + 1, p0, p1, p2, p3, p4, p5 => by
    rw [evLoopN_succ, body_11_33_0_0, Sp.L_11_33_0_0]
    repeat' first | apply Bgd_11_33_0_0 | apply Bcond_11_33_0_0 | exact loop_11_33_0_0 k m _ _ _ _ _ _ | rfl
theorem ok_11_33_0_0 {R : Type} (T : St) (k : Ex → St → Option R) (r : R) (h0 : o_11_33_0_0 G_11_33_0_0 T k = some r) : evLoopN (evCode sm_11 FU (evFn sm_11 fns FU 0) ir33_b0) (St.norm ir33_v0) FU T k = some r := by
  obtain ⟨p0, p1, p2, p3, p4, p5, rfl, h⟩ := o_11_33_0_0_inv h0
  refine evLoopN_L (t := .nil) noO_ok trivial _ _ _ _ ?_
  rw [loop_11_33_0_0]
  exact h
theorem body_11_33_0_1 {R : Type} (K0 : St → Option R) (K1 : Ex → St → Option R) (p0 : Nat) (p1 : Nat) (p2 : Nat) (p3 : Int) (p4 : List Int) (p5 : List Int) (p6 : List Int) (p7 : List Int) (p8 : List Int) : evLB (evCodeL sm_11 FU (ovr noO (evFn sm_11 fns FU 0)) .nil ir33_b0) (St.norm ir33_v0) (T_11_33_0_1 p0 p1 p2 p3 p4 p5 p6 p7 p8) K0 K1 =
  bif decide (p3 < (16 : Int)) then gd (sl3 (IntKind.wrap IntKind.i64 ((4 : Int) * p3)) (↑p1 : Int) (↑p1 : Int)) (gd (decide (p0 + Int.toNat (IntKind.wrap IntKind.i64 ((4 : Int) * p3)) + (Int.toNat (↑p1 : Int) - Int.toNat (IntKind.wrap IntKind.i64 ((4 : Int) * p3))) ≤ (128 : Nat)) && true && Sp.p_47 (List.take (Int.toNat (↑p1 : Int) - Int.toNat (IntKind.wrap IntKind.i64 ((4 : Int) * p3))) (List.drop (p0 + Int.toNat (IntKind.wrap IntKind.i64 ((4 : Int) * p3))) p7))) (gd (inB p3 (64 : Nat)) (gd (decide (Int.toNat p3 < (64 : Nat)) && true) (K0 (T_11_33_0_1 p0 p1 p2 (IntKind.wrap IntKind.i64 (p3 + (1 : Int))) p4 p5 p6 p7 (List.set p8 (Int.toNat p3) (Prod.fst (Sp.v_47 (List.take (Int.toNat (↑p1 : Int) - Int.toNat (IntKind.wrap IntKind.i64 ((4 : Int) * p3))) (List.drop (p0 + Int.toNat (IntKind.wrap IntKind.i64 ((4 : Int) * p3))) p7)))))))))) else K1 (Ex.exit (0 : Nat)) (X_11_33_0_1_0 p4 p5 p6 p7 p8) := by kernel_rfl
theorem Bgd_11_33_0_1 {R : Type} {c : Bool} {x : Option R} {y : Option Sp.E_11_33_0_1} {k0 : (List Int) → (List Int) → (List Int) → (List Int) → (List Int) → Option R} (h : x = Sp.B_11_33_0_1 y k0) : gd c x = Sp.B_11_33_0_1 (gd c y) k0 := by cases c; rfl; exact h
theorem Bcond_11_33_0_1 {R : Type} {c : Bool} {x x' : Option R} {y y' : Option Sp.E_11_33_0_1} {k0 : (List Int) → (List Int) → (List Int) → (List Int) → (List Int) → Option R} (h : x = Sp.B_11_33_0_1 y k0) (h' : x' = Sp.B_11_33_0_1 y' k0) : (bif c then x else x') = Sp.B_11_33_0_1 (bif c then y else y') k0 := by cases c; exact h'; exact h
theorem loop_11_33_0_1 {R : Type} (k : Ex → St → Option R) : ∀ (m : Nat) (p0 : Nat) (p1 : Nat) (p2 : Nat) (p3 : Int) (p4 : List Int) (p5 : List Int) (p6 : List Int) (p7 : List Int) (p8 : List Int), evLoopN (evCodeL sm_11 FU (ovr noO (evFn sm_11 fns FU 0)) .nil ir33_b0) (St.norm ir33_v0) m (T_11_33_0_1 p0 p1 p2 p3 p4 p5 p6 p7 p8) k = Sp.B_11_33_0_1 (Sp.L_11_33_0_1 m p0 p1 p2 p3 p4 p5 p6 p7 p8) (fun p4 p5 p6 p7 p8 => k (Ex.exit (0 : Nat)) (X_11_33_0_1_0 p4 p5 p6 p7 p8))
  | 0, _, _, _, _, _, _, _, _, _ => rfl
  | m + 1, p0, p1, p2, p3, p4, p5, p6, p7, p8 => by
    rw [evLoopN_succ, body_11_33_0_1, Sp.L_11_33_0_1]
    repeat' first | apply Bgd_11_33_0_1 | apply Bcond_11_33_0_1 | exact loop_11_33_0_1 k m _ _ _ _ _ _ _ _ _ | rfl
theorem ok_11_33_0_1 {R : Type} (T : St) (k : Ex → St → Option R) (r : R) (h0 : o_11_33_0_1 G_11_33_0_1 T k = some r) : evLoopN (evCode sm_11 FU (evFn sm_11 fns FU 0) ir33_b0) (St.norm ir33_v0) FU T k = some r := by
  obtain ⟨p0, p1, p2, p3, p4, p5, p6, p7, p8, rfl, h⟩ := o_11_33_0_1_inv h0
  refine evLoopN_L (t := .nil) noO_ok trivial _ _ _ _ ?_
  rw [loop_11_33_0_1]
  exact h
theorem OK_11_33_0 {R : Type} (T : St) (k : Ex → St → Option R) (r : R) (h : O_11_33_0 T k = some r) : evLoopN (evCode sm_11 FU (evFn sm_11 fns FU 0) ir33_b0) (St.norm ir33_v0) FU T k = some r := by
  unfold O_11_33_0 at h
  cases hm : m_11_33_0_0 T
  rotate_left
  · rw [hm, cond_true] at h; exact ok_11_33_0_0 T k r h
  rw [hm, cond_false] at h
  clear hm
  cases hm : m_11_33_0_1 T
  rotate_left
  · rw [hm, cond_true] at h; exact ok_11_33_0_1 T k r h
  rw [hm, cond_false] at h
  clear hm
  cases h
theorem body_11_33_1_0 {R : Type} (K0 : St → Option R) (K1 : Ex → St → Option R) (p0 : Int) (p1 : List Int) (p2 : List Int) (p3 : List Int) (p4 : List Int) : evLB (evCodeL sm_11 FU (ovr noO (evFn sm_11 fns FU 0)) .nil ir33_b1) (St.norm ir33_v1) (T_11_33_1_0 p0 p1 p2 p3 p4) K0 K1 =
  bif decide (p0 < (64 : Int)) then gd (inB (IntKind.wrap IntKind.i64 (p0 - (15 : Int))) (64 : Nat)) (gd (decide (Int.toNat (IntKind.wrap IntKind.i64 (p0 - (15 : Int))) < (64 : Nat)) && true) (gd (inB (IntKind.wrap IntKind.i64 (p0 - (2 : Int))) (64 : Nat)) (gd (decide (Int.toNat (IntKind.wrap IntKind.i64 (p0 - (2 : Int))) < (64 : Nat)) && true) (gd (Sp.p_49 (List.getD p4 (Int.toNat (IntKind.wrap IntKind.i64 (p0 - (15 : Int)))) (0 : Int)) (7 : Int)) (gd (Sp.p_49 (List.getD p4 (Int.toNat (IntKind.wrap IntKind.i64 (p0 - (15 : Int)))) (0 : Int)) (18 : Int)) (gd (Sp.p_49 (List.getD p4 (Int.toNat (IntKind.wrap IntKind.i64 (p0 - (2 : Int)))) (0 : Int)) (17 : Int)) (gd (Sp.p_49 (List.getD p4 (Int.toNat (IntKind.wrap IntKind.i64 (p0 - (2 : Int)))) (0 : Int)) (19 : Int)) (gd (inB (IntKind.wrap IntKind.i64 (p0 - (7 : Int))) (64 : Nat)) (gd (decide (Int.toNat (IntKind.wrap IntKind.i64 (p0 - (7 : Int))) < (64 : Nat)) && true) (gd (inB (IntKind.wrap IntKind.i64 (p0 - (16 : Int))) (64 : Nat)) (gd (decide (Int.toNat (IntKind.wrap IntKind.i64 (p0 - (16 : Int))) < (64 : Nat)) && true) (gd (inB p0 (64 : Nat)) (gd (decide (Int.toNat p0 < (64 : Nat)) && true) (K0 (T_11_33_1_0 (IntKind.wrap IntKind.i64 (p0 + (1 : Int))) p1 p2 p3 (List.set p4 (Int.toNat p0) (IntKind.wrap IntKind.u32 (IntKind.wrap IntKind.u32 (IntKind.wrap IntKind.u32 (Sp.xorI IntKind.u32 (Sp.xorI IntKind.u32 (Prod.fst (Sp.v_49 (List.getD p4 (Int.toNat (IntKind.wrap IntKind.i64 (p0 - (2 : Int)))) (0 : Int)) (17 : Int))) (Prod.fst (Sp.v_49 (List.getD p4 (Int.toNat (IntKind.wrap IntKind.i64 (p0 - (2 : Int)))) (0 : Int)) (19 : Int)))) (Int.fdiv (List.getD p4 (Int.toNat (IntKind.wrap IntKind.i64 (p0 - (2 : Int)))) (0 : Int)) (1024 : Int)) + List.getD p4 (Int.toNat (IntKind.wrap IntKind.i64 (p0 - (7 : Int)))) (0 : Int)) + Sp.xorI IntKind.u32 (Sp.xorI IntKind.u32 (Prod.fst (Sp.v_49 (List.getD p4 (Int.toNat (IntKind.wrap IntKind.i64 (p0 - (15 : Int)))) (0 : Int)) (7 : Int))) (Prod.fst (Sp.v_49 (List.getD p4 (Int.toNat (IntKind.wrap IntKind.i64 (p0 - (15 : Int)))) (0 : Int)) (18 : Int)))) (Int.fdiv (List.getD p4 (Int.toNat (IntKind.wrap IntKind.i64 (p0 - (15 : Int)))) (0 : Int)) (8 : Int))) + List.getD p4 (Int.toNat (IntKind.wrap IntKind.i64 (p0 - (16 : Int)))) (0 : Int))))))))))))))))))) else K1 (Ex.exit (2 : Nat)) (X_11_33_1_0_0 p1 p2 p3 p4) := by kernel_rfl
theorem Bgd_11_33_1_0 {R : Type} {c : Bool} {x : Option R} {y : Option Sp.E_11_33_1_0} {k0 : (List Int) → (List Int) → (List Int) → (List Int) → Option R} (h : x = Sp.B_11_33_1_0 y k0) : gd c x = Sp.B_11_33_1_0 (gd c y) k0 := by cases c; rfl; exact h
theorem Bcond_11_33_1_0 {R : Type} {c : Bool} {x x' : Option R} {y y' : Option Sp.E_11_33_1_0} {k0 : (List Int) → (List Int) → (List Int) → (List Int) → Option R} (h : x = Sp.B_11_33_1_0 y k0) (h' : x' = Sp.B_11_33_1_0 y' k0) : (bif c then x else x') = Sp.B_11_33_1_0 (bif c then y else y') k0 := by cases c; exact h'; exact h
theorem loop_11_33_1_0 {R : Type} (k : Ex → St → Option R) : ∀ (m : Nat) (p0 : Int) (p1 : List Int) (p2 : List Int) (p3 : List Int) (p4 : List Int), evLoopN (evCodeL sm_11 FU (ovr noO (evFn sm_11 fns FU 0)) .nil ir33_b1) (St.norm ir33_v1) m (T_11_33_1_0 p0 p1 p2 p3 p4) k = Sp.B_11_33_1_0 (Sp.L_11_33_1_0 m p0 p1 p2 p3 p4) (fun p1 p2 p3 p4 => k (Ex.exit (2 : Nat)) (X_11_33_1_0_0 p1 p2 p3 p4))
  | 0, _, _, _, _, _ => rfl
  | m + 1, p0, p1, p2, p3, p4 => by
    rw [evLoopN_succ, body_11_33_1_0, Sp.L_11_33_1_0]
    repeat' first | apply Bgd_11_33_1_0 | apply Bcond_11_33_1_0 | exact loop_11_33_1_0 k m _ _ _ _ _ | rfl
theorem ok_11_33_1_0 {R : Type} (T : St) (k : Ex → St → Option R) (r : R) (h0 : o_11_33_1_0 G_11_33_1_0 T k = some r) : evLoopN (evCode sm_11 FU (evFn sm_11 fns FU 0) ir33_b1) (St.norm ir33_v1) FU T k = some r := by
  obtain ⟨p0, p1, p2, p3, p4, rfl, h⟩ := o_11_33_1_0_inv h0
  refine evLoopN_L (t := .nil) noO_ok trivial _ _ _ _ ?_
  rw [loop_11_33_1_0]
  exact h
theorem body_11_33_1_1 {R : Type} (K0 : St → Option R) (K1 : Ex → St → Option R) (p0 : Int) (p1 : List Int) (p2 : List Int) (p3 : List Int) (p4 : List Int) (p5 : List Int) : evLB (evCodeL sm_11 FU (ovr noO (evFn sm_11 fns FU 0)) .nil ir33_b1) (St.norm ir33_v1) (T_11_33_1_1 p0 p1 p2 p3 p4 p5) K0 K1 =
  bif decide (p0 < (64 : Int)) then gd (inB (IntKind.wrap IntKind.i64 (p0 - (15 : Int))) (64 : Nat)) (gd (decide (Int.toNat (IntKind.wrap IntKind.i64 (p0 - (15 : Int))) < (64 : Nat)) && true) (gd (inB (IntKind.wrap IntKind.i64 (p0 - (2 : Int))) (64 : Nat)) (gd (decide (Int.toNat (IntKind.wrap IntKind.i64 (p0 - (2 : Int))) < (64 : Nat)) && true) (gd (Sp.p_49 (List.getD p5 (Int.toNat (IntKind.wrap IntKind.i64 (p0 - (15 : Int)))) (0 : Int)) (7 : Int)) (gd (Sp.p_49 (List.getD p5 (Int.toNat (IntKind.wrap IntKind.i64 (p0 - (15 : Int)))) (0 : Int)) (18 : Int)) (gd (Sp.p_49 (List.getD p5 (Int.toNat (IntKind.wrap IntKind.i64 (p0 - (2 : Int)))) (0 : Int)) (17 : Int)) (gd (Sp.p_49 (List.getD p5 (Int.toNat (IntKind.wrap IntKind.i64 (p0 - (2 : Int)))) (0 : Int)) (19 : Int)) (gd (inB (IntKind.wrap IntKind.i64 (p0 - (7 : Int))) (64 : Nat)) (gd (decide (Int.toNat (IntKind.wrap IntKind.i64 (p0 - (7 : Int))) < (64 : Nat)) && true) (gd (inB (IntKind.wrap IntKind.i64 (p0 - (16 : Int))) (64 : Nat)) (gd (decide (Int.toNat (IntKind.wrap IntKind.i64 (p0 - (16 : Int))) < (64 : Nat)) && true) (gd (inB p0 (64 : Nat)) (gd (decide (Int.toNat p0 < (64 : Nat)) && true) (K0 (T_11_33_1_1 (IntKind.wrap IntKind.i64 (p0 + (1 : Int))) p1 p2 p3 p4 (List.set p5 (Int.toNat p0) (IntKind.wrap IntKind.u32 (IntKind.wrap IntKind.u32 (IntKind.wrap IntKind.u32 (Sp.xorI IntKind.u32 (Sp.xorI IntKind.u32 (Prod.fst (Sp.v_49 (List.getD p5 (Int.toNat (IntKind.wrap IntKind.i64 (p0 - (2 : Int)))) (0 : Int)) (17 : Int))) (Prod.fst (Sp.v_49 (List.getD p5 (Int.toNat (IntKind.wrap IntKind.i64 (p0 - (2 : Int)))) (0 : Int)) (19 : Int)))) (Int.fdiv (List.getD p5 (Int.toNat (IntKind.wrap IntKind.i64 (p0 - (2 : Int)))) (0 : Int)) (1024 : Int)) + List.getD p5 (Int.toNat (IntKind.wrap IntKind.i64 (p0 - (7 : Int)))) (0 : Int)) + Sp.xorI IntKind.u32 (Sp.xorI IntKind.u32 (Prod.fst (Sp.v_49 (List.getD p5 (Int.toNat (IntKind.wrap IntKind.i64 (p0 - (15 : Int)))) (0 : Int)) (7 : Int))) (Prod.fst (Sp.v_49 (List.getD p5 (Int.toNat (IntKind.wrap IntKind.i64 (p0 - (15 : Int)))) (0 : Int)) (18 : Int)))) (Int.fdiv (List.getD p5 (Int.toNat (IntKind.wrap IntKind.i64 (p0 - (15 : Int)))) (0 : Int)) (8 : Int))) + List.getD p5 (Int.toNat (IntKind.wrap IntKind.i64 (p0 - (16 : Int)))) (0 : Int))))))))))))))))))) else K1 (Ex.exit (2 : Nat)) (X_11_33_1_1_0 p1 p2 p3 p4 p5) := by kernel_rfl
theorem Bgd_11_33_1_1 {R : Type} {c : Bool} {x : Option R} {y : Option Sp.E_11_33_1_1} {k0 : (List Int) → (List Int) → (List Int) → (List Int) → (List Int) → Option R} (h : x = Sp.B_11_33_1_1 y k0) : gd c x = Sp.B_11_33_1_1 (gd c y) k0 := by cases c; rfl; exact h
theorem Bcond_11_33_1_1 {R : Type} {c : Bool} {x x' : Option R} {y y' : Option Sp.E_11_33_1_1} {k0 : (List Int) → (List Int) → (List Int) → (List Int) → (List Int) → Option R} (h : x = Sp.B_11_33_1_1 y k0) (h' : x' = Sp.B_11_33_1_1 y' k0) : (bif c then x else x') = Sp.B_11_33_1_1 (bif c then y else y') k0 := by cases c; exact h'; exact h
theorem loop_11_33_1_1 {R : Type} (k : Ex → St → Option R) : ∀ (m : Nat) (p0 : Int) (p1 : List Int) (p2 : List Int) (p3 : List Int) (p4 : List Int) (p5 : List Int), evLoopN (evCodeL sm_11 FU (ovr noO (evFn sm_11 fns FU 0)) .nil ir33_b1) (St.norm ir33_v1) m (T_11_33_1_1 p0 p1 p2 p3 p4 p5) k = Sp.B_11_33_1_1 (Sp.L_11_33_1_1 m p0 p1 p2 p3 p4 p5) (fun p1 p2 p3 p4 p5 => k (Ex.exit (2 : Nat)) (X_11_33_1_1_0 p1 p2 p3 p4 p5))
  | 0, _, _, _, _, _, _ => rfl
  | m + 1, p0, p1, p2, p3, p4, p5 => by
    rw [evLoopN_succ, body_11_33_1_1, Sp.L_11_33_1_1]
    repeat' first | apply Bgd_11_33_1_1 | apply Bcond_11_33_1_1 | exact loop_11_33_1_1 k m _ _ _ _ _ _ | rfl
theorem ok_11_33_1_1 {R : Type} (T : St) (k : Ex → St → Option R) (r : R) (h0 : o_11_33_1_1 G_11_33_1_1 T k = some r) : evLoopN (evCode sm_11 FU (evFn sm_11 fns FU 0) ir33_b1) (St.norm ir33_v1) FU T k = some r := by
  obtain ⟨p0, p1, p2, p3, p4, p5, rfl, h⟩ := o_11_33_1_1_inv h0
  refine evLoopN_L (t := .nil) noO_ok trivial _ _ _ _ ?_
  rw [loop_11_33_1_1]
  exact h
theorem OK_11_33_1 {R : Type} (T : St) (k : Ex → St → Option R) (r : R) (h : O_11_33_1 T k = some r) : evLoopN (evCode sm_11 FU (evFn sm_11 fns FU 0) ir33_b1) (St.norm ir33_v1) FU T k = some r := by
  unfold O_11_33_1 at h
  cases hm : m_11_33_1_0 T
  rotate_left
  · rw [hm, cond_true] at h; exact ok_11_33_1_0 T k r h
  rw [hm, cond_false] at h
  clear hm
  cases hm : m_11_33_1_1 T
  rotate_left
  · rw [hm, cond_true] at h; exact ok_11_33_1_1 T k r h
  rw [hm, cond_false] at h
  clear hm
  cases h
theorem body_11_33_2_0 {R : Type} (K0 : St → Option R) (K1 : Ex → St → Option R) (p0 : Int) (p1 : List Int) (p2 : List Int) (p3 : List Int) (p4 : List Int) (p5 : List Int) : evLB (evCodeL sm_11 FU (ovr noO (evFn sm_11 fns FU 0)) .nil ir33_b2) (St.norm ir33_v2) (T_11_33_2_0 p0 p1 p2 p3 p4 p5) K0 K1 =
  bif decide (p0 < (64 : Int)) then gd (Sp.p_49 (List.getD p5 (4 : Nat) (0 : Int)) (6 : Int)) (gd (Sp.p_49 (List.getD p5 (4 : Nat) (0 : Int)) (11 : Int)) (gd (Sp.p_49 (List.getD p5 (4 : Nat) (0 : Int)) (25 : Int)) (gd (inB p0 (64 : Nat)) (gd (decide (Int.toNat p0 < (64 : Nat)) && true) (gd (inB p0 (64 : Nat)) (gd (decide (Int.toNat p0 < (64 : Nat)) && true) (gd (Sp.p_49 (List.getD p5 (0 : Nat) (0 : Int)) (2 : Int)) (gd (Sp.p_49 (List.getD p5 (0 : Nat) (0 : Int)) (13 : Int)) (gd (Sp.p_49 (List.getD p5 (0 : Nat) (0 : Int)) (22 : Int)) (K0 (T_11_33_2_0 (IntKind.wrap IntKind.i64 (p0 + (1 : Int))) p1 p2 p3 p4 [IntKind.wrap IntKind.u32 (IntKind.wrap IntKind.u32 (IntKind.wrap IntKind.u32 (IntKind.wrap IntKind.u32 (IntKind.wrap IntKind.u32 (List.getD p5 (7 : Nat) (0 : Int) + Sp.xorI IntKind.u32 (Sp.xorI IntKind.u32 (Prod.fst (Sp.v_49 (List.getD p5 (4 : Nat) (0 : Int)) (6 : Int))) (Prod.fst (Sp.v_49 (List.getD p5 (4 : Nat) (0 : Int)) (11 : Int)))) (Prod.fst (Sp.v_49 (List.getD p5 (4 : Nat) (0 : Int)) (25 : Int)))) + Sp.xorI IntKind.u32 (Sp.andI IntKind.u32 (List.getD p5 (4 : Nat) (0 : Int)) (List.getD p5 (5 : Nat) (0 : Int))) (Sp.andI IntKind.u32 (Sp.xorI IntKind.u32 (4294967295 : Int) (List.getD p5 (4 : Nat) (0 : Int))) (List.getD p5 (6 : Nat) (0 : Int)))) + List.getD p3 (Int.toNat p0) (0 : Int)) + List.getD p4 (Int.toNat p0) (0 : Int)) + IntKind.wrap IntKind.u32 (Sp.xorI IntKind.u32 (Sp.xorI IntKind.u32 (Prod.fst (Sp.v_49 (List.getD p5 (0 : Nat) (0 : Int)) (2 : Int))) (Prod.fst (Sp.v_49 (List.getD p5 (0 : Nat) (0 : Int)) (13 : Int)))) (Prod.fst (Sp.v_49 (List.getD p5 (0 : Nat) (0 : Int)) (22 : Int))) + Sp.xorI IntKind.u32 (Sp.xorI IntKind.u32 (Sp.andI IntKind.u32 (List.getD p5 (0 : Nat) (0 : Int)) (List.getD p5 (1 : Nat) (0 : Int))) (Sp.andI IntKind.u32 (List.getD p5 (0 : Nat) (0 : Int)) (List.getD p5 (2 : Nat) (0 : Int)))) (Sp.andI IntKind.u32 (List.getD p5 (1 : Nat) (0 : Int)) (List.getD p5 (2 : Nat) (0 : Int))))), List.getD p5 (0 : Nat) (0 : Int), List.getD p5 (1 : Nat) (0 : Int), List.getD p5 (2 : Nat) (0 : Int), IntKind.wrap IntKind.u32 (List.getD p5 (3 : Nat) (0 : Int) + IntKind.wrap IntKind.u32 (IntKind.wrap IntKind.u32 (IntKind.wrap IntKind.u32 (IntKind.wrap IntKind.u32 (List.getD p5 (7 : Nat) (0 : Int) + Sp.xorI IntKind.u32 (Sp.xorI IntKind.u32 (Prod.fst (Sp.v_49 (List.getD p5 (4 : Nat) (0 : Int)) (6 : Int))) (Prod.fst (Sp.v_49 (List.getD p5 (4 : Nat) (0 : Int)) (11 : Int)))) (Prod.fst (Sp.v_49 (List.getD p5 (4 : Nat) (0 : Int)) (25 : Int)))) + Sp.xorI IntKind.u32 (Sp.andI IntKind.u32 (List.getD p5 (4 : Nat) (0 : Int)) (List.getD p5 (5 : Nat) (0 : Int))) (Sp.andI IntKind.u32 (Sp.xorI IntKind.u32 (4294967295 : Int) (List.getD p5 (4 : Nat) (0 : Int))) (List.getD p5 (6 : Nat) (0 : Int)))) + List.getD p3 (Int.toNat p0) (0 : Int)) + List.getD p4 (Int.toNat p0) (0 : Int))), List.getD p5 (4 : Nat) (0 : Int), List.getD p5 (5 : Nat) (0 : Int), List.getD p5 (6 : Nat) (0 : Int)]))))))))))) else K1 (Ex.exit (4 : Nat)) (X_11_33_2_0_0 p1 p2 p3 p5) := by kernel_rfl
theorem Bgd_11_33_2_0 {R : Type} {c : Bool} {x : Option R} {y : Option Sp.E_11_33_2_0} {k0 : (List Int) → (List Int) → (List Int) → (List Int) → Option R} (h : x = Sp.B_11_33_2_0 y k0) : gd c x = Sp.B_11_33_2_0 (gd c y) k0 := by cases c; rfl; exact h
theorem Bcond_11_33_2_0 {R : Type} {c : Bool} {x x' : Option R} {y y' : Option Sp.E_11_33_2_0} {k0 : (List Int) → (List Int) → (List Int) → (List Int) → Option R} (h : x = Sp.B_11_33_2_0 y k0) (h' : x' = Sp.B_11_33_2_0 y' k0) : (bif c then x else x') = Sp.B_11_33_2_0 (bif c then y else y') k0 := by cases c; exact h'; exact h
theorem loop_11_33_2_0 {R : Type} (k : Ex → St → Option R) : ∀ (m : Nat) (p0 : Int) (p1 : List Int) (p2 : List Int) (p3 : List Int) (p4 : List Int) (p5 : List Int), evLoopN (evCodeL sm_11 FU (ovr noO (evFn sm_11 fns FU 0)) .nil ir33_b2) (St.norm ir33_v2) m (T_11_33_2_0 p0 p1 p2 p3 p4 p5) k = Sp.B_11_33_2_0 (Sp.L_11_33_2_0 m p0 p1 p2 p3 p4 p5) (fun p1 p2 p3 p5 => k (Ex.exit (4 : Nat)) (X_11_33_2_0_0 p1 p2 p3 p5))
  | 0, _, _, _, _, _, _ => rfl
  | m + 1, p0, p1, p2, p3, p4, p5 => by
    rw [evLoopN_succ, body_11_33_2_0, Sp.L_11_33_2_0]
    repeat' first | apply Bgd_11_33_2_0 | apply Bcond_11_33_2_0 | exact loop_11_33_2_0 k m _ _ _ _ _ _ | rfl
theorem ok_11_33_2_0 {R : Type} (T : St) (k : Ex → St → Option R) (r : R) (h0 : o_11_33_2_0 G_11_33_2_0 T k = some r) : evLoopN (evCode sm_11 FU (evFn sm_11 fns FU 0) ir33_b2) (St.norm ir33_v2) FU T k = some r := by
  obtain ⟨p0, p1, p2, p3, p4, p5, rfl, h⟩ := o_11_33_2_0_inv h0
  refine evLoopN_L (t := .nil) noO_ok trivial _ _ _ _ ?_
  rw [loop_11_33_2_0]
  exact h
theorem body_11_33_2_1 {R : Type} (K0 : St → Option R) (K1 : Ex → St → Option R) (p0 : Int) (p1 : List Int) (p2 : List Int) (p3 : List Int) (p4 : List Int) (p5 : List Int) (p6 : List Int) : evLB (evCodeL sm_11 FU (ovr noO (evFn sm_11 fns FU 0)) .nil ir33_b2) (St.norm ir33_v2) (T_11_33_2_1 p0 p1 p2 p3 p4 p5 p6) K0 K1 =
  bif decide (p0 < (64 : Int)) then gd (Sp.p_49 (List.getD p6 (4 : Nat) (0 : Int)) (6 : Int)) (gd (Sp.p_49 (List.getD p6 (4 : Nat) (0 : Int)) (11 : Int)) (gd (Sp.p_49 (List.getD p6 (4 : Nat) (0 : Int)) (25 : Int)) (gd (inB p0 (64 : Nat)) (gd (decide (Int.toNat p0 < (64 : Nat)) && true) (gd (inB p0 (64 : Nat)) (gd (decide (Int.toNat p0 < (64 : Nat)) && true) (gd (Sp.p_49 (List.getD p6 (0 : Nat) (0 : Int)) (2 : Int)) (gd (Sp.p_49 (List.getD p6 (0 : Nat) (0 : Int)) (13 : Int)) (gd (Sp.p_49 (List.getD p6 (0 : Nat) (0 : Int)) (22 : Int)) (K0 (T_11_33_2_1 (IntKind.wrap IntKind.i64 (p0 + (1 : Int))) p1 p2 p3 p4 p5 [IntKind.wrap IntKind.u32 (IntKind.wrap IntKind.u32 (IntKind.wrap IntKind.u32 (IntKind.wrap IntKind.u32 (IntKind.wrap IntKind.u32 (List.getD p6 (7 : Nat) (0 : Int) + Sp.xorI IntKind.u32 (Sp.xorI IntKind.u32 (Prod.fst (Sp.v_49 (List.getD p6 (4 : Nat) (0 : Int)) (6 : Int))) (Prod.fst (Sp.v_49 (List.getD p6 (4 : Nat) (0 : Int)) (11 : Int)))) (Prod.fst (Sp.v_49 (List.getD p6 (4 : Nat) (0 : Int)) (25 : Int)))) + Sp.xorI IntKind.u32 (Sp.andI IntKind.u32 (List.getD p6 (4 : Nat) (0 : Int)) (List.getD p6 (5 : Nat) (0 : Int))) (Sp.andI IntKind.u32 (Sp.xorI IntKind.u32 (4294967295 : Int) (List.getD p6 (4 : Nat) (0 : Int))) (List.getD p6 (6 : Nat) (0 : Int)))) + List.getD p3 (Int.toNat p0) (0 : Int)) + List.getD p5 (Int.toNat p0) (0 : Int)) + IntKind.wrap IntKind.u32 (Sp.xorI IntKind.u32 (Sp.xorI IntKind.u32 (Prod.fst (Sp.v_49 (List.getD p6 (0 : Nat) (0 : Int)) (2 : Int))) (Prod.fst (Sp.v_49 (List.getD p6 (0 : Nat) (0 : Int)) (13 : Int)))) (Prod.fst (Sp.v_49 (List.getD p6 (0 : Nat) (0 : Int)) (22 : Int))) + Sp.xorI IntKind.u32 (Sp.xorI IntKind.u32 (Sp.andI IntKind.u32 (List.getD p6 (0 : Nat) (0 : Int)) (List.getD p6 (1 : Nat) (0 : Int))) (Sp.andI IntKind.u32 (List.getD p6 (0 : Nat) (0 : Int)) (List.getD p6 (2 : Nat) (0 : Int)))) (Sp.andI IntKind.u32 (List.getD p6 (1 : Nat) (0 : Int)) (List.getD p6 (2 : Nat) (0 : Int))))), List.getD p6 (0 : Nat) (0 : Int), List.getD p6 (1 : Nat) (0 : Int), List.getD p6 (2 : Nat) (0 : Int), IntKind.wrap IntKind.u32 (List.getD p6 (3 : Nat) (0 : Int) + IntKind.wrap IntKind.u32 (IntKind.wrap IntKind.u32 (IntKind.wrap IntKind.u32 (IntKind.wrap IntKind.u32 (List.getD p6 (7 : Nat) (0 : Int) + Sp.xorI IntKind.u32 (Sp.xorI IntKind.u32 (Prod.fst (Sp.v_49 (List.getD p6 (4 : Nat) (0 : Int)) (6 : Int))) (Prod.fst (Sp.v_49 (List.getD p6 (4 : Nat) (0 : Int)) (11 : Int)))) (Prod.fst (Sp.v_49 (List.getD p6 (4 : Nat) (0 : Int)) (25 : Int)))) + Sp.xorI IntKind.u32 (Sp.andI IntKind.u32 (List.getD p6 (4 : Nat) (0 : Int)) (List.getD p6 (5 : Nat) (0 : Int))) (Sp.andI IntKind.u32 (Sp.xorI IntKind.u32 (4294967295 : Int) (List.getD p6 (4 : Nat) (0 : Int))) (List.getD p6 (6 : Nat) (0 : Int)))) + List.getD p3 (Int.toNat p0) (0 : Int)) + List.getD p5 (Int.toNat p0) (0 : Int))), List.getD p6 (4 : Nat) (0 : Int), List.getD p6 (5 : Nat) (0 : Int), List.getD p6 (6 : Nat) (0 : Int)]))))))))))) else K1 (Ex.exit (4 : Nat)) (X_11_33_2_1_0 p1 p2 p3 p4 p6) := by kernel_rfl
theorem Bgd_11_33_2_1 {R : Type} {c : Bool} {x : Option R} {y : Option Sp.E_11_33_2_1} {k0 : (List Int) → (List Int) → (List Int) → (List Int) → (List Int) → Option R} (h : x = Sp.B_11_33_2_1 y k0) : gd c x = Sp.B_11_33_2_1 (gd c y) k0 := by cases c; rfl; exact h
theorem Bcond_11_33_2_1 {R : Type} {c : Bool} {x x' : Option R} {y y' : Option Sp.E_11_33_2_1} {k0 : (List Int) → (List Int) → (List Int) → (List Int) → (List Int) → Option R} (h : x = Sp.B_11_33_2_1 y k0) (h' : x' = Sp.B_11_33_2_1 y' k0) : (bif c then x else x') = Sp.B_11_33_2_1 (bif c then y else y') k0 := by cases c; exact h'; exact h
theorem loop_11_33_2_1 {R : Type} (k : Ex → St → Option R) : ∀ (m : Nat) (p0 : Int) (p1 : List Int) (p2 : List Int) (p3 : List Int) (p4 : List Int) (p5 : List Int) (p6 : List Int), evLoopN (evCodeL sm_11 FU (ovr noO (evFn sm_11 fns FU 0)) .nil ir33_b2) (St.norm ir33_v2) m (T_11_33_2_1 p0 p1 p2 p3 p4 p5 p6) k = Sp.B_11_33_2_1 (Sp.L_11_33_2_1 m p0 p1 p2 p3 p4 p5 p6) (fun p1 p2 p3 p4 p6 => k (Ex.exit (4 : Nat)) (X_11_33_2_1_0 p1 p2 p3 p4 p6))
  | 0, _, _, _, _, _, _, _ => rfl
  | m + 1, p0, p1, p2, p3, p4, p5, p6 => by
    rw [evLoopN_succ, body_11_33_2_1, Sp.L_11_33_2_1]
    repeat' first | apply Bgd_11_33_2_1 | apply Bcond_11_33_2_1 | exact loop_11_33_2_1 k m _ _ _ _ _ _ _ | rfl
theorem ok_11_33_2_1 {R : Type} (T : St) (k : Ex → St → Option R) (r : R) (h0 : o_11_33_2_1 G_11_33_2_1 T k = some r) : evLoopN (evCode sm_11 FU (evFn sm_11 fns FU 0) ir33_b2) (St.norm ir33_v2) FU T k = some r := by
  obtain ⟨p0, p1, p2, p3, p4, p5, p6, rfl, h⟩ := o_11_33_2_1_inv h0
  refine evLoopN_L (t := .nil) noO_ok trivial _ _ _ _ ?_
  rw [loop_11_33_2_1]
  exact h
theorem OK_11_33_2 {R : Type} (T : St) (k : Ex → St → Option R) (r : R) (h : O_11_33_2 T k = some r) : evLoopN (evCode sm_11 FU (evFn sm_11 fns FU 0) ir33_b2) (St.norm ir33_v2) FU T k = some r := by
  unfold O_11_33_2 at h
  cases hm : m_11_33_2_0 T
  rotate_left
  · rw [hm, cond_true] at h; exact ok_11_33_2_0 T k r h
  rw [hm, cond_false] at h
  clear hm
  cases hm : m_11_33_2_1 T
  rotate_left
  · rw [hm, cond_true] at h; exact ok_11_33_2_1 T k r h
  rw [hm, cond_false] at h
  clear hm
  cases h
theorem body_11_33_3_0 {R : Type} (K0 : St → Option R) (K1 : Ex → St → Option R) (p0 : Int) (p1 : List Int) (p2 : List Int) (p3 : List Int) (p4 : List Int) : evLB (evCodeL sm_11 FU (ovr noO (evFn sm_11 fns FU 0)) .nil ir33_b3) (St.norm ir33_v3) (T_11_33_3_0 p0 p1 p2 p3 p4) K0 K1 =
  bif decide (p0 < (8 : Int)) then gd (inB p0 (8 : Nat)) (gd (decide (Int.toNat p0 < (8 : Nat)) && true) (gd (inB p0 (8 : Nat)) (gd (decide (Int.toNat p0 < (8 : Nat)) && true) (gd (inB p0 (8 : Nat)) (gd (decide (Int.toNat p0 < (8 : Nat)) && true) (K0 (T_11_33_3_0 (IntKind.wrap IntKind.i64 (p0 + (1 : Int))) p1 (List.set p2 (Int.toNat p0) (IntKind.wrap IntKind.u32 (List.getD p2 (Int.toNat p0) (0 : Int) + List.getD p4 (Int.toNat p0) (0 : Int)))) p3 p4))))))) else K1 (Ex.exit (6 : Nat)) (X_11_33_3_0_0 p1 p2 p3) := by kernel_rfl
theorem Bgd_11_33_3_0 {R : Type} {c : Bool} {x : Option R} {y : Option Sp.E_11_33_3_0} {k0 : (List Int) → (List Int) → (List Int) → Option R} (h : x = Sp.B_11_33_3_0 y k0) : gd c x = Sp.B_11_33_3_0 (gd c y) k0 := by cases c; rfl; exact h
theorem Bcond_11_33_3_0 {R : Type} {c : Bool} {x x' : Option R} {y y' : Option Sp.E_11_33_3_0} {k0 : (List Int) → (List Int) → (List Int) → Option R} (h : x = Sp.B_11_33_3_0 y k0) (h' : x' = Sp.B_11_33_3_0 y' k0) : (bif c then x else x') = Sp.B_11_33_3_0 (bif c then y else y') k0 := by cases c; exact h'; exact h
theorem loop_11_33_3_0 {R : Type} (k : Ex → St → Option R) : ∀ (m : Nat) (p0 : Int) (p1 : List Int) (p2 : List Int) (p3 : List Int) (p4 : List Int), evLoopN (evCodeL sm_11 FU (ovr noO (evFn sm_11 fns FU 0)) .nil ir33_b3) (St.norm ir33_v3) m (T_11_33_3_0 p0 p1 p2 p3 p4) k = Sp.B_11_33_3_0 (Sp.L_11_33_3_0 m p0 p1 p2 p3 p4) (fun p1 p2 p3 => k (Ex.exit (6 : Nat)) (X_11_33_3_0_0 p1 p2 p3))
  | 0, _, _, _, _, _ => rfl
  | m + 1, p0, p1, p2, p3, p4 => by
    rw [evLoopN_succ, body_11_33_3_0, Sp.L_11_33_3_0]
    repeat' first | apply Bgd_11_33_3_0 | apply Bcond_11_33_3_0 | exact loop_11_33_3_0 k m _ _ _ _ _ | rfl
theorem ok_11_33_3_0 {R : Type} (T : St) (k : Ex → St → Option R) (r : R) (h0 : o_11_33_3_0 G_11_33_3_0 T k = some r) : evLoopN (evCode sm_11 FU (evFn sm_11 fns FU 0) ir33_b3) (St.norm ir33_v3) FU T k = some r := by
  obtain ⟨p0, p1, p2, p3, p4, rfl, h⟩ := o_11_33_3_0_inv h0
  refine evLoopN_L (t := .nil) noO_ok trivial _ _ _ _ ?_
  rw [loop_11_33_3_0]
  exact h
theorem body_11_33_3_1 {R : Type} (K0 : St → Option R) (K1 : Ex → St → Option R) (p0 : Int) (p1 : List Int) (p2 : List Int) (p3 : List Int) (p4 : List Int) (p5 : List Int) : evLB (evCodeL sm_11 FU (ovr noO (evFn sm_11 fns FU 0)) .nil ir33_b3) (St.norm ir33_v3) (T_11_33_3_1 p0 p1 p2 p3 p4 p5) K0 K1 =
  bif decide (p0 < (8 : Int)) then gd (inB p0 (8 : Nat)) (gd (decide (Int.toNat p0 < (8 : Nat)) && true) (gd (inB p0 (8 : Nat)) (gd (decide (Int.toNat p0 < (8 : Nat)) && true) (gd (inB p0 (8 : Nat)) (gd (decide (Int.toNat p0 < (8 : Nat)) && true) (K0 (T_11_33_3_1 (IntKind.wrap IntKind.i64 (p0 + (1 : Int))) p1 (List.set p2 (Int.toNat p0) (IntKind.wrap IntKind.u32 (List.getD p2 (Int.toNat p0) (0 : Int) + List.getD p5 (Int.toNat p0) (0 : Int)))) p3 p4 p5))))))) else K1 (Ex.exit (6 : Nat)) (X_11_33_3_1_0 p1 p2 p3 p4) := by kernel_rfl
theorem Bgd_11_33_3_1 {R : Type} {c : Bool} {x : Option R} {y : Option Sp.E_11_33_3_1} {k0 : (List Int) → (List Int) → (List Int) → (List Int) → Option R} (h : x = Sp.B_11_33_3_1 y k0) : gd c x = Sp.B_11_33_3_1 (gd c y) k0 := by cases c; rfl; exact h
theorem Bcond_11_33_3_1 {R : Type} {c : Bool} {x x' : Option R} {y y' : Option Sp.E_11_33_3_1} {k0 : (List Int) → (List Int) → (List Int) → (List Int) → Option R} (h : x = Sp.B_11_33_3_1 y k0) (h' : x' = Sp.B_11_33_3_1 y' k0) : (bif c then x else x') = Sp.B_11_33_3_1 (bif c then y else y') k0 := by cases c; exact h'; exact h
theorem loop_11_33_3_1 {R : Type} (k : Ex → St → Option R) : ∀ (m : Nat) (p0 : Int) (p1 : List Int) (p2 : List Int) (p3 : List Int) (p4 : List Int) (p5 : List Int), evLoopN (evCodeL sm_11 FU (ovr noO (evFn sm_11 fns FU 0)) .nil ir33_b3) (St.norm ir33_v3) m (T_11_33_3_1 p0 p1 p2 p3 p4 p5) k = Sp.B_11_33_3_1 (Sp.L_11_33_3_1 m p0 p1 p2 p3 p4 p5) (fun p1 p2 p3 p4 => k (Ex.exit (6 : Nat)) (X_11_33_3_1_0 p1 p2 p3 p4))
  | 0, _, _, _, _, _, _ => rfl
  | m + 1, p0, p1, p2, p3, p4, p5 => by
    rw [evLoopN_succ, body_11_33_3_1, Sp.L_11_33_3_1]
    repeat' first | apply Bgd_11_33_3_1 | apply Bcond_11_33_3_1 | exact loop_11_33_3_1 k m _ _ _ _ _ _ | rfl
theorem ok_11_33_3_1 {R : Type} (T : St) (k : Ex → St → Option R) (r : R) (h0 : o_11_33_3_1 G_11_33_3_1 T k = some r) : evLoopN (evCode sm_11 FU (evFn sm_11 fns FU 0) ir33_b3) (St.norm ir33_v3) FU T k = some r := by
  obtain ⟨p0, p1, p2, p3, p4, p5, rfl, h⟩ := o_11_33_3_1_inv h0
  refine evLoopN_L (t := .nil) noO_ok trivial _ _ _ _ ?_
  rw [loop_11_33_3_1]
  exact h
theorem OK_11_33_3 {R : Type} (T : St) (k : Ex → St → Option R) (r : R) (h : O_11_33_3 T k = some r) : evLoopN (evCode sm_11 FU (evFn sm_11 fns FU 0) ir33_b3) (St.norm ir33_v3) FU T k = some r := by
  unfold O_11_33_3 at h
  cases hm : m_11_33_3_0 T
  rotate_left
  · rw [hm, cond_true] at h; exact ok_11_33_3_0 T k r h
  rw [hm, cond_false] at h
  clear hm
  cases hm : m_11_33_3_1 T
  rotate_left
  · rw [hm, cond_true] at h; exact ok_11_33_3_1 T k r h
  rw [hm, cond_false] at h
  clear hm
  cases h
theorem g_11_33_ok {R : Type} (args : List CV) (hp : List Blk) (k : CV → List Blk → Option R) (r : R) (h : g_11_33 args hp k = some r) : evFn sm_11 fns FU 1 33 args hp k = some r :=
  evFnL_sound (fn := ir33) (t := (ir33_t O_11_33_0 O_11_33_1 O_11_33_2 O_11_33_3)) (o := noO) rfl noO_ok (ir33_tok (fun T k r => OK_11_33_0 T k r) (fun T k r => OK_11_33_1 T k r) (fun T k r => OK_11_33_2 T k r) (fun T k r => OK_11_33_3 T k r)) h
theorem ov_11_11_ok {R : Type} : OvrOK (R := R) (fun f' => bif Nat.beq f' 33 then some (g_11_33) else none) (evFn sm_11 fns FU 1) := by
  intro f' g h args hp k r hg
  dsimp only at h
  by_cases h33 : f' = 33
  · subst h33
    injection h with h
    subst h
    exact evFn_le 0 (g_11_33_ok _ _ _ _ hg)
  rw [nbeq_ne h33, cond_false] at h
  cases h
theorem body_11_0 {R : Type} (K0 : St → Option R) (K1 : Ex → St → Option R) (p0 : List Int) (p1 : List Int) (p2 : List Int) (p3 : List Int) (p4 : List Int) : evLB (evCodeL sm_11 FU (ovr (fun f' => bif Nat.beq f' 33 then some (g_11_33) else none) (evFn sm_11 fns FU 1)) .nil ir11_b0) (St.norm ir11_v0) (T_11_0 p0 p1 p2 p3 p4) K0 K1 =
  bif decide ((↑(List.length p1) : Int) ≥ (64 : Int)) then gd (sl3 (0 : Int) (64 : Int) (↑(List.length p1) : Int)) (Sp.B_11_33_0_0 (Sp.L_11_33_0_0 (4611686018427387904 : Nat) (List.take (64 : Nat) (List.drop (0 : Nat) p1)) (0 : Int) p2 p3 p4 (List.replicate (64 : Nat) (0 : Int))) fun (y19 y20 y21 y22 : List Int) => Sp.B_11_33_1_0 (Sp.L_11_33_1_0 (4611686018427387904 : Nat) (16 : Int) y19 y20 y21 y22) fun (y23 y24 y25 y26 : List Int) => Sp.B_11_33_2_0 (Sp.L_11_33_2_0 (4611686018427387904 : Nat) (0 : Int) y23 y24 y25 y26 y24) fun (y27 y28 y29 y30 : List Int) => Sp.B_11_33_3_0 (Sp.L_11_33_3_0 (4611686018427387904 : Nat) (0 : Int) y27 y28 y29 y30) fun (y31 y32 y33 : List Int) => gd (sl3 (64 : Int) (↑(List.length p1) : Int) (↑(List.length p1) : Int)) (K0 (T_11_0 p0 (List.drop (64 : Nat) p1) y31 y32 y33))) else K1 (Ex.exit (0 : Nat)) (X_11_0_0 p0 p1 p2 p3 p4) := by kernel_rfl
theorem Bgd_11_0 {R : Type} {c : Bool} {x : Option R} {y : Option Sp.E_11_0} {k0 : (List Int) → (List Int) → (List Int) → (List Int) → (List Int) → Option R} (h : x = Sp.B_11_0 y k0) : gd c x = Sp.B_11_0 (gd c y) k0 := by cases c; rfl; exact h
theorem Bcond_11_0 {R : Type} {c : Bool} {x x' : Option R} {y y' : Option Sp.E_11_0} {k0 : (List Int) → (List Int) → (List Int) → (List Int) → (List Int) → Option R} (h : x = Sp.B_11_0 y k0) (h' : x' = Sp.B_11_0 y' k0) : (bif c then x else x') = Sp.B_11_0 (bif c then y else y') k0 := by cases c; exact h'; exact h
theorem Bin_11_0_11_33_0_0 {R : Type} {r : Option Sp.E_11_33_0_0} {k0 : (List Int) → (List Int) → (List Int) → (List Int) → (List Int) → Option R} {f0 : (List Int) → (List Int) → (List Int) → (List Int) → Option R} {g0 : (List Int) → (List Int) → (List Int) → (List Int) → Option Sp.E_11_0} (h0 : ∀ z0 z1 z2 z3, f0 z0 z1 z2 z3 = Sp.B_11_0 (g0 z0 z1 z2 z3) k0) : Sp.B_11_33_0_0 r f0 = Sp.B_11_0 (Sp.B_11_33_0_0 r g0) k0 := by
  cases r with
  | none => rfl
  | some e => cases e with
    | e0 z0 z1 z2 z3 => exact h0 _ _ _ _
theorem Bin_11_0_11_33_1_0 {R : Type} {r : Option Sp.E_11_33_1_0} {k0 : (List Int) → (List Int) → (List Int) → (List Int) → (List Int) → Option R} {f0 : (List Int) → (List Int) → (List Int) → (List Int) → Option R} {g0 : (List Int) → (List Int) → (List Int) → (List Int) → Option Sp.E_11_0} (h0 : ∀ z0 z1 z2 z3, f0 z0 z1 z2 z3 = Sp.B_11_0 (g0 z0 z1 z2 z3) k0) : Sp.B_11_33_1_0 r f0 = Sp.B_11_0 (Sp.B_11_33_1_0 r g0) k0 := by
  cases r with
  | none => rfl
  | some e => cases e with
    | e0 z0 z1 z2 z3 => exact h0 _ _ _ _
theorem Bin_11_0_11_33_2_0 {R : Type} {r : Option Sp.E_11_33_2_0} {k0 : (List Int) → (List Int) → (List Int) → (List Int) → (List Int) → Option R} {f0 : (List Int) → (List Int) → (List Int) → (List Int) → Option R} {g0 : (List Int) → (List Int) → (List Int) → (List Int) → Option Sp.E_11_0} (h0 : ∀ z0 z1 z2 z3, f0 z0 z1 z2 z3 = Sp.B_11_0 (g0 z0 z1 z2 z3) k0) : Sp.B_11_33_2_0 r f0 = Sp.B_11_0 (Sp.B_11_33_2_0 r g0) k0 := by
  cases r with
  | none => rfl
  | some e => cases e with
    | e0 z0 z1 z2 z3 => exact h0 _ _ _ _
theorem Bin_11_0_11_33_3_0 {R : Type} {r : Option Sp.E_11_33_3_0} {k0 : (List Int) → (List Int) → (List Int) → (List Int) → (List Int) → Option R} {f0 : (List Int) → (List Int) → (List Int) → Option R} {g0 : (List Int) → (List Int) → (List Int) → Option Sp.E_11_0} (h0 : ∀ z0 z1 z2, f0 z0 z1 z2 = Sp.B_11_0 (g0 z0 z1 z2) k0) : Sp.B_11_33_3_0 r f0 = Sp.B_11_0 (Sp.B_11_33_3_0 r g0) k0 := by
  cases r with
  | none => rfl
  | some e => cases e with
    | e0 z0 z1 z2 => exact h0 _ _ _
theorem loop_11_0 {R : Type} (k : Ex → St → Option R) : ∀ (m : Nat) (p0 : List Int) (p1 : List Int) (p2 : List Int) (p3 : List Int) (p4 : List Int), evLoopN (evCodeL sm_11 FU (ovr (fun f' => bif Nat.beq f' 33 then some (g_11_33) else none) (evFn sm_11 fns FU 1)) .nil ir11_b0) (St.norm ir11_v0) m (T_11_0 p0 p1 p2 p3 p4) k = Sp.B_11_0 (Sp.L_11_0 m p0 p1 p2 p3 p4) (fun p0 p1 p2 p3 p4 => k (Ex.exit (0 : Nat)) (X_11_0_0 p0 p1 p2 p3 p4))
  | 0, _, _, _, _, _ => rfl
  | m + 1, p0, p1, p2, p3, p4 => by
    rw [evLoopN_succ, body_11_0, Sp.L_11_0]
    repeat' first | apply Bgd_11_0 | apply Bcond_11_0 | (apply Bin_11_0_11_33_0_0 <;> intros) | (apply Bin_11_0_11_33_1_0 <;> intros) | (apply Bin_11_0_11_33_2_0 <;> intros) | (apply Bin_11_0_11_33_3_0 <;> intros) | exact loop_11_0 k m _ _ _ _ _ | rfl
theorem ok_11_0 {R : Type} (T : St) (k : Ex → St → Option R) (r : R) (h0 : o_11_0 G_11_0 T k = some r) : evLoopN (evCode sm_11 FU (evFn sm_11 fns FU 1) ir11_b0) (St.norm ir11_v0) FU T k = some r := by
  obtain ⟨p0, p1, p2, p3, p4, rfl, h⟩ := o_11_0_inv h0
  refine evLoopN_L (t := .nil) ov_11_11_ok trivial _ _ _ _ ?_
  rw [loop_11_0]
  exact h
theorem OK_11_11_0 {R : Type} (T : St) (k : Ex → St → Option R) (r : R) (h : O_11_11_0 T k = some r) : evLoopN (evCode sm_11 FU (evFn sm_11 fns FU 1) ir11_b0) (St.norm ir11_v0) FU T k = some r := ok_11_0 T k r h
theorem body_11_2 {R : Type} (K0 : St → Option R) (K1 : Ex → St → Option R) (p0 : Int) (p1 : Int) (p2 : List Int) (p3 : List Int) (p4 : List Int) (p5 : List Int) : evLB (evCodeL sm_11 FU (ovr (fun f' => bif Nat.beq f' 33 then some (g_11_33) else none) (evFn sm_11 fns FU 1)) .nil ir11_b2) (St.norm ir11_v2) (T_11_2 p0 p1 p2 p3 p4 p5) K0 K1 =
  bif decide (p1 < p0) then gd (sl3 p1 (IntKind.wrap IntKind.i64 (p1 + (64 : Int))) (128 : Int)) (Sp.B_11_33_0_1 (Sp.L_11_33_0_1 (4611686018427387904 : Nat) (Int.toNat p1) (Int.toNat (IntKind.wrap IntKind.i64 (p1 + (64 : Int))) - Int.toNat p1) ((128 : Nat) - Int.toNat p1) (0 : Int) p2 p3 p4 p5 (List.replicate (64 : Nat) (0 : Int))) fun (y19 y20 y21 y22 y23 : List Int) => Sp.B_11_33_1_1 (Sp.L_11_33_1_1 (4611686018427387904 : Nat) (16 : Int) y19 y20 y21 y22 y23) fun (y24 y25 y26 y27 y28 : List Int) => Sp.B_11_33_2_1 (Sp.L_11_33_2_1 (4611686018427387904 : Nat) (0 : Int) y24 y25 y26 y27 y28 y25) fun (y29 y30 y31 y32 y33 : List Int) => Sp.B_11_33_3_1 (Sp.L_11_33_3_1 (4611686018427387904 : Nat) (0 : Int) y29 y30 y31 y32 y33) fun (y34 y35 y36 y37 : List Int) => K0 (T_11_2 p0 (IntKind.wrap IntKind.i64 (p1 + (64 : Int))) y34 y35 y36 y37)) else K1 (Ex.exit (2 : Nat)) (X_11_2_0 p2 p3) := by kernel_rfl
theorem Bgd_11_2 {R : Type} {c : Bool} {x : Option R} {y : Option Sp.E_11_2} {k0 : (List Int) → (List Int) → Option R} (h : x = Sp.B_11_2 y k0) : gd c x = Sp.B_11_2 (gd c y) k0 := by cases c; rfl; exact h
theorem Bcond_11_2 {R : Type} {c : Bool} {x x' : Option R} {y y' : Option Sp.E_11_2} {k0 : (List Int) → (List Int) → Option R} (h : x = Sp.B_11_2 y k0) (h' : x' = Sp.B_11_2 y' k0) : (bif c then x else x') = Sp.B_11_2 (bif c then y else y') k0 := by cases c; exact h'; exact h
theorem Bin_11_2_11_33_0_1 {R : Type} {r : Option Sp.E_11_33_0_1} {k0 : (List Int) → (List Int) → Option R} {f0 : (List Int) → (List Int) → (List Int) → (List Int) → (List Int) → Option R} {g0 : (List Int) → (List Int) → (List Int) → (List Int) → (List Int) → Option Sp.E_11_2} (h0 : ∀ z0 z1 z2 z3 z4, f0 z0 z1 z2 z3 z4 = Sp.B_11_2 (g0 z0 z1 z2 z3 z4) k0) : Sp.B_11_33_0_1 r f0 = Sp.B_11_2 (Sp.B_11_33_0_1 r g0) k0 := by
  cases r with
  | none => rfl
  | some e => cases e with
    | e0 z0 z1 z2 z3 z4 => exact h0 _ _ _ _ _
theorem Bin_11_2_11_33_1_1 {R : Type} {r : Option Sp.E_11_33_1_1} {k0 : (List Int) → (List Int) → Option R} {f0 : (List Int) → (List Int) → (List Int) → (List Int) → (List Int) → Option R} {g0 : (List Int) → (List Int) → (List Int) → (List Int) → (List Int) → Option Sp.E_11_2} (h0 : ∀ z0 z1 z2 z3 z4, f0 z0 z1 z2 z3 z4 = Sp.B_11_2 (g0 z0 z1 z2 z3 z4) k0) : Sp.B_11_33_1_1 r f0 = Sp.B_11_2 (Sp.B_11_33_1_1 r g0) k0 := by
  cases r with
  | none => rfl
  | some e => cases e with
    | e0 z0 z1 z2 z3 z4 => exact h0 _ _ _ _ _
theorem Bin_11_2_11_33_2_1 {R : Type} {r : Option Sp.E_11_33_2_1} {k0 : (List Int) → (List Int) → Option R} {f0 : (List Int) → (List Int) → (List Int) → (List Int) → (List Int) → Option R} {g0 : (List Int) → (List Int) → (List Int) → (List Int) → (List Int) → Option Sp.E_11_2} (h0 : ∀ z0 z1 z2 z3 z4, f0 z0 z1 z2 z3 z4 = Sp.B_11_2 (g0 z0 z1 z2 z3 z4) k0) : Sp.B_11_33_2_1 r f0 = Sp.B_11_2 (Sp.B_11_33_2_1 r g0) k0 := by
  cases r with
  | none => rfl
  | some e => cases e with
    | e0 z0 z1 z2 z3 z4 => exact h0 _ _ _ _ _
theorem Bin_11_2_11_33_3_1 {R : Type} {r : Option Sp.E_11_33_3_1} {k0 : (List Int) → (List Int) → Option R} {f0 : (List Int) → (List Int) → (List Int) → (List Int) → Option R} {g0 : (List Int) → (List Int) → (List Int) → (List Int) → Option Sp.E_11_2} (h0 : ∀ z0 z1 z2 z3, f0 z0 z1 z2 z3 = Sp.B_11_2 (g0 z0 z1 z2 z3) k0) : Sp.B_11_33_3_1 r f0 = Sp.B_11_2 (Sp.B_11_33_3_1 r g0) k0 := by
  cases r with
  | none => rfl
  | some e => cases e with
    | e0 z0 z1 z2 z3 => exact h0 _ _ _ _
theorem loop_11_2 {R : Type} (k : Ex → St → Option R) : ∀ (m : Nat) (p0 : Int) (p1 : Int) (p2 : List Int) (p3 : List Int) (p4 : List Int) (p5 : List Int), evLoopN (evCodeL sm_11 FU (ovr (fun f' => bif Nat.beq f' 33 then some (g_11_33) else none) (evFn sm_11 fns FU 1)) .nil ir11_b2) (St.norm ir11_v2) m (T_11_2 p0 p1 p2 p3 p4 p5) k = Sp.B_11_2 (Sp.L_11_2 m p0 p1 p2 p3 p4 p5) (fun p2 p3 => k (Ex.exit (2 : Nat)) (X_11_2_0 p2 p3))
  | 0, _, _, _, _, _, _ => rfl
  | m + 1, p0, p1, p2, p3, p4, p5 => by
    rw [evLoopN_succ, body_11_2, Sp.L_11_2]
    repeat' first | apply Bgd_11_2 | apply Bcond_11_2 | (apply Bin_11_2_11_33_0_1 <;> intros) | (apply Bin_11_2_11_33_1_1 <;> intros) | (apply Bin_11_2_11_33_2_1 <;> intros) | (apply Bin_11_2_11_33_3_1 <;> intros) | exact loop_11_2 k m _ _ _ _ _ _ | rfl
theorem ok_11_2 {R : Type} (T : St) (k : Ex → St → Option R) (r : R) (h0 : o_11_2 G_11_2 T k = some r) : evLoopN (evCode sm_11 FU (evFn sm_11 fns FU 1) ir11_b2) (St.norm ir11_v2) FU T k = some r := by
  obtain ⟨p0, p1, p2, p3, p4, p5, rfl, h⟩ := o_11_2_inv h0
  refine evLoopN_L (t := .nil) ov_11_11_ok trivial _ _ _ _ ?_
  rw [loop_11_2]
  exact h
theorem OK_11_11_2 {R : Type} (T : St) (k : Ex → St → Option R) (r : R) (h : O_11_11_2 T k = some r) : evLoopN (evCode sm_11 FU (evFn sm_11 fns FU 1) ir11_b2) (St.norm ir11_v2) FU T k = some r := ok_11_2 T k r h
theorem body_11_3 {R : Type} (K0 : St → Option R) (K1 : Ex → St → Option R) (p0 : List Int) (p1 : Int) (p2 : List Int) (p3 : List Int) : evLB (evCodeL sm_11 FU (ovr (fun f' => bif Nat.beq f' 33 then some (g_11_33) else none) (evFn sm_11 fns FU 1)) .nil ir11_b3) (St.norm ir11_v3) (T_11_3 p0 p1 p2 p3) K0 K1 =
  bif decide (p1 < (8 : Int)) then gd (inB p1 (8 : Nat)) (gd (sl3 (IntKind.wrap IntKind.i64 ((4 : Int) * p1)) (32 : Int) (32 : Int)) (gd (inB (0 : Int) ((32 : Nat) - Int.toNat (IntKind.wrap IntKind.i64 ((4 : Int) * p1)))) (gd (decide (Int.toNat (IntKind.wrap IntKind.i64 ((4 : Int) * p1)) + (0 : Nat) < (32 : Nat)) && true) (gd (inB (1 : Int) ((32 : Nat) - Int.toNat (IntKind.wrap IntKind.i64 ((4 : Int) * p1)))) (gd (decide (Int.toNat (IntKind.wrap IntKind.i64 ((4 : Int) * p1)) + (1 : Nat) < (32 : Nat)) && true) (gd (inB (2 : Int) ((32 : Nat) - Int.toNat (IntKind.wrap IntKind.i64 ((4 : Int) * p1)))) (gd (decide (Int.toNat (IntKind.wrap IntKind.i64 ((4 : Int) * p1)) + (2 : Nat) < (32 : Nat)) && true) (gd (inB (3 : Int) ((32 : Nat) - Int.toNat (IntKind.wrap IntKind.i64 ((4 : Int) * p1)))) (gd (decide (Int.toNat (IntKind.wrap IntKind.i64 ((4 : Int) * p1)) + (3 : Nat) < (32 : Nat)) && true) (K0 (T_11_3 p0 (IntKind.wrap IntKind.i64 (p1 + (1 : Int))) p2 (List.set (List.set (List.set (List.set p3 (Int.toNat (IntKind.wrap IntKind.i64 ((4 : Int) * p1)) + (0 : Nat)) (IntKind.wrap IntKind.u8 (Int.fdiv (List.getD p0 (Int.toNat p1) (0 : Int)) (16777216 : Int)))) (Int.toNat (IntKind.wrap IntKind.i64 ((4 : Int) * p1)) + (1 : Nat)) (IntKind.wrap IntKind.u8 (Int.fdiv (List.getD p0 (Int.toNat p1) (0 : Int)) (65536 : Int)))) (Int.toNat (IntKind.wrap IntKind.i64 ((4 : Int) * p1)) + (2 : Nat)) (IntKind.wrap IntKind.u8 (Int.fdiv (List.getD p0 (Int.toNat p1) (0 : Int)) (256 : Int)))) (Int.toNat (IntKind.wrap IntKind.i64 ((4 : Int) * p1)) + (3 : Nat)) (IntKind.wrap IntKind.u8 (List.getD p0 (Int.toNat p1) (0 : Int))))))))))))))) else K1 (Ex.exit (4 : Nat)) (X_11_3_0 p2 p3) := by kernel_rfl
theorem Bgd_11_3 {R : Type} {c : Bool} {x : Option R} {y : Option Sp.E_11_3} {k0 : (List Int) → (List Int) → Option R} (h : x = Sp.B_11_3 y k0) : gd c x = Sp.B_11_3 (gd c y) k0 := by cases c; rfl; exact h
theorem Bcond_11_3 {R : Type} {c : Bool} {x x' : Option R} {y y' : Option Sp.E_11_3} {k0 : (List Int) → (List Int) → Option R} (h : x = Sp.B_11_3 y k0) (h' : x' = Sp.B_11_3 y' k0) : (bif c then x else x') = Sp.B_11_3 (bif c then y else y') k0 := by cases c; exact h'; exact h
theorem loop_11_3 {R : Type} (k : Ex → St → Option R) : ∀ (m : Nat) (p0 : List Int) (p1 : Int) (p2 : List Int) (p3 : List Int), evLoopN (evCodeL sm_11 FU (ovr (fun f' => bif Nat.beq f' 33 then some (g_11_33) else none) (evFn sm_11 fns FU 1)) .nil ir11_b3) (St.norm ir11_v3) m (T_11_3 p0 p1 p2 p3) k = Sp.B_11_3 (Sp.L_11_3 m p0 p1 p2 p3) (fun p2 p3 => k (Ex.exit (4 : Nat)) (X_11_3_0 p2 p3))
  | 0, _, _, _, _ => rfl
  | m + 1, p0, p1, p2, p3 => by
    rw [evLoopN_succ, body_11_3, Sp.L_11_3]
    repeat' first | apply Bgd_11_3 | apply Bcond_11_3 | exact loop_11_3 k m _ _ _ _ | rfl
theorem ok_11_3 {R : Type} (T : St) (k : Ex → St → Option R) (r : R) (h0 : o_11_3 G_11_3 T k = some r) : evLoopN (evCode sm_11 FU (evFn sm_11 fns FU 1) ir11_b3) (St.norm ir11_v3) FU T k = some r := by
  obtain ⟨p0, p1, p2, p3, rfl, h⟩ := o_11_3_inv h0
  refine evLoopN_L (t := .nil) ov_11_11_ok trivial _ _ _ _ ?_
  rw [loop_11_3]
  exact h
theorem OK_11_11_3 {R : Type} (T : St) (k : Ex → St → Option R) (r : R) (h : O_11_11_3 T k = some r) : evLoopN (evCode sm_11 FU (evFn sm_11 fns FU 1) ir11_b3) (St.norm ir11_v3) FU T k = some r := ok_11_3 T k r h
theorem body_11_1 {R : Type} (K1 : Ex → St → Option R) (p0 : List Int) (p1 : Int) (p2 : List Int) (p3 : List Int) (p4 : List Int) (p5 : List Int) : evJ (evCodeL sm_11 FU (ovr (fun f' => bif Nat.beq f' 33 then some (g_11_33) else none) (evFn sm_11 fns FU 1)) (ir11_bt1 O_11_11_2 O_11_11_3) ir11_b1) (T_11_1 p0 p1 p2 p3 p4 p5) K1 =
  gd (sl3 (IntKind.wrap IntKind.i64 (p1 - (8 : Int))) (128 : Int) (128 : Int)) (gd (inB (0 : Int) ((128 : Nat) - Int.toNat (IntKind.wrap IntKind.i64 (p1 - (8 : Int))))) (gd (decide (Int.toNat (IntKind.wrap IntKind.i64 (p1 - (8 : Int))) + (0 : Nat) < (128 : Nat)) && true) (gd (inB (1 : Int) ((128 : Nat) - Int.toNat (IntKind.wrap IntKind.i64 (p1 - (8 : Int))))) (gd (decide (Int.toNat (IntKind.wrap IntKind.i64 (p1 - (8 : Int))) + (1 : Nat) < (128 : Nat)) && true) (gd (inB (2 : Int) ((128 : Nat) - Int.toNat (IntKind.wrap IntKind.i64 (p1 - (8 : Int))))) (gd (decide (Int.toNat (IntKind.wrap IntKind.i64 (p1 - (8 : Int))) + (2 : Nat) < (128 : Nat)) && true) (gd (inB (3 : Int) ((128 : Nat) - Int.toNat (IntKind.wrap IntKind.i64 (p1 - (8 : Int))))) (gd (decide (Int.toNat (IntKind.wrap IntKind.i64 (p1 - (8 : Int))) + (3 : Nat) < (128 : Nat)) && true) (gd (sl3 (IntKind.wrap IntKind.i64 (p1 - (4 : Int))) (128 : Int) (128 : Int)) (gd (inB (0 : Int) ((128 : Nat) - Int.toNat (IntKind.wrap IntKind.i64 (p1 - (4 : Int))))) (gd (decide (Int.toNat (IntKind.wrap IntKind.i64 (p1 - (4 : Int))) + (0 : Nat) < (128 : Nat)) && true) (gd (inB (1 : Int) ((128 : Nat) - Int.toNat (IntKind.wrap IntKind.i64 (p1 - (4 : Int))))) (gd (decide (Int.toNat (IntKind.wrap IntKind.i64 (p1 - (4 : Int))) + (1 : Nat) < (128 : Nat)) && true) (gd (inB (2 : Int) ((128 : Nat) - Int.toNat (IntKind.wrap IntKind.i64 (p1 - (4 : Int))))) (gd (decide (Int.toNat (IntKind.wrap IntKind.i64 (p1 - (4 : Int))) + (2 : Nat) < (128 : Nat)) && true) (gd (inB (3 : Int) ((128 : Nat) - Int.toNat (IntKind.wrap IntKind.i64 (p1 - (4 : Int))))) (gd (decide (Int.toNat (IntKind.wrap IntKind.i64 (p1 - (4 : Int))) + (3 : Nat) < (128 : Nat)) && true) (Sp.B_11_2 (Sp.L_11_2 (4611686018427387904 : Nat) p1 (0 : Int) p2 p3 p4 (List.set (List.set (List.set (List.set (List.set (List.set (List.set (List.set p5 (Int.toNat (IntKind.wrap IntKind.i64 (p1 - (8 : Int))) + (0 : Nat)) (IntKind.wrap IntKind.u8 (Int.fdiv (IntKind.wrap IntKind.u32 (Int.fdiv (IntKind.wrap IntKind.u64 (IntKind.wrap IntKind.u64 (↑(List.length p0) : Int) * (8 : Int))) (4294967296 : Int))) (16777216 : Int)))) (Int.toNat (IntKind.wrap IntKind.i64 (p1 - (8 : Int))) + (1 : Nat)) (IntKind.wrap IntKind.u8 (Int.fdiv (IntKind.wrap IntKind.u32 (Int.fdiv (IntKind.wrap IntKind.u64 (IntKind.wrap IntKind.u64 (↑(List.length p0) : Int) * (8 : Int))) (4294967296 : Int))) (65536 : Int)))) (Int.toNat (IntKind.wrap IntKind.i64 (p1 - (8 : Int))) + (2 : Nat)) (IntKind.wrap IntKind.u8 (Int.fdiv (IntKind.wrap IntKind.u32 (Int.fdiv (IntKind.wrap IntKind.u64 (IntKind.wrap IntKind.u64 (↑(List.length p0) : Int) * (8 : Int))) (4294967296 : Int))) (256 : Int)))) (Int.toNat (IntKind.wrap IntKind.i64 (p1 - (8 : Int))) + (3 : Nat)) (IntKind.wrap IntKind.u8 (IntKind.wrap IntKind.u32 (Int.fdiv (IntKind.wrap IntKind.u64 (IntKind.wrap IntKind.u64 (↑(List.length p0) : Int) * (8 : Int))) (4294967296 : Int))))) (Int.toNat (IntKind.wrap IntKind.i64 (p1 - (4 : Int))) + (0 : Nat)) (IntKind.wrap IntKind.u8 (Int.fdiv (IntKind.wrap IntKind.u32 (IntKind.wrap IntKind.u64 (IntKind.wrap IntKind.u64 (↑(List.length p0) : Int) * (8 : Int)))) (16777216 : Int)))) (Int.toNat (IntKind.wrap IntKind.i64 (p1 - (4 : Int))) + (1 : Nat)) (IntKind.wrap IntKind.u8 (Int.fdiv (IntKind.wrap IntKind.u32 (IntKind.wrap IntKind.u64 (IntKind.wrap IntKind.u64 (↑(List.length p0) : Int) * (8 : Int)))) (65536 : Int)))) (Int.toNat (IntKind.wrap IntKind.i64 (p1 - (4 : Int))) + (2 : Nat)) (IntKind.wrap IntKind.u8 (Int.fdiv (IntKind.wrap IntKind.u32 (IntKind.wrap IntKind.u64 (IntKind.wrap IntKind.u64 (↑(List.length p0) : Int) * (8 : Int)))) (256 : Int)))) (Int.toNat (IntKind.wrap IntKind.i64 (p1 - (4 : Int))) + (3 : Nat)) (IntKind.wrap IntKind.u8 (IntKind.wrap IntKind.u32 (IntKind.wrap IntKind.u64 (IntKind.wrap IntKind.u64 (↑(List.length p0) : Int) * (8 : Int))))))) fun (y4 y5 : List Int) => Sp.B_11_3 (Sp.L_11_3 (4611686018427387904 : Nat) y5 (0 : Int) y4 (List.replicate (32 : Nat) (0 : Int))) fun (y6 y7 : List Int) => K1 Ex.ret (X_11_1_0 y7))))))))))))))))))) := by kernel_rfl
theorem Bgd_11_1 {R : Type} {c : Bool} {x : Option R} {y : Option Sp.E_11_1} {k0 : (List Int) → Option R} (h : x = Sp.B_11_1 y k0) : gd c x = Sp.B_11_1 (gd c y) k0 := by cases c; rfl; exact h
theorem Bcond_11_1 {R : Type} {c : Bool} {x x' : Option R} {y y' : Option Sp.E_11_1} {k0 : (List Int) → Option R} (h : x = Sp.B_11_1 y k0) (h' : x' = Sp.B_11_1 y' k0) : (bif c then x else x') = Sp.B_11_1 (bif c then y else y') k0 := by cases c; exact h'; exact h
theorem Bin_11_1_11_2 {R : Type} {r : Option Sp.E_11_2} {k0 : (List Int) → Option R} {f0 : (List Int) → (List Int) → Option R} {g0 : (List Int) → (List Int) → Option Sp.E_11_1} (h0 : ∀ z0 z1, f0 z0 z1 = Sp.B_11_1 (g0 z0 z1) k0) : Sp.B_11_2 r f0 = Sp.B_11_1 (Sp.B_11_2 r g0) k0 := by
  cases r with
  | none => rfl
  | some e => cases e with
    | e0 z0 z1 => exact h0 _ _
theorem Bin_11_1_11_3 {R : Type} {r : Option Sp.E_11_3} {k0 : (List Int) → Option R} {f0 : (List Int) → (List Int) → Option R} {g0 : (List Int) → (List Int) → Option Sp.E_11_1} (h0 : ∀ z0 z1, f0 z0 z1 = Sp.B_11_1 (g0 z0 z1) k0) : Sp.B_11_3 r f0 = Sp.B_11_1 (Sp.B_11_3 r g0) k0 := by
  cases r with
  | none => rfl
  | some e => cases e with
    | e0 z0 z1 => exact h0 _ _
theorem loop_11_1 {R : Type} (k : Ex → St → Option R) (p0 : List Int) (p1 : Int) (p2 : List Int) (p3 : List Int) (p4 : List Int) (p5 : List Int) : evJ (evCodeL sm_11 FU (ovr (fun f' => bif Nat.beq f' 33 then some (g_11_33) else none) (evFn sm_11 fns FU 1)) (ir11_bt1 O_11_11_2 O_11_11_3) ir11_b1) (T_11_1 p0 p1 p2 p3 p4 p5) k = Sp.B_11_1 (Sp.J_11_1 p0 p1 p2 p3 p4 p5) (fun y7 => k Ex.ret (X_11_1_0 y7)) := by
  rw [body_11_1, Sp.J_11_1]
  repeat' first | apply Bgd_11_1 | apply Bcond_11_1 | (apply Bin_11_1_11_2 <;> intros) | (apply Bin_11_1_11_3 <;> intros) | rfl
theorem ok_11_1 {R : Type} (T : St) (k : Ex → St → Option R) (r : R) (h0 : o_11_1 G_11_1 T k = some r) : evCode sm_11 FU (evFn sm_11 fns FU 1) ir11_b1 T k = some r := by
  obtain ⟨p0, p1, p2, p3, p4, p5, rfl, h⟩ := o_11_1_inv h0
  refine bodyL_sound (t := (ir11_bt1 O_11_11_2 O_11_11_3)) ov_11_11_ok (ir11_bt1ok (fun T k r => OK_11_11_2 T k r) (fun T k r => OK_11_11_3 T k r)) ((loop_11_1 k _ _ _ _ _ _).trans h)
theorem OK_11_11_1 {R : Type} (T : St) (k : Ex → St → Option R) (r : R) (h : O_11_11_1 T k = some r) : evCode sm_11 FU (evFn sm_11 fns FU 1) ir11_b1 T k = some r := ok_11_1 T k r h
def F_11 (a0 : (List Int)) : Option ((List Int) × Unit) :=
  gd Sp.p_32 (Sp.B_11_0 (Sp.L_11_0 (4611686018427387904 : Nat) a0 a0 (List.replicate (32 : Nat) (0 : Int)) [(1779033703 : Int), (3144134277 : Int), (1013904242 : Int), (2773480762 : Int), (1359893119 : Int), (2600822924 : Int), (528734635 : Int), (1541459225 : Int)] (Prod.fst Sp.v_32)) fun (y7 y8 y9 y10 y11 : List Int) => gd (inB (↑(Nat.min (List.length y8) (128 : Nat)) : Int) (128 : Nat)) (gd (decide (Int.toNat (↑(Nat.min (List.length y8) (128 : Nat)) : Int) < (128 : Nat)) && true) (bif decide (IntKind.wrap IntKind.i64 ((↑(Nat.min (List.length y8) (128 : Nat)) : Int) + (9 : Int)) > (64 : Int)) then Sp.B_11_1 (Sp.J_11_1 y7 (128 : Int) y9 y10 y11 (List.set (over (List.replicate (128 : Nat) (0 : Int)) (0 : Nat) (List.take (128 : Nat) y8)) (Int.toNat (↑(Nat.min (List.length y8) (128 : Nat)) : Int)) (128 : Int))) fun (y14 : List Int) => some (y14, PUnit.unit) else Sp.B_11_1 (Sp.J_11_1 y7 (64 : Int) y9 y10 y11 (List.set (over (List.replicate (128 : Nat) (0 : Int)) (0 : Nat) (List.take (128 : Nat) y8)) (Int.toNat (↑(Nat.min (List.length y8) (128 : Nat)) : Int)) (128 : Int))) fun (y15 : List Int) => some (y15, PUnit.unit))))
theorem fn_11 (a0 : (List Int)) : evFnL sm_11 FU (ovr (fun f' => bif Nat.beq f' 33 then some (g_11_33) else none) (evFn sm_11 fns FU 1)) (ir11_t O_11_11_0 O_11_11_1) ir11 (ofH [(.slice (.int .u8))] (a0, ())) [] (pureK [(.arr 32 (.int .u8))]) = F_11 a0 := by kernel_rfl
def Sp.p_11 (a0 : (List Int)) : Bool := (F_11 a0).isSome
def Sp.v_11 (a0 : (List Int)) : (List Int) × Unit := (F_11 a0).getD (dfH [(.arr 32 (.int .u8))])
def s_11 : Summ := shN [(.slice (.int .u8))] [(.arr 32 (.int .u8))] (fun x => Sp.p_11 x.1) (fun x => Sp.v_11 x.1)
theorem pv_11 (a0 : (List Int)) {y : (List Int) × Unit} (h : F_11 a0 = some y) : Sp.p_11 a0 = true ∧ Sp.v_11 a0 = y := ⟨by rw [Sp.p_11, h]; rfl, by rw [Sp.v_11, h]; rfl⟩
theorem run_11 (x : HDen [(.slice (.int .u8))]) (y : HDen [(.arr 32 (.int .u8))]) (h : F_11 x.1 = some y) : evFn sm_11 fns FU 2 11 (ofH [(.slice (.int .u8))] x) [] (pureK [(.arr 32 (.int .u8))]) = some y :=
  evFnL_sound (fn := ir11) (t := (ir11_t O_11_11_0 O_11_11_1)) (o := (fun f' => bif Nat.beq f' 33 then some (g_11_33) else none)) rfl ov_11_11_ok (ir11_tok (fun T k r => OK_11_11_0 T k r) (fun T k r => OK_11_11_1 T k r)) ((fn_11 _).trans h)
end
end Go.Ev
namespace Go.Ev
open Go
set_option maxRecDepth 100000
set_option maxHeartbeats 4000000
set_option linter.unusedVariables false
noncomputable section

def sm_13 : Nat → Option Summ := fun f => none
def T_13_1 (p0 : Int) (p1 : List Int) (p2 : Int) (p3 : List Int) (p4 : Int) (p5 : List Int) : St := St.mk [jk, jk, jk, CV.whole (0 : Nat), CV.int IntKind.i64 p0, jk, jk, jk, jk, CV.pure (Ty.arr (32 : Nat) (Ty.int IntKind.u8)) p1, CV.int IntKind.i64 p2, jk, jk, jk, jk, jk, jk, jk, jk, CV.pure (Ty.arr (2 : Nat) (Ty.int IntKind.i64)) p3, CV.int IntKind.i64 p4, jk, jk, jk, jk, jk, jk, jk, jk, jk, jk, jk, jk, jk, jk, jk, jk, jk, jk, jk, jk, jk, jk] [Blk.vec (3 : Nat) (Ty.int IntKind.i64) p5] (0 : Nat)
def X_13_1_0 (p0 : Int) (p1 : List Int) (p2 : Int) (p5 : List Int) : St := St.mk [jk, jk, jk, CV.whole (0 : Nat), CV.int IntKind.i64 p0, jk, jk, jk, jk, CV.pure (Ty.arr (32 : Nat) (Ty.int IntKind.u8)) p1, CV.int IntKind.i64 p2, jk, jk, jk, jk, jk, jk, jk, jk, jk, jk, jk, jk, jk, jk, jk, jk, jk, jk, jk, jk, jk, jk, jk, jk, jk, jk, jk, jk, jk, jk, jk, jk] [Blk.vec (3 : Nat) (Ty.int IntKind.i64) p5] (0 : Nat)
inductive Sp.E_13_1 where
  | e0 (p0 : Int) (p1 : List Int) (p2 : Int) (p5 : List Int)
def Sp.B_13_1 {R : Type} (r : Option Sp.E_13_1) (k0 : (Int) → (List Int) → (Int) → (List Int) → Option R) : Option R := match r with
  | none => none
  | some (.e0 p0 p1 p2 p5) => k0 p0 p1 p2 p5
def Sp.L_13_1 : Nat → (Int) → (List Int) → (Int) → (List Int) → (Int) → (List Int) → Option Sp.E_13_1
  | 0, _, _, _, _, _, _ => none
  | m + 1, p0, p1, p2, p3, p4, p5 => bif decide (p4 < (2 : Int)) then gd (inB p4 (2 : Nat)) (gd (room (List.length p5 + (1 : Nat)) (8 : Nat)) (Sp.L_13_1 m (IntKind.wrap IntKind.i64 (p0 + IntKind.wrap IntKind.i64 ((15 : Int) - List.getD p3 (Int.toNat p4) (0 : Int)))) p1 p2 p3 (IntKind.wrap IntKind.i64 (p4 + (1 : Int))) (p5 ++ [List.getD p3 (Int.toNat p4) (0 : Int)]))) else some (Sp.E_13_1.e0 p0 p1 p2 p5)
def G_13_1 {R : Type} (p0 : Int) (p1 : List Int) (p2 : Int) (p3 : List Int) (p4 : Int) (p5 : List Int) (k : Ex → St → Option R) : Option R := Sp.B_13_1 (Sp.L_13_1 FU p0 p1 p2 p3 p4 p5) (fun p0 p1 p2 p5 => k (Ex.exit (2 : Nat)) (X_13_1_0 p0 p1 p2 p5))
def o_13_1 {R : Type} (G : (Int) → (List Int) → (Int) → (List Int) → (Int) → (List Int) → (Ex → St → Option R) → Option R) : St → (Ex → St → Option R) → Option R := fun T k => match T.sl.getD 3 .junk, T.sl.getD 4 .junk, T.sl.getD 9 .junk, T.sl.getD 10 .junk, T.sl.getD 19 .junk, T.sl.getD 20 .junk, T.hp with
  | CV.whole (0 : Nat), CV.int IntKind.i64 p0, CV.pure (Ty.arr (32 : Nat) (Ty.int IntKind.u8)) p1, CV.int IntKind.i64 p2, CV.pure (Ty.arr (2 : Nat) (Ty.int IntKind.i64)) p3, CV.int IntKind.i64 p4, ((Blk.vec (3 : Nat) (Ty.int IntKind.i64) p5) :: []) => gd (shapeOK T 43 [3, 4, 9, 10, 19, 20] (0 : Nat)) (G p0 p1 p2 p3 p4 p5 k)
  | _, _, _, _, _, _, _ => none
theorem o_13_1_inv {R : Type} {G : (Int) → (List Int) → (Int) → (List Int) → (Int) → (List Int) → (Ex → St → Option R) → Option R} {T : St} {k : Ex → St → Option R} {r : R} (h : o_13_1 G T k = some r) : ∃ p0 p1 p2 p3 p4 p5, T = T_13_1 p0 p1 p2 p3 p4 p5 ∧ G p0 p1 p2 p3 p4 p5 k = some r := by
  unfold o_13_1 at h
  split at h
  · obtain ⟨hs, h'⟩ := gd_some h
    refine ⟨_, _, _, _, _, _, (st_of (asg := [(3, _), (4, _), (9, _), (10, _), (19, _), (20, _)]) hs ⟨by assumption, by assumption, by assumption, by assumption, by assumption, by assumption, trivial⟩ (by assumption)).trans ?_, h'⟩
    kernel_rfl
  · cases h
def T_13_0 (p0 : Int) (p1 : List Int) (p2 : Int) (p3 : List Int) : St := St.mk [jk, jk, jk, CV.whole (0 : Nat), CV.int IntKind.i64 p0, jk, jk, jk, jk, CV.pure (Ty.arr (32 : Nat) (Ty.int IntKind.u8)) p1, CV.int IntKind.i64 p2, jk, jk, jk, jk, jk, jk, jk, jk, jk, jk, jk, jk, jk, jk, jk, jk, jk, jk, jk, jk, jk, jk, jk, jk, jk, jk, jk, jk, jk, jk, jk, jk] [Blk.vec (3 : Nat) (Ty.int IntKind.i64) p3] (0 : Nat)
def X_13_0_0 (p0 : Int) (p3 : List Int) : St := St.mk [jk, jk, jk, CV.whole (0 : Nat), CV.int IntKind.i64 p0, jk, jk, jk, jk, jk, jk, jk, jk, jk, jk, jk, jk, jk, jk, jk, jk, jk, jk, jk, jk, jk, jk, jk, jk, jk, jk, jk, jk, jk, jk, jk, jk, jk, jk, jk, jk, jk, jk] [Blk.vec (3 : Nat) (Ty.int IntKind.i64) p3] (0 : Nat)
inductive Sp.E_13_0 where
  | e0 (p0 : Int) (p3 : List Int)
def Sp.B_13_0 {R : Type} (r : Option Sp.E_13_0) (k0 : (Int) → (List Int) → Option R) : Option R := match r with
  | none => none
  | some (.e0 p0 p3) => k0 p0 p3
def Sp.L_13_0 : Nat → (Int) → (List Int) → (Int) → (List Int) → Option Sp.E_13_0
  | 0, _, _, _, _ => none
  | m + 1, p0, p1, p2, p3 => bif decide (p2 < (32 : Int)) then gd (inB p2 (32 : Nat)) (Sp.B_13_1 (Sp.L_13_1 (4611686018427387904 : Nat) p0 p1 p2 [IntKind.wrap IntKind.i64 (Int.fdiv (List.getD p1 (Int.toNat p2) (0 : Int)) (16 : Int)), IntKind.wrap IntKind.i64 (Sp.andI IntKind.u8 (List.getD p1 (Int.toNat p2) (0 : Int)) (15 : Int))] (0 : Int) p3) fun (y4 : Int) (y5 : List Int) (y6 : Int) (y7 : List Int) => Sp.L_13_0 m y4 y5 (IntKind.wrap IntKind.i64 (y6 + (1 : Int))) y7) else some (Sp.E_13_0.e0 p0 p3)
def G_13_0 {R : Type} (p0 : Int) (p1 : List Int) (p2 : Int) (p3 : List Int) (k : Ex → St → Option R) : Option R := Sp.B_13_0 (Sp.L_13_0 FU p0 p1 p2 p3) (fun p0 p3 => k (Ex.exit (0 : Nat)) (X_13_0_0 p0 p3))
def o_13_0 {R : Type} (G : (Int) → (List Int) → (Int) → (List Int) → (Ex → St → Option R) → Option R) : St → (Ex → St → Option R) → Option R := fun T k => match T.sl.getD 3 .junk, T.sl.getD 4 .junk, T.sl.getD 9 .junk, T.sl.getD 10 .junk, T.hp with
  | CV.whole (0 : Nat), CV.int IntKind.i64 p0, CV.pure (Ty.arr (32 : Nat) (Ty.int IntKind.u8)) p1, CV.int IntKind.i64 p2, ((Blk.vec (3 : Nat) (Ty.int IntKind.i64) p3) :: []) => gd (shapeOK T 43 [3, 4, 9, 10] (0 : Nat)) (G p0 p1 p2 p3 k)
  | _, _, _, _, _ => none
theorem o_13_0_inv {R : Type} {G : (Int) → (List Int) → (Int) → (List Int) → (Ex → St → Option R) → Option R} {T : St} {k : Ex → St → Option R} {r : R} (h : o_13_0 G T k = some r) : ∃ p0 p1 p2 p3, T = T_13_0 p0 p1 p2 p3 ∧ G p0 p1 p2 p3 k = some r := by
  unfold o_13_0 at h
  split at h
  · obtain ⟨hs, h'⟩ := gd_some h
    refine ⟨_, _, _, _, (st_of (asg := [(3, _), (4, _), (9, _), (10, _)]) hs ⟨by assumption, by assumption, by assumption, by assumption, trivial⟩ (by assumption)).trans ?_, h'⟩
    kernel_rfl
  · cases h
def O_13_13_1 {R : Type} : St → (Ex → St → Option R) → Option R := fun T k => o_13_1 G_13_1 T k
def O_13_13_0 {R : Type} : St → (Ex → St → Option R) → Option R := fun T k => o_13_0 G_13_0 T k
theorem body_13_1 {R : Type} (K0 : St → Option R) (K1 : Ex → St → Option R) (p0 : Int) (p1 : List Int) (p2 : Int) (p3 : List Int) (p4 : Int) (p5 : List Int) : evLB (evCodeL sm_13 FU (ovr noO (evFn sm_13 fns FU 0)) .nil ir13_b1) (St.norm ir13_v1) (T_13_1 p0 p1 p2 p3 p4 p5) K0 K1 =
  bif decide (p4 < (2 : Int)) then gd (inB p4 (2 : Nat)) (gd (room (List.length p5 + (1 : Nat)) (8 : Nat)) (K0 (T_13_1 (IntKind.wrap IntKind.i64 (p0 + IntKind.wrap IntKind.i64 ((15 : Int) - List.getD p3 (Int.toNat p4) (0 : Int)))) p1 p2 p3 (IntKind.wrap IntKind.i64 (p4 + (1 : Int))) (p5 ++ [List.getD p3 (Int.toNat p4) (0 : Int)])))) else K1 (Ex.exit (2 : Nat)) (X_13_1_0 p0 p1 p2 p5) := by kernel_rfl
theorem Bgd_13_1 {R : Type} {c : Bool} {x : Option R} {y : Option Sp.E_13_1} {k0 : (Int) → (List Int) → (Int) → (List Int) → Option R} (h : x = Sp.B_13_1 y k0) : gd c x = Sp.B_13_1 (gd c y) k0 := by cases c; rfl; exact h
theorem Bcond_13_1 {R : Type} {c : Bool} {x x' : Option R} {y y' : Option Sp.E_13_1} {k0 : (Int) → (List Int) → (Int) → (List Int) → Option R} (h : x = Sp.B_13_1 y k0) (h' : x' = Sp.B_13_1 y' k0) : (bif c then x else x') = Sp.B_13_1 (bif c then y else y') k0 := by cases c; exact h'; exact h
theorem loop_13_1 {R : Type} (k : Ex → St → Option R) : ∀ (m : Nat) (p0 : Int) (p1 : List Int) (p2 : Int) (p3 : List Int) (p4 : Int) (p5 : List Int), evLoopN (evCodeL sm_13 FU (ovr noO (evFn sm_13 fns FU 0)) .nil ir13_b1) (St.norm ir13_v1) m (T_13_1 p0 p1 p2 p3 p4 p5) k = Sp.B_13_1 (Sp.L_13_1 m p0 p1 p2 p3 p4 p5) (fun p0 p1 p2 p5 => k (Ex.exit (2 : Nat)) (X_13_1_0 p0 p1 p2 p5))
  | 0, _, _, _, _, _, _ => rfl
  | m + 1, p0, p1, p2, p3, p4, p5 => by
    rw [evLoopN_succ, body_13_1, Sp.L_13_1]
    repeat' first | apply Bgd_13_1 | apply Bcond_13_1 | exact loop_13_1 k m _ _ _ _ _ _ | rfl
theorem ok_13_1 {R : Type} (T : St) (k : Ex → St → Option R) (r : R) (h0 : o_13_1 G_13_1 T k = some r) : evLoopN (evCode sm_13 FU (evFn sm_13 fns FU 0) ir13_b1) (St.norm ir13_v1) FU T k = some r := by
  obtain ⟨p0, p1, p2, p3, p4, p5, rfl, h⟩ := o_13_1_inv h0
  refine evLoopN_L (t := .nil) noO_ok trivial _ _ _ _ ?_
  rw [loop_13_1]
  exact h
theorem OK_13_13_1 {R : Type} (T : St) (k : Ex → St → Option R) (r : R) (h : O_13_13_1 T k = some r) : evLoopN (evCode sm_13 FU (evFn sm_13 fns FU 0) ir13_b1) (St.norm ir13_v1) FU T k = some r := ok_13_1 T k r h
theorem body_13_0 {R : Type} (K0 : St → Option R) (K1 : Ex → St → Option R) (p0 : Int) (p1 : List Int) (p2 : Int) (p3 : List Int) : evLB (evCodeL sm_13 FU (ovr noO (evFn sm_13 fns FU 0)) (ir13_bt0 O_13_13_1) ir13_b0) (St.norm ir13_v0) (T_13_0 p0 p1 p2 p3) K0 K1 =
  bif decide (p2 < (32 : Int)) then gd (inB p2 (32 : Nat)) (Sp.B_13_1 (Sp.L_13_1 (4611686018427387904 : Nat) p0 p1 p2 [IntKind.wrap IntKind.i64 (Int.fdiv (List.getD p1 (Int.toNat p2) (0 : Int)) (16 : Int)), IntKind.wrap IntKind.i64 (Sp.andI IntKind.u8 (List.getD p1 (Int.toNat p2) (0 : Int)) (15 : Int))] (0 : Int) p3) fun (y4 : Int) (y5 : List Int) (y6 : Int) (y7 : List Int) => K0 (T_13_0 y4 y5 (IntKind.wrap IntKind.i64 (y6 + (1 : Int))) y7)) else K1 (Ex.exit (0 : Nat)) (X_13_0_0 p0 p3) := by kernel_rfl
theorem Bgd_13_0 {R : Type} {c : Bool} {x : Option R} {y : Option Sp.E_13_0} {k0 : (Int) → (List Int) → Option R} (h : x = Sp.B_13_0 y k0) : gd c x = Sp.B_13_0 (gd c y) k0 := by cases c; rfl; exact h
theorem Bcond_13_0 {R : Type} {c : Bool} {x x' : Option R} {y y' : Option Sp.E_13_0} {k0 : (Int) → (List Int) → Option R} (h : x = Sp.B_13_0 y k0) (h' : x' = Sp.B_13_0 y' k0) : (bif c then x else x') = Sp.B_13_0 (bif c then y else y') k0 := by cases c; exact h'; exact h
theorem Bin_13_0_13_1 {R : Type} {r : Option Sp.E_13_1} {k0 : (Int) → (List Int) → Option R} {f0 : (Int) → (List Int) → (Int) → (List Int) → Option R} {g0 : (Int) → (List Int) → (Int) → (List Int) → Option Sp.E_13_0} (h0 : ∀ z0 z1 z2 z3, f0 z0 z1 z2 z3 = Sp.B_13_0 (g0 z0 z1 z2 z3) k0) : Sp.B_13_1 r f0 = Sp.B_13_0 (Sp.B_13_1 r g0) k0 := by
  cases r with
  | none => rfl
  | some e => cases e with
    | e0 z0 z1 z2 z3 => exact h0 _ _ _ _
theorem loop_13_0 {R : Type} (k : Ex → St → Option R) : ∀ (m : Nat) (p0 : Int) (p1 : List Int) (p2 : Int) (p3 : List Int), evLoopN (evCodeL sm_13 FU (ovr noO (evFn sm_13 fns FU 0)) (ir13_bt0 O_13_13_1) ir13_b0) (St.norm ir13_v0) m (T_13_0 p0 p1 p2 p3) k = Sp.B_13_0 (Sp.L_13_0 m p0 p1 p2 p3) (fun p0 p3 => k (Ex.exit (0 : Nat)) (X_13_0_0 p0 p3))
  | 0, _, _, _, _ => rfl
  | m + 1, p0, p1, p2, p3 => by
    rw [evLoopN_succ, body_13_0, Sp.L_13_0]
    repeat' first | apply Bgd_13_0 | apply Bcond_13_0 | (apply Bin_13_0_13_1 <;> intros) | exact loop_13_0 k m _ _ _ _ | rfl
theorem ok_13_0 {R : Type} (T : St) (k : Ex → St → Option R) (r : R) (h0 : o_13_0 G_13_0 T k = some r) : evLoopN (evCode sm_13 FU (evFn sm_13 fns FU 0) ir13_b0) (St.norm ir13_v0) FU T k = some r := by
  obtain ⟨p0, p1, p2, p3, rfl, h⟩ := o_13_0_inv h0
  refine evLoopN_L (t := (ir13_bt0 O_13_13_1)) noO_ok (ir13_bt0ok (fun T k r => OK_13_13_1 T k r)) _ _ _ _ ?_
  rw [loop_13_0]
  exact h
theorem OK_13_13_0 {R : Type} (T : St) (k : Ex → St → Option R) (r : R) (h : O_13_13_0 T k = some r) : evLoopN (evCode sm_13 FU (evFn sm_13 fns FU 0) ir13_b0) (St.norm ir13_v0) FU T k = some r := ok_13_0 T k r h
def F_13 (a0 : (List Int)) : Option ((List Int) × Unit) :=
  Sp.B_13_0 (Sp.L_13_0 (4611686018427387904 : Nat) (0 : Int) a0 (0 : Int) []) fun (y2 : Int) (y3 : List Int) => gd (room (List.length y3 + (3 : Nat)) (8 : Nat)) (some (y3 ++ [Int.fdiv y2 (256 : Int), Sp.andI IntKind.i64 (Int.fdiv y2 (16 : Int)) (15 : Int), Sp.andI IntKind.i64 y2 (15 : Int)], PUnit.unit))
theorem fn_13 (a0 : (List Int)) : evFnL sm_13 FU (ovr noO (evFn sm_13 fns FU 0)) (ir13_t O_13_13_0) ir13 (ofH [(.arr 32 (.int .u8))] (a0, ())) [] (pureK [(.slice (.int .i64))]) = F_13 a0 := by kernel_rfl
def Sp.p_13 (a0 : (List Int)) : Bool := (F_13 a0).isSome
def Sp.v_13 (a0 : (List Int)) : (List Int) × Unit := (F_13 a0).getD (dfH [(.slice (.int .i64))])
def s_13 : Summ := shS [(.arr 32 (.int .u8))] [(.slice (.int .i64))] (fun x => Sp.p_13 x.1) (fun x => Sp.v_13 x.1)
theorem pv_13 (a0 : (List Int)) {y : (List Int) × Unit} (h : F_13 a0 = some y) : Sp.p_13 a0 = true ∧ Sp.v_13 a0 = y := ⟨by rw [Sp.p_13, h]; rfl, by rw [Sp.v_13, h]; rfl⟩
theorem run_13 (x : HDen [(.arr 32 (.int .u8))]) (y : HDen [(.slice (.int .i64))]) (h : F_13 x.1 = some y) : evFn sm_13 fns FU 1 13 (ofH [(.arr 32 (.int .u8))] x) [] (pureK [(.slice (.int .i64))]) = some y :=
  evFnL_sound (fn := ir13) (t := (ir13_t O_13_13_0)) (o := noO) rfl noO_ok (ir13_tok (fun T k r => OK_13_13_0 T k r)) ((fn_13 _).trans h)
end
end Go.Ev
namespace Go.Ev
open Go
set_option maxRecDepth 100000
set_option maxHeartbeats 4000000
set_option linter.unusedVariables false
noncomputable section

def sm_10 : Nat → Option Summ := fun f => bif Nat.beq f 11 then some s_11 else bif Nat.beq f 13 then some s_13 else none


def F_10  : Option (Bool × Unit) :=
  gd (Sp.p_11 [(97 : Int), (98 : Int), (99 : Int)]) (gd (Sp.p_11 []) (gd (Sp.p_13 (List.replicate (32 : Nat) (0 : Int))) (bif List.getD (Prod.fst (Sp.v_11 [(97 : Int), (98 : Int), (99 : Int)])) (0 : Nat) (0 : Int) == (186 : Int) then bif List.getD (Prod.fst (Sp.v_11 [(97 : Int), (98 : Int), (99 : Int)])) (1 : Nat) (0 : Int) == (120 : Int) then bif List.getD (Prod.fst (Sp.v_11 [(97 : Int), (98 : Int), (99 : Int)])) (2 : Nat) (0 : Int) == (22 : Int) then bif List.getD (Prod.fst (Sp.v_11 [(97 : Int), (98 : Int), (99 : Int)])) (3 : Nat) (0 : Int) == (191 : Int) then bif List.getD (Prod.fst (Sp.v_11 [])) (0 : Nat) (0 : Int) == (227 : Int) then bif List.getD (Prod.fst (Sp.v_11 [])) (1 : Nat) (0 : Int) == (176 : Int) then bif List.getD (Prod.fst (Sp.v_11 [])) (2 : Nat) (0 : Int) == (196 : Int) then bif List.getD (Prod.fst (Sp.v_11 [])) (3 : Nat) (0 : Int) == (66 : Int) then bif (↑(List.length (Prod.fst (Sp.v_13 (List.replicate (32 : Nat) (0 : Int))))) : Int) == (67 : Int) then gd (inB (64 : Int) (List.length (Prod.fst (Sp.v_13 (List.replicate (32 : Nat) (0 : Int)))))) (bif List.getD (Prod.fst (Sp.v_13 (List.replicate (32 : Nat) (0 : Int)))) (64 : Nat) (0 : Int) == (3 : Int) then gd (inB (65 : Int) (List.length (Prod.fst (Sp.v_13 (List.replicate (32 : Nat) (0 : Int)))))) (bif List.getD (Prod.fst (Sp.v_13 (List.replicate (32 : Nat) (0 : Int)))) (65 : Nat) (0 : Int) == (12 : Int) then gd (inB (66 : Int) (List.length (Prod.fst (Sp.v_13 (List.replicate (32 : Nat) (0 : Int)))))) (some (List.getD (Prod.fst (Sp.v_13 (List.replicate (32 : Nat) (0 : Int)))) (66 : Nat) (0 : Int) == (0 : Int), PUnit.unit)) else some (false, PUnit.unit)) else some (false, PUnit.unit)) else some (false, PUnit.unit) else some (false, PUnit.unit) else some (false, PUnit.unit) else some (false, PUnit.unit) else some (false, PUnit.unit) else some (false, PUnit.unit) else some (false, PUnit.unit) else some (false, PUnit.unit) else some (false, PUnit.unit))))
theorem fn_10  : evFnL sm_10 FU (ovr noO (evFn sm_10 fns FU 0)) .nil ir10 (ofH [] (())) [] (pureK [.bool]) = F_10 := by kernel_rfl
def Sp.p_10  : Bool := (F_10).isSome
def Sp.v_10  : Bool × Unit := (F_10).getD (dfH [.bool])
def s_10 : Summ := shN [] [.bool] (fun x => Sp.p_10 ) (fun x => Sp.v_10 )
theorem pv_10  {y : Bool × Unit} (h : F_10 = some y) : Sp.p_10 = true ∧ Sp.v_10 = y := ⟨by rw [Sp.p_10, h]; rfl, by rw [Sp.v_10, h]; rfl⟩
theorem run_10 (x : HDen []) (y : HDen [.bool]) (h : F_10  = some y) : evFn sm_10 fns FU 1 10 (ofH [] x) [] (pureK [.bool]) = some y :=
  evFnL_sound (fn := ir10) (t := .nil) (o := noO) rfl noO_ok trivial ((fn_10).trans h)
end
end Go.Ev
namespace Go.Ev
open Go
set_option maxRecDepth 100000
set_option maxHeartbeats 4000000
set_option linter.unusedVariables false
noncomputable section

def sm_21 : Nat → Option Summ := fun f => none
def T_21_0 (p0 : Int) (p1 : Int × List (List Int) × List (List Int) × PUnit) (p2 : Int × List (List Int) × List (List Int) × PUnit) : St := St.mk [jk, jk, CV.ptr (0 : Nat) [], CV.ptr (1 : Nat) [], jk, CV.int IntKind.i64 p0, jk, jk, jk, jk, jk, jk, jk, jk, jk, jk, jk, jk, jk, jk, jk, jk, jk, jk, jk, jk, jk, jk, jk, jk, jk, jk, jk, jk, jk, jk, jk, jk, jk, jk, jk, jk, jk, jk, jk, jk, jk, jk, jk, jk, jk, jk, jk, jk, jk, jk, jk, jk, jk, jk, jk, jk, jk, jk, jk, jk] [Blk.mem (CV.pure (Ty.pair (Ty.int IntKind.i64) (Ty.pair (Ty.slice (Ty.arr (32 : Nat) (Ty.int IntKind.u8))) (Ty.pair (Ty.slice (Ty.arr (32 : Nat) (Ty.int IntKind.u8))) Ty.unit))) p1), Blk.mem (CV.pure (Ty.pair (Ty.int IntKind.i64) (Ty.pair (Ty.slice (Ty.arr (32 : Nat) (Ty.int IntKind.u8))) (Ty.pair (Ty.slice (Ty.arr (32 : Nat) (Ty.int IntKind.u8))) Ty.unit))) p2)] (0 : Nat)
def X_21_0_0 : St := St.mk [jk, jk, jk, jk, CV.bool false, jk, jk, jk, jk, jk, jk, jk, jk, jk, jk, jk, jk, jk, jk, jk, jk, jk, jk, jk, jk, jk, jk, jk, jk, jk, jk, jk, jk, jk, jk, jk, jk, jk, jk, jk, jk, jk, jk, jk, jk, jk, jk, jk, jk, jk, jk, jk, jk, jk, jk, jk, jk, jk, jk, jk, jk, jk, jk, jk, jk, jk] [] (0 : Nat)
def X_21_0_1 (p1 : Int × List (List Int) × List (List Int) × PUnit) (p2 : Int × List (List Int) × List (List Int) × PUnit) : St := St.mk [jk, jk, CV.ptr (0 : Nat) [], CV.ptr (1 : Nat) [], jk, jk, jk, jk, jk, jk, jk, jk, jk, jk, jk, jk, jk, jk, jk, jk, jk, jk, jk, jk, jk, jk, jk, jk, jk, jk, jk, jk, jk, jk, jk, jk, jk, jk, jk, jk, jk, jk, jk, jk, jk, jk, jk, jk, jk, jk, jk, jk, jk, jk, jk, jk, jk, jk, jk, jk, jk, jk, jk, jk, jk, jk] [Blk.mem (CV.pure (Ty.pair (Ty.int IntKind.i64) (Ty.pair (Ty.slice (Ty.arr (32 : Nat) (Ty.int IntKind.u8))) (Ty.pair (Ty.slice (Ty.arr (32 : Nat) (Ty.int IntKind.u8))) Ty.unit))) p1), Blk.mem (CV.pure (Ty.pair (Ty.int IntKind.i64) (Ty.pair (Ty.slice (Ty.arr (32 : Nat) (Ty.int IntKind.u8))) (Ty.pair (Ty.slice (Ty.arr (32 : Nat) (Ty.int IntKind.u8))) Ty.unit))) p2)] (0 : Nat)
inductive Sp.E_21_0 where
  | e0
  | e1 (p1 : Int × List (List Int) × List (List Int) × PUnit) (p2 : Int × List (List Int) × List (List Int) × PUnit)
def Sp.B_21_0 {R : Type} (r : Option Sp.E_21_0) (k0 : Option R) (k1 : (Int × List (List Int) × List (List Int) × PUnit) → (Int × List (List Int) × List (List Int) × PUnit) → Option R) : Option R := match r with
  | none => none
  | some (.e0) => k0
  | some (.e1 p1 p2) => k1 p1 p2
def Sp.L_21_0 : Nat → (Int) → (Int × List (List Int) × List (List Int) × PUnit) → (Int × List (List Int) × List (List Int) × PUnit) → Option Sp.E_21_0
  | 0, _, _, _ => none
  | m + 1, p0, p1, p2 => bif decide (p0 < (↑(List.length (Prod.fst (Prod.snd p1))) : Int)) then gd (inB p0 (List.length (Prod.fst (Prod.snd p1)))) (gd (inB p0 (List.length (Prod.fst (Prod.snd p2)))) (bif !Ty.beq (Ty.arr (32 : Nat) (Ty.int IntKind.u8)) (List.getD (Prod.fst (Prod.snd p1)) (Int.toNat p0) (Ty.dflt (Ty.arr (32 : Nat) (Ty.int IntKind.u8)))) (List.getD (Prod.fst (Prod.snd p2)) (Int.toNat p0) (Ty.dflt (Ty.arr (32 : Nat) (Ty.int IntKind.u8)))) then some (Sp.E_21_0.e0) else Sp.L_21_0 m (IntKind.wrap IntKind.i64 (p0 + (1 : Int))) p1 p2)) else some (Sp.E_21_0.e1 p1 p2)
def G_21_0 {R : Type} (p0 : Int) (p1 : Int × List (List Int) × List (List Int) × PUnit) (p2 : Int × List (List Int) × List (List Int) × PUnit) (k : Ex → St → Option R) : Option R := Sp.B_21_0 (Sp.L_21_0 FU p0 p1 p2) (k Ex.ret (X_21_0_0)) (fun p1 p2 => k (Ex.exit (0 : Nat)) (X_21_0_1 p1 p2))
def o_21_0 {R : Type} (G : (Int) → (Int × List (List Int) × List (List Int) × PUnit) → (Int × List (List Int) × List (List Int) × PUnit) → (Ex → St → Option R) → Option R) : St → (Ex → St → Option R) → Option R := fun T k => match T.sl.getD 2 .junk, T.sl.getD 3 .junk, T.sl.getD 5 .junk, T.hp with
  | CV.ptr (0 : Nat) [], CV.ptr (1 : Nat) [], CV.int IntKind.i64 p0, ((Blk.mem (CV.pure (Ty.pair (Ty.int IntKind.i64) (Ty.pair (Ty.slice (Ty.arr (32 : Nat) (Ty.int IntKind.u8))) (Ty.pair (Ty.slice (Ty.arr (32 : Nat) (Ty.int IntKind.u8))) Ty.unit))) p1)) :: (Blk.mem (CV.pure (Ty.pair (Ty.int IntKind.i64) (Ty.pair (Ty.slice (Ty.arr (32 : Nat) (Ty.int IntKind.u8))) (Ty.pair (Ty.slice (Ty.arr (32 : Nat) (Ty.int IntKind.u8))) Ty.unit))) p2)) :: []) => gd (shapeOK T 66 [2, 3, 5] (0 : Nat)) (G p0 p1 p2 k)
  | _, _, _, _ => none
theorem o_21_0_inv {R : Type} {G : (Int) → (Int × List (List Int) × List (List Int) × PUnit) → (Int × List (List Int) × List (List Int) × PUnit) → (Ex → St → Option R) → Option R} {T : St} {k : Ex → St → Option R} {r : R} (h : o_21_0 G T k = some r) : ∃ p0 p1 p2, T = T_21_0 p0 p1 p2 ∧ G p0 p1 p2 k = some r := by
  unfold o_21_0 at h
  split at h
  · obtain ⟨hs, h'⟩ := gd_some h
    refine ⟨_, _, _, (st_of (asg := [(2, _), (3, _), (5, _)]) hs ⟨by assumption, by assumption, by assumption, trivial⟩ (by assumption)).trans ?_, h'⟩
    kernel_rfl
  · cases h
def T_21_1 (p0 : Int) (p1 : Int × List (List Int) × List (List Int) × PUnit) (p2 : Int × List (List Int) × List (List Int) × PUnit) : St := St.mk [jk, jk, CV.ptr (0 : Nat) [], CV.ptr (1 : Nat) [], jk, jk, CV.int IntKind.i64 p0, jk, jk, jk, jk, jk, jk, jk, jk, jk, jk, jk, jk, jk, jk, jk, jk, jk, jk, jk, jk, jk, jk, jk, jk, jk, jk, jk, jk, jk, jk, jk, jk, jk, jk, jk, jk, jk, jk, jk, jk, jk, jk, jk, jk, jk, jk, jk, jk, jk, jk, jk, jk, jk, jk, jk, jk, jk, jk, jk] [Blk.mem (CV.pure (Ty.pair (Ty.int IntKind.i64) (Ty.pair (Ty.slice (Ty.arr (32 : Nat) (Ty.int IntKind.u8))) (Ty.pair (Ty.slice (Ty.arr (32 : Nat) (Ty.int IntKind.u8))) Ty.unit))) p1), Blk.mem (CV.pure (Ty.pair (Ty.int IntKind.i64) (Ty.pair (Ty.slice (Ty.arr (32 : Nat) (Ty.int IntKind.u8))) (Ty.pair (Ty.slice (Ty.arr (32 : Nat) (Ty.int IntKind.u8))) Ty.unit))) p2)] (0 : Nat)
def X_21_1_0 : St := St.mk [jk, jk, jk, jk, CV.bool false, jk, jk, jk, jk, jk, jk, jk, jk, jk, jk, jk, jk, jk, jk, jk, jk, jk, jk, jk, jk, jk, jk, jk, jk, jk, jk, jk, jk, jk, jk, jk, jk, jk, jk, jk, jk, jk, jk, jk, jk, jk, jk, jk, jk, jk, jk, jk, jk, jk, jk, jk, jk, jk, jk, jk, jk, jk, jk, jk, jk, jk] [] (0 : Nat)
def X_21_1_1 : St := St.mk [jk, jk, jk, jk, jk, jk, jk, jk, jk, jk, jk, jk, jk, jk, jk, jk, jk, jk, jk, jk, jk, jk, jk, jk, jk, jk, jk, jk, jk, jk, jk, jk, jk, jk, jk, jk, jk, jk, jk, jk, jk, jk, jk, jk, jk, jk, jk, jk, jk, jk, jk, jk, jk, jk, jk, jk, jk, jk, jk, jk, jk, jk, jk, jk, jk, jk] [] (0 : Nat)
inductive Sp.E_21_1 where
  | e0
  | e1
def Sp.B_21_1 {R : Type} (r : Option Sp.E_21_1) (k0 : Option R) (k1 : Option R) : Option R := match r with
  | none => none
  | some (.e0) => k0
  | some (.e1) => k1
def Sp.L_21_1 : Nat → (Int) → (Int × List (List Int) × List (List Int) × PUnit) → (Int × List (List Int) × List (List Int) × PUnit) → Option Sp.E_21_1
  | 0, _, _, _ => none
  | m + 1, p0, p1, p2 => bif decide (p0 < (↑(List.length (Prod.fst (Prod.snd (Prod.snd p1)))) : Int)) then gd (inB p0 (List.length (Prod.fst (Prod.snd (Prod.snd p1))))) (gd (inB p0 (List.length (Prod.fst (Prod.snd (Prod.snd p2))))) (bif !Ty.beq (Ty.arr (32 : Nat) (Ty.int IntKind.u8)) (List.getD (Prod.fst (Prod.snd (Prod.snd p1))) (Int.toNat p0) (Ty.dflt (Ty.arr (32 : Nat) (Ty.int IntKind.u8)))) (List.getD (Prod.fst (Prod.snd (Prod.snd p2))) (Int.toNat p0) (Ty.dflt (Ty.arr (32 : Nat) (Ty.int IntKind.u8)))) then some (Sp.E_21_1.e0) else Sp.L_21_1 m (IntKind.wrap IntKind.i64 (p0 + (1 : Int))) p1 p2)) else some (Sp.E_21_1.e1)
def G_21_1 {R : Type} (p0 : Int) (p1 : Int × List (List Int) × List (List Int) × PUnit) (p2 : Int × List (List Int) × List (List Int) × PUnit) (k : Ex → St → Option R) : Option R := Sp.B_21_1 (Sp.L_21_1 FU p0 p1 p2) (k Ex.ret (X_21_1_0)) (k (Ex.exit (2 : Nat)) (X_21_1_1))
def o_21_1 {R : Type} (G : (Int) → (Int × List (List Int) × List (List Int) × PUnit) → (Int × List (List Int) × List (List Int) × PUnit) → (Ex → St → Option R) → Option R) : St → (Ex → St → Option R) → Option R := fun T k => match T.sl.getD 2 .junk, T.sl.getD 3 .junk, T.sl.getD 6 .junk, T.hp with
  | CV.ptr (0 : Nat) [], CV.ptr (1 : Nat) [], CV.int IntKind.i64 p0, ((Blk.mem (CV.pure (Ty.pair (Ty.int IntKind.i64) (Ty.pair (Ty.slice (Ty.arr (32 : Nat) (Ty.int IntKind.u8))) (Ty.pair (Ty.slice (Ty.arr (32 : Nat) (Ty.int IntKind.u8))) Ty.unit))) p1)) :: (Blk.mem (CV.pure (Ty.pair (Ty.int IntKind.i64) (Ty.pair (Ty.slice (Ty.arr (32 : Nat) (Ty.int IntKind.u8))) (Ty.pair (Ty.slice (Ty.arr (32 : Nat) (Ty.int IntKind.u8))) Ty.unit))) p2)) :: []) => gd (shapeOK T 66 [2, 3, 6] (0 : Nat)) (G p0 p1 p2 k)
  | _, _, _, _ => none
theorem o_21_1_inv {R : Type} {G : (Int) → (Int × List (List Int) × List (List Int) × PUnit) → (Int × List (List Int) × List (List Int) × PUnit) → (Ex → St → Option R) → Option R} {T : St} {k : Ex → St → Option R} {r : R} (h : o_21_1 G T k = some r) : ∃ p0 p1 p2, T = T_21_1 p0 p1 p2 ∧ G p0 p1 p2 k = some r := by
  unfold o_21_1 at h
  split at h
  · obtain ⟨hs, h'⟩ := gd_some h
    refine ⟨_, _, _, (st_of (asg := [(2, _), (3, _), (6, _)]) hs ⟨by assumption, by assumption, by assumption, trivial⟩ (by assumption)).trans ?_, h'⟩
    kernel_rfl
  · cases h
def O_21_21_0 {R : Type} : St → (Ex → St → Option R) → Option R := fun T k => o_21_0 G_21_0 T k
def O_21_21_1 {R : Type} : St → (Ex → St → Option R) → Option R := fun T k => o_21_1 G_21_1 T k
theorem body_21_0 {R : Type} (K0 : St → Option R) (K1 : Ex → St → Option R) (p0 : Int) (p1 : Int × List (List Int) × List (List Int) × PUnit) (p2 : Int × List (List Int) × List (List Int) × PUnit) : evLB (evCodeL sm_21 FU (ovr noO (evFn sm_21 fns FU 0)) .nil ir21_b0) (St.norm ir21_v0) (T_21_0 p0 p1 p2) K0 K1 =
  bif decide (p0 < (↑(List.length (Prod.fst (Prod.snd p1))) : Int)) then gd (inB p0 (List.length (Prod.fst (Prod.snd p1)))) (gd (inB p0 (List.length (Prod.fst (Prod.snd p2)))) (bif !Ty.beq (Ty.arr (32 : Nat) (Ty.int IntKind.u8)) (List.getD (Prod.fst (Prod.snd p1)) (Int.toNat p0) (Ty.dflt (Ty.arr (32 : Nat) (Ty.int IntKind.u8)))) (List.getD (Prod.fst (Prod.snd p2)) (Int.toNat p0) (Ty.dflt (Ty.arr (32 : Nat) (Ty.int IntKind.u8)))) then K1 Ex.ret X_21_0_0 else K0 (T_21_0 (IntKind.wrap IntKind.i64 (p0 + (1 : Int))) p1 p2))) else K1 (Ex.exit (0 : Nat)) (X_21_0_1 p1 p2) := by kernel_rfl
theorem Bgd_21_0 {R : Type} {c : Bool} {x : Option R} {y : Option Sp.E_21_0} {k0 : Option R} {k1 : (Int × List (List Int) × List (List Int) × PUnit) → (Int × List (List Int) × List (List Int) × PUnit) → Option R} (h : x = Sp.B_21_0 y k0 k1) : gd c x = Sp.B_21_0 (gd c y) k0 k1 := by cases c; rfl; exact h
theorem Bcond_21_0 {R : Type} {c : Bool} {x x' : Option R} {y y' : Option Sp.E_21_0} {k0 : Option R} {k1 : (Int × List (List Int) × List (List Int) × PUnit) → (Int × List (List Int) × List (List Int) × PUnit) → Option R} (h : x = Sp.B_21_0 y k0 k1) (h' : x' = Sp.B_21_0 y' k0 k1) : (bif c then x else x') = Sp.B_21_0 (bif c then y else y') k0 k1 := by cases c; exact h'; exact h
theorem loop_21_0 {R : Type} (k : Ex → St → Option R) : ∀ (m : Nat) (p0 : Int) (p1 : Int × List (List Int) × List (List Int) × PUnit) (p2 : Int × List (List Int) × List (List Int) × PUnit), evLoopN (evCodeL sm_21 FU (ovr noO (evFn sm_21 fns FU 0)) .nil ir21_b0) (St.norm ir21_v0) m (T_21_0 p0 p1 p2) k = Sp.B_21_0 (Sp.L_21_0 m p0 p1 p2) (k Ex.ret (X_21_0_0)) (fun p1 p2 => k (Ex.exit (0 : Nat)) (X_21_0_1 p1 p2))
  | 0, _, _, _ => rfl
  | m + 1, p0, p1, p2 => by
    rw [evLoopN_succ, body_21_0, Sp.L_21_0]
    repeat' first | apply Bgd_21_0 | apply Bcond_21_0 | exact loop_21_0 k m _ _ _ | rfl
theorem ok_21_0 {R : Type} (T : St) (k : Ex → St → Option R) (r : R) (h0 : o_21_0 G_21_0 T k = some r) : evLoopN (evCode sm_21 FU (evFn sm_21 fns FU 0) ir21_b0) (St.norm ir21_v0) FU T k = some r := by
  obtain ⟨p0, p1, p2, rfl, h⟩ := o_21_0_inv h0
  refine evLoopN_L (t := .nil) noO_ok trivial _ _ _ _ ?_
  rw [loop_21_0]
  exact h
theorem OK_21_21_0 {R : Type} (T : St) (k : Ex → St → Option R) (r : R) (h : O_21_21_0 T k = some r) : evLoopN (evCode sm_21 FU (evFn sm_21 fns FU 0) ir21_b0) (St.norm ir21_v0) FU T k = some r := ok_21_0 T k r h
theorem body_21_1 {R : Type} (K0 : St → Option R) (K1 : Ex → St → Option R) (p0 : Int) (p1 : Int × List (List Int) × List (List Int) × PUnit) (p2 : Int × List (List Int) × List (List Int) × PUnit) : evLB (evCodeL sm_21 FU (ovr noO (evFn sm_21 fns FU 0)) .nil ir21_b1) (St.norm ir21_v1) (T_21_1 p0 p1 p2) K0 K1 =
  bif decide (p0 < (↑(List.length (Prod.fst (Prod.snd (Prod.snd p1)))) : Int)) then gd (inB p0 (List.length (Prod.fst (Prod.snd (Prod.snd p1))))) (gd (inB p0 (List.length (Prod.fst (Prod.snd (Prod.snd p2))))) (bif !Ty.beq (Ty.arr (32 : Nat) (Ty.int IntKind.u8)) (List.getD (Prod.fst (Prod.snd (Prod.snd p1))) (Int.toNat p0) (Ty.dflt (Ty.arr (32 : Nat) (Ty.int IntKind.u8)))) (List.getD (Prod.fst (Prod.snd (Prod.snd p2))) (Int.toNat p0) (Ty.dflt (Ty.arr (32 : Nat) (Ty.int IntKind.u8)))) then K1 Ex.ret X_21_1_0 else K0 (T_21_1 (IntKind.wrap IntKind.i64 (p0 + (1 : Int))) p1 p2))) else K1 (Ex.exit (2 : Nat)) X_21_1_1 := by kernel_rfl
theorem Bgd_21_1 {R : Type} {c : Bool} {x : Option R} {y : Option Sp.E_21_1} {k0 : Option R} {k1 : Option R} (h : x = Sp.B_21_1 y k0 k1) : gd c x = Sp.B_21_1 (gd c y) k0 k1 := by cases c; rfl; exact h
theorem Bcond_21_1 {R : Type} {c : Bool} {x x' : Option R} {y y' : Option Sp.E_21_1} {k0 : Option R} {k1 : Option R} (h : x = Sp.B_21_1 y k0 k1) (h' : x' = Sp.B_21_1 y' k0 k1) : (bif c then x else x') = Sp.B_21_1 (bif c then y else y') k0 k1 := by cases c; exact h'; exact h
theorem loop_21_1 {R : Type} (k : Ex → St → Option R) : ∀ (m : Nat) (p0 : Int) (p1 : Int × List (List Int) × List (List Int) × PUnit) (p2 : Int × List (List Int) × List (List Int) × PUnit), evLoopN (evCodeL sm_21 FU (ovr noO (evFn sm_21 fns FU 0)) .nil ir21_b1) (St.norm ir21_v1) m (T_21_1 p0 p1 p2) k = Sp.B_21_1 (Sp.L_21_1 m p0 p1 p2) (k Ex.ret (X_21_1_0)) (k (Ex.exit (2 : Nat)) (X_21_1_1))
  | 0, _, _, _ => rfl
  | m + 1, p0, p1, p2 => by
    rw [evLoopN_succ, body_21_1, Sp.L_21_1]
    repeat' first | apply Bgd_21_1 | apply Bcond_21_1 | exact loop_21_1 k m _ _ _ | rfl
theorem ok_21_1 {R : Type} (T : St) (k : Ex → St → Option R) (r : R) (h0 : o_21_1 G_21_1 T k = some r) : evLoopN (evCode sm_21 FU (evFn sm_21 fns FU 0) ir21_b1) (St.norm ir21_v1) FU T k = some r := by
  obtain ⟨p0, p1, p2, rfl, h⟩ := o_21_1_inv h0
  refine evLoopN_L (t := .nil) noO_ok trivial _ _ _ _ ?_
  rw [loop_21_1]
  exact h
theorem OK_21_21_1 {R : Type} (T : St) (k : Ex → St → Option R) (r : R) (h : O_21_21_1 T k = some r) : evLoopN (evCode sm_21 FU (evFn sm_21 fns FU 0) ir21_b1) (St.norm ir21_v1) FU T k = some r := ok_21_1 T k r h
def F_21 (a0 : (Int × ((List (List Int)) × ((List (List Int)) × Unit)))) (a1 : (Int × ((List (List Int)) × ((List (List Int)) × Unit)))) : Option (Bool × Unit) :=
  bif Prod.fst a0 != Prod.fst a1 then some (false, PUnit.unit) else bif (↑(List.length (Prod.fst (Prod.snd a0))) : Int) != (↑(List.length (Prod.fst (Prod.snd a1))) : Int) then some (false, PUnit.unit) else bif (↑(List.length (Prod.fst (Prod.snd (Prod.snd a0)))) : Int) != (↑(List.length (Prod.fst (Prod.snd (Prod.snd a1)))) : Int) then some (false, PUnit.unit) else Sp.B_21_0 (Sp.L_21_0 (4611686018427387904 : Nat) (0 : Int) a0 a1) (some (false, PUnit.unit)) fun (y2 y3 : Int × List (List Int) × List (List Int) × PUnit) => Sp.B_21_1 (Sp.L_21_1 (4611686018427387904 : Nat) (0 : Int) y2 y3) (some (false, PUnit.unit)) (some (true, PUnit.unit))
theorem fn_21 (a0 : (Int × ((List (List Int)) × ((List (List Int)) × Unit)))) (a1 : (Int × ((List (List Int)) × ((List (List Int)) × Unit)))) : evFnL sm_21 FU (ovr noO (evFn sm_21 fns FU 0)) (ir21_t O_21_21_0 O_21_21_1) ir21 (ofH [(.pair (.int .i64) (.pair (.slice (.arr 32 (.int .u8))) (.pair (.slice (.arr 32 (.int .u8))) .unit))), (.pair (.int .i64) (.pair (.slice (.arr 32 (.int .u8))) (.pair (.slice (.arr 32 (.int .u8))) .unit)))] (a0, a1, ())) [] (pureK [.bool]) = F_21 a0 a1 := by kernel_rfl
def Sp.p_21 (a0 : (Int × ((List (List Int)) × ((List (List Int)) × Unit)))) (a1 : (Int × ((List (List Int)) × ((List (List Int)) × Unit)))) : Bool := (F_21 a0 a1).isSome
def Sp.v_21 (a0 : (Int × ((List (List Int)) × ((List (List Int)) × Unit)))) (a1 : (Int × ((List (List Int)) × ((List (List Int)) × Unit)))) : Bool × Unit := (F_21 a0 a1).getD (dfH [.bool])
def s_21 : Summ := shN [(.pair (.int .i64) (.pair (.slice (.arr 32 (.int .u8))) (.pair (.slice (.arr 32 (.int .u8))) .unit))), (.pair (.int .i64) (.pair (.slice (.arr 32 (.int .u8))) (.pair (.slice (.arr 32 (.int .u8))) .unit)))] [.bool] (fun x => Sp.p_21 x.1 x.2.1) (fun x => Sp.v_21 x.1 x.2.1)
theorem pv_21 (a0 : (Int × ((List (List Int)) × ((List (List Int)) × Unit)))) (a1 : (Int × ((List (List Int)) × ((List (List Int)) × Unit)))) {y : Bool × Unit} (h : F_21 a0 a1 = some y) : Sp.p_21 a0 a1 = true ∧ Sp.v_21 a0 a1 = y := ⟨by rw [Sp.p_21, h]; rfl, by rw [Sp.v_21, h]; rfl⟩
theorem run_21 (x : HDen [(.pair (.int .i64) (.pair (.slice (.arr 32 (.int .u8))) (.pair (.slice (.arr 32 (.int .u8))) .unit))), (.pair (.int .i64) (.pair (.slice (.arr 32 (.int .u8))) (.pair (.slice (.arr 32 (.int .u8))) .unit)))]) (y : HDen [.bool]) (h : F_21 x.1 x.2.1 = some y) : evFn sm_21 fns FU 1 21 (ofH [(.pair (.int .i64) (.pair (.slice (.arr 32 (.int .u8))) (.pair (.slice (.arr 32 (.int .u8))) .unit))), (.pair (.int .i64) (.pair (.slice (.arr 32 (.int .u8))) (.pair (.slice (.arr 32 (.int .u8))) .unit)))] x) [] (pureK [.bool]) = some y :=
  evFnL_sound (fn := ir21) (t := (ir21_t O_21_21_0 O_21_21_1)) (o := noO) rfl noO_ok (ir21_tok (fun T k r => OK_21_21_0 T k r) (fun T k r => OK_21_21_1 T k r)) ((fn_21 _ _).trans h)
end
end Go.Ev
namespace Go.Ev
open Go
set_option maxRecDepth 100000
set_option maxHeartbeats 4000000
set_option linter.unusedVariables false
noncomputable section

def sm_38 : Nat → Option Summ := fun f => none


def F_38 (a0 : (Int × ((List (List Int)) × ((List (List Int)) × Unit)))) : Option (Bool × Unit) :=
  bif decide (Prod.fst a0 ≥ (0 : Int)) then bif decide (Prod.fst a0 < (4 : Int)) then bif (↑(List.length (Prod.fst (Prod.snd a0))) : Int) == (67 : Int) then some ((↑(List.length (Prod.fst (Prod.snd (Prod.snd a0)))) : Int) == (2 : Int), PUnit.unit) else some (false, PUnit.unit) else some (false, PUnit.unit) else some (false, PUnit.unit)
theorem fn_38 (a0 : (Int × ((List (List Int)) × ((List (List Int)) × Unit)))) : evFnL sm_38 FU (ovr noO (evFn sm_38 fns FU 0)) .nil ir38 (ofH [(.pair (.int .i64) (.pair (.slice (.arr 32 (.int .u8))) (.pair (.slice (.arr 32 (.int .u8))) .unit)))] (a0, ())) [] (pureK [.bool]) = F_38 a0 := by kernel_rfl
def Sp.p_38 (a0 : (Int × ((List (List Int)) × ((List (List Int)) × Unit)))) : Bool := (F_38 a0).isSome
def Sp.v_38 (a0 : (Int × ((List (List Int)) × ((List (List Int)) × Unit)))) : Bool × Unit := (F_38 a0).getD (dfH [.bool])
def s_38 : Summ := shN [(.pair (.int .i64) (.pair (.slice (.arr 32 (.int .u8))) (.pair (.slice (.arr 32 (.int .u8))) .unit)))] [.bool] (fun x => Sp.p_38 x.1) (fun x => Sp.v_38 x.1)
theorem pv_38 (a0 : (Int × ((List (List Int)) × ((List (List Int)) × Unit)))) {y : Bool × Unit} (h : F_38 a0 = some y) : Sp.p_38 a0 = true ∧ Sp.v_38 a0 = y := ⟨by rw [Sp.p_38, h]; rfl, by rw [Sp.v_38, h]; rfl⟩
theorem run_38 (x : HDen [(.pair (.int .i64) (.pair (.slice (.arr 32 (.int .u8))) (.pair (.slice (.arr 32 (.int .u8))) .unit)))]) (y : HDen [.bool]) (h : F_38 x.1 = some y) : evFn sm_38 fns FU 1 38 (ofH [(.pair (.int .i64) (.pair (.slice (.arr 32 (.int .u8))) (.pair (.slice (.arr 32 (.int .u8))) .unit)))] x) [] (pureK [.bool]) = some y :=
  evFnL_sound (fn := ir38) (t := .nil) (o := noO) rfl noO_ok trivial ((fn_38 _).trans h)
end
end Go.Ev
namespace Go.Ev
open Go
set_option maxRecDepth 100000
set_option maxHeartbeats 4000000
set_option linter.unusedVariables false
noncomputable section

def sm_25 : Nat → Option Summ := fun f => bif Nat.beq f 38 then some s_38 else bif Nat.beq f 47 then some s_47 else none
def T_25_2 (p0 : Int) (p1 : Int) (p2 : Int) (p3 : List (List Int)) (p4 : Int) (p5 : Int) (p6 : List Int) (p7 : List Int) (p8 : List (List (List Int))) : St := St.mk [jk, jk, jk, jk, CV.whole (0 : Nat), jk, jk, jk, CV.ptr (1 : Nat) [], CV.int IntKind.i64 p0, jk, jk, jk, jk, jk, jk, jk, jk, jk, jk, jk, CV.whole (2 : Nat), CV.int IntKind.i64 p1, CV.int IntKind.i64 p2, jk, jk, jk, CV.pure (Ty.slice (Ty.arr (32 : Nat) (Ty.int IntKind.u8))) p3, CV.int IntKind.i64 p4, CV.int IntKind.i64 p5, jk, jk, jk, jk, jk, jk, jk, jk, jk, jk, jk, jk, jk, jk, jk, jk] [Blk.vec (53 : Nat) (Ty.int IntKind.u32) p6, Blk.mem (CV.pure (Ty.arr (32 : Nat) (Ty.int IntKind.u8)) p7), Blk.vec (37 : Nat) (Ty.slice (Ty.arr (32 : Nat) (Ty.int IntKind.u8))) p8] (0 : Nat)
def X_25_2_0 (p1 : Int) (p2 : Int) (p3 : List (List Int)) (p4 : Int) (p5 : Int) (p6 : List Int) (p8 : List (List (List Int))) : St := St.mk [jk, jk, jk, jk, CV.whole (0 : Nat), jk, jk, jk, jk, jk, jk, jk, jk, jk, jk, jk, jk, jk, jk, jk, jk, CV.whole (1 : Nat), CV.int IntKind.i64 p1, CV.int IntKind.i64 p2, jk, jk, jk, CV.pure (Ty.slice (Ty.arr (32 : Nat) (Ty.int IntKind.u8))) p3, CV.int IntKind.i64 p4, CV.int IntKind.i64 p5, jk, jk, jk, jk, jk, jk, jk, jk, jk, jk, jk, jk, jk, jk, jk, jk] [Blk.vec (53 : Nat) (Ty.int IntKind.u32) p6, Blk.vec (37 : Nat) (Ty.slice (Ty.arr (32 : Nat) (Ty.int IntKind.u8))) p8] (0 : Nat)
inductive Sp.E_25_2 where
  | e0 (p1 : Int) (p2 : Int) (p3 : List (List Int)) (p4 : Int) (p5 : Int) (p6 : List Int) (p8 : List (List (List Int)))
def Sp.B_25_2 {R : Type} (r : Option Sp.E_25_2) (k0 : (Int) → (Int) → (List (List Int)) → (Int) → (Int) → (List Int) → (List (List (List Int))) → Option R) : Option R := match r with
  | none => none
  | some (.e0 p1 p2 p3 p4 p5 p6 p8) => k0 p1 p2 p3 p4 p5 p6 p8
def Sp.L_25_2 : Nat → (Int) → (Int) → (Int) → (List (List Int)) → (Int) → (Int) → (List Int) → (List Int) → (List (List (List Int))) → Option Sp.E_25_2
  | 0, _, _, _, _, _, _, _, _, _ => none
  | m + 1, p0, p1, p2, p3, p4, p5, p6, p7, p8 => bif decide (p0 < (32 : Int)) then gd (sl3 p0 (32 : Int) (32 : Int)) (gd (decide (Int.toNat p0 + ((32 : Nat) - Int.toNat p0) ≤ (32 : Nat)) && true && Sp.p_47 (List.take ((32 : Nat) - Int.toNat p0) (List.drop (Int.toNat p0) p7))) (gd (room (List.length p6 + (1 : Nat)) (4 : Nat)) (Sp.L_25_2 m (IntKind.wrap IntKind.i64 (p0 + (4 : Int))) p1 p2 p3 p4 p5 (p6 ++ [Prod.fst (Sp.v_47 (List.take ((32 : Nat) - Int.toNat p0) (List.drop (Int.toNat p0) p7)))]) p7 p8))) else some (Sp.E_25_2.e0 p1 p2 p3 p4 p5 p6 p8)
def G_25_2 {R : Type} (p0 : Int) (p1 : Int) (p2 : Int) (p3 : List (List Int)) (p4 : Int) (p5 : Int) (p6 : List Int) (p7 : List Int) (p8 : List (List (List Int))) (k : Ex → St → Option R) : Option R := Sp.B_25_2 (Sp.L_25_2 FU p0 p1 p2 p3 p4 p5 p6 p7 p8) (fun p1 p2 p3 p4 p5 p6 p8 => k (Ex.exit (4 : Nat)) (X_25_2_0 p1 p2 p3 p4 p5 p6 p8))
def o_25_2 {R : Type} (G : (Int) → (Int) → (Int) → (List (List Int)) → (Int) → (Int) → (List Int) → (List Int) → (List (List (List Int))) → (Ex → St → Option R) → Option R) : St → (Ex → St → Option R) → Option R := fun T k => match T.sl.getD 4 .junk, T.sl.getD 8 .junk, T.sl.getD 9 .junk, T.sl.getD 21 .junk, T.sl.getD 22 .junk, T.sl.getD 23 .junk, T.sl.getD 27 .junk, T.sl.getD 28 .junk, T.sl.getD 29 .junk, T.hp with
  | CV.whole (0 : Nat), CV.ptr (1 : Nat) [], CV.int IntKind.i64 p0, CV.whole (2 : Nat), CV.int IntKind.i64 p1, CV.int IntKind.i64 p2, CV.pure (Ty.slice (Ty.arr (32 : Nat) (Ty.int IntKind.u8))) p3, CV.int IntKind.i64 p4, CV.int IntKind.i64 p5, ((Blk.vec (53 : Nat) (Ty.int IntKind.u32) p6) :: (Blk.mem (CV.pure (Ty.arr (32 : Nat) (Ty.int IntKind.u8)) p7)) :: (Blk.vec (37 : Nat) (Ty.slice (Ty.arr (32 : Nat) (Ty.int IntKind.u8))) p8) :: []) => gd (shapeOK T 46 [4, 8, 9, 21, 22, 23, 27, 28, 29] (0 : Nat)) (G p0 p1 p2 p3 p4 p5 p6 p7 p8 k)
  | _, _, _, _, _, _, _, _, _, _ => none
theorem o_25_2_inv {R : Type} {G : (Int) → (Int) → (Int) → (List (List Int)) → (Int) → (Int) → (List Int) → (List Int) → (List (List (List Int))) → (Ex → St → Option R) → Option R} {T : St} {k : Ex → St → Option R} {r : R} (h : o_25_2 G T k = some r) : ∃ p0 p1 p2 p3 p4 p5 p6 p7 p8, T = T_25_2 p0 p1 p2 p3 p4 p5 p6 p7 p8 ∧ G p0 p1 p2 p3 p4 p5 p6 p7 p8 k = some r := by
  unfold o_25_2 at h
  split at h
  · obtain ⟨hs, h'⟩ := gd_some h
    refine ⟨_, _, _, _, _, _, _, _, _, (st_of (asg := [(4, _), (8, _), (9, _), (21, _), (22, _), (23, _), (27, _), (28, _), (29, _)]) hs ⟨by assumption, by assumption, by assumption, by assumption, by assumption, by assumption, by assumption, by assumption, by assumption, trivial⟩ (by assumption)).trans ?_, h'⟩
    kernel_rfl
  · cases h
def T_25_1 (p0 : Int) (p1 : Int) (p2 : List (List Int)) (p3 : Int) (p4 : Int) (p5 : List Int) (p6 : List (List (List Int))) : St := St.mk [jk, jk, jk, jk, CV.whole (0 : Nat), jk, jk, jk, jk, jk, jk, jk, jk, jk, jk, jk, jk, jk, jk, jk, jk, CV.whole (1 : Nat), CV.int IntKind.i64 p0, CV.int IntKind.i64 p1, jk, jk, jk, CV.pure (Ty.slice (Ty.arr (32 : Nat) (Ty.int IntKind.u8))) p2, CV.int IntKind.i64 p3, CV.int IntKind.i64 p4, jk, jk, jk, jk, jk, jk, jk, jk, jk, jk, jk, jk, jk, jk, jk, jk] [Blk.vec (53 : Nat) (Ty.int IntKind.u32) p5, Blk.vec (37 : Nat) (Ty.slice (Ty.arr (32 : Nat) (Ty.int IntKind.u8))) p6] (0 : Nat)
def X_25_1_0 (p0 : Int) (p1 : Int) (p5 : List Int) (p6 : List (List (List Int))) : St := St.mk [jk, jk, jk, jk, CV.whole (0 : Nat), jk, jk, jk, jk, jk, jk, jk, jk, jk, jk, jk, jk, jk, jk, jk, jk, CV.whole (1 : Nat), CV.int IntKind.i64 p0, CV.int IntKind.i64 p1, jk, jk, jk, jk, jk, jk, jk, jk, jk, jk, jk, jk, jk, jk, jk, jk, jk, jk, jk, jk, jk, jk] [Blk.vec (53 : Nat) (Ty.int IntKind.u32) p5, Blk.vec (37 : Nat) (Ty.slice (Ty.arr (32 : Nat) (Ty.int IntKind.u8))) p6] (0 : Nat)
inductive Sp.E_25_1 where
  | e0 (p0 : Int) (p1 : Int) (p5 : List Int) (p6 : List (List (List Int)))
def Sp.B_25_1 {R : Type} (r : Option Sp.E_25_1) (k0 : (Int) → (Int) → (List Int) → (List (List (List Int))) → Option R) : Option R := match r with
  | none => none
  | some (.e0 p0 p1 p5 p6) => k0 p0 p1 p5 p6
def Sp.L_25_1 : Nat → (Int) → (Int) → (List (List Int)) → (Int) → (Int) → (List Int) → (List (List (List Int))) → Option Sp.E_25_1
  | 0, _, _, _, _, _, _, _ => none
  | m + 1, p0, p1, p2, p3, p4, p5, p6 => bif decide (p4 < p3) then gd (inB p4 (List.length p2)) (Sp.B_25_2 (Sp.L_25_2 (4611686018427387904 : Nat) (0 : Int) p0 p1 p2 p3 p4 p5 (List.getD p2 (Int.toNat p4) (Ty.dflt (Ty.arr (32 : Nat) (Ty.int IntKind.u8)))) p6) fun (y7 y8 : Int) (y9 : List (List Int)) (y10 y11 : Int) (y12 : List Int) (y13 : List (List (List Int))) => Sp.L_25_1 m y7 y8 y9 y10 (IntKind.wrap IntKind.i64 (y11 + (1 : Int))) y12 y13) else some (Sp.E_25_1.e0 p0 p1 p5 p6)
def G_25_1 {R : Type} (p0 : Int) (p1 : Int) (p2 : List (List Int)) (p3 : Int) (p4 : Int) (p5 : List Int) (p6 : List (List (List Int))) (k : Ex → St → Option R) : Option R := Sp.B_25_1 (Sp.L_25_1 FU p0 p1 p2 p3 p4 p5 p6) (fun p0 p1 p5 p6 => k (Ex.exit (2 : Nat)) (X_25_1_0 p0 p1 p5 p6))
def o_25_1 {R : Type} (G : (Int) → (Int) → (List (List Int)) → (Int) → (Int) → (List Int) → (List (List (List Int))) → (Ex → St → Option R) → Option R) : St → (Ex → St → Option R) → Option R := fun T k => match T.sl.getD 4 .junk, T.sl.getD 21 .junk, T.sl.getD 22 .junk, T.sl.getD 23 .junk, T.sl.getD 27 .junk, T.sl.getD 28 .junk, T.sl.getD 29 .junk, T.hp with
  | CV.whole (0 : Nat), CV.whole (1 : Nat), CV.int IntKind.i64 p0, CV.int IntKind.i64 p1, CV.pure (Ty.slice (Ty.arr (32 : Nat) (Ty.int IntKind.u8))) p2, CV.int IntKind.i64 p3, CV.int IntKind.i64 p4, ((Blk.vec (53 : Nat) (Ty.int IntKind.u32) p5) :: (Blk.vec (37 : Nat) (Ty.slice (Ty.arr (32 : Nat) (Ty.int IntKind.u8))) p6) :: []) => gd (shapeOK T 46 [4, 21, 22, 23, 27, 28, 29] (0 : Nat)) (G p0 p1 p2 p3 p4 p5 p6 k)
  | _, _, _, _, _, _, _, _ => none
theorem o_25_1_inv {R : Type} {G : (Int) → (Int) → (List (List Int)) → (Int) → (Int) → (List Int) → (List (List (List Int))) → (Ex → St → Option R) → Option R} {T : St} {k : Ex → St → Option R} {r : R} (h : o_25_1 G T k = some r) : ∃ p0 p1 p2 p3 p4 p5 p6, T = T_25_1 p0 p1 p2 p3 p4 p5 p6 ∧ G p0 p1 p2 p3 p4 p5 p6 k = some r := by
  unfold o_25_1 at h
  split at h
  · obtain ⟨hs, h'⟩ := gd_some h
    refine ⟨_, _, _, _, _, _, _, (st_of (asg := [(4, _), (21, _), (22, _), (23, _), (27, _), (28, _), (29, _)]) hs ⟨by assumption, by assumption, by assumption, by assumption, by assumption, by assumption, by assumption, trivial⟩ (by assumption)).trans ?_, h'⟩
    kernel_rfl
  · cases h
def T_25_0 (p0 : Int) (p1 : Int) (p2 : List Int) (p3 : List (List (List Int))) : St := St.mk [jk, jk, jk, jk, CV.whole (0 : Nat), jk, jk, jk, jk, jk, jk, jk, jk, jk, jk, jk, jk, jk, jk, jk, jk, CV.whole (1 : Nat), CV.int IntKind.i64 p0, CV.int IntKind.i64 p1, jk, jk, jk, jk, jk, jk, jk, jk, jk, jk, jk, jk, jk, jk, jk, jk, jk, jk, jk, jk, jk, jk] [Blk.vec (53 : Nat) (Ty.int IntKind.u32) p2, Blk.vec (37 : Nat) (Ty.slice (Ty.arr (32 : Nat) (Ty.int IntKind.u8))) p3] (0 : Nat)
def X_25_0_0 (p2 : List Int) : St := St.mk [jk, jk, jk, jk, CV.whole (0 : Nat), jk, jk, jk, jk, jk, jk, jk, jk, jk, jk, jk, jk, jk, jk, jk, jk, jk, jk, jk, jk, jk, jk, jk, jk, jk, jk, jk, jk, jk, jk, jk, jk, jk, jk, jk, jk, jk, jk, jk, jk, jk] [Blk.vec (53 : Nat) (Ty.int IntKind.u32) p2] (0 : Nat)
inductive Sp.E_25_0 where
  | e0 (p2 : List Int)
def Sp.B_25_0 {R : Type} (r : Option Sp.E_25_0) (k0 : (List Int) → Option R) : Option R := match r with
  | none => none
  | some (.e0 p2) => k0 p2
def Sp.L_25_0 : Nat → (Int) → (Int) → (List Int) → (List (List (List Int))) → Option Sp.E_25_0
  | 0, _, _, _, _ => none
  | m + 1, p0, p1, p2, p3 => bif decide (p1 < p0) then gd (inB p1 (List.length p3)) (gd (decide (Int.toNat p1 < List.length p3) && true) (Sp.B_25_1 (Sp.L_25_1 (4611686018427387904 : Nat) p0 p1 (List.getD p3 (Int.toNat p1) (Ty.dflt (Ty.slice (Ty.arr (32 : Nat) (Ty.int IntKind.u8))))) (↑(List.length (List.getD p3 (Int.toNat p1) (Ty.dflt (Ty.slice (Ty.arr (32 : Nat) (Ty.int IntKind.u8)))))) : Int) (0 : Int) p2 p3) fun (y4 y5 : Int) (y6 : List Int) (y7 : List (List (List Int))) => Sp.L_25_0 m y4 (IntKind.wrap IntKind.i64 (y5 + (1 : Int))) y6 y7)) else some (Sp.E_25_0.e0 p2)
def G_25_0 {R : Type} (p0 : Int) (p1 : Int) (p2 : List Int) (p3 : List (List (List Int))) (k : Ex → St → Option R) : Option R := Sp.B_25_0 (Sp.L_25_0 FU p0 p1 p2 p3) (fun p2 => k (Ex.exit (0 : Nat)) (X_25_0_0 p2))
def o_25_0 {R : Type} (G : (Int) → (Int) → (List Int) → (List (List (List Int))) → (Ex → St → Option R) → Option R) : St → (Ex → St → Option R) → Option R := fun T k => match T.sl.getD 4 .junk, T.sl.getD 21 .junk, T.sl.getD 22 .junk, T.sl.getD 23 .junk, T.hp with
  | CV.whole (0 : Nat), CV.whole (1 : Nat), CV.int IntKind.i64 p0, CV.int IntKind.i64 p1, ((Blk.vec (53 : Nat) (Ty.int IntKind.u32) p2) :: (Blk.vec (37 : Nat) (Ty.slice (Ty.arr (32 : Nat) (Ty.int IntKind.u8))) p3) :: []) => gd (shapeOK T 46 [4, 21, 22, 23] (0 : Nat)) (G p0 p1 p2 p3 k)
  | _, _, _, _, _ => none
theorem o_25_0_inv {R : Type} {G : (Int) → (Int) → (List Int) → (List (List (List Int))) → (Ex → St → Option R) → Option R} {T : St} {k : Ex → St → Option R} {r : R} (h : o_25_0 G T k = some r) : ∃ p0 p1 p2 p3, T = T_25_0 p0 p1 p2 p3 ∧ G p0 p1 p2 p3 k = some r := by
  unfold o_25_0 at h
  split at h
  · obtain ⟨hs, h'⟩ := gd_some h
    refine ⟨_, _, _, _, (st_of (asg := [(4, _), (21, _), (22, _), (23, _)]) hs ⟨by assumption, by assumption, by assumption, by assumption, trivial⟩ (by assumption)).trans ?_, h'⟩
    kernel_rfl
  · cases h
def O_25_25_2 {R : Type} : St → (Ex → St → Option R) → Option R := fun T k => o_25_2 G_25_2 T k
def O_25_25_1 {R : Type} : St → (Ex → St → Option R) → Option R := fun T k => o_25_1 G_25_1 T k
def O_25_25_0 {R : Type} : St → (Ex → St → Option R) → Option R := fun T k => o_25_0 G_25_0 T k
theorem body_25_2 {R : Type} (K0 : St → Option R) (K1 : Ex → St → Option R) (p0 : Int) (p1 : Int) (p2 : Int) (p3 : List (List Int)) (p4 : Int) (p5 : Int) (p6 : List Int) (p7 : List Int) (p8 : List (List (List Int))) : evLB (evCodeL sm_25 FU (ovr noO (evFn sm_25 fns FU 0)) .nil ir25_b2) (St.norm ir25_v2) (T_25_2 p0 p1 p2 p3 p4 p5 p6 p7 p8) K0 K1 =
  bif decide (p0 < (32 : Int)) then gd (sl3 p0 (32 : Int) (32 : Int)) (gd (decide (Int.toNat p0 + ((32 : Nat) - Int.toNat p0) ≤ (32 : Nat)) && true && Sp.p_47 (List.take ((32 : Nat) - Int.toNat p0) (List.drop (Int.toNat p0) p7))) (gd (room (List.length p6 + (1 : Nat)) (4 : Nat)) (K0 (T_25_2 (IntKind.wrap IntKind.i64 (p0 + (4 : Int))) p1 p2 p3 p4 p5 (p6 ++ [Prod.fst (Sp.v_47 (List.take ((32 : Nat) - Int.toNat p0) (List.drop (Int.toNat p0) p7)))]) p7 p8)))) else K1 (Ex.exit (4 : Nat)) (X_25_2_0 p1 p2 p3 p4 p5 p6 p8) := by kernel_rfl
theorem Bgd_25_2 {R : Type} {c : Bool} {x : Option R} {y : Option Sp.E_25_2} {k0 : (Int) → (Int) → (List (List Int)) → (Int) → (Int) → (List Int) → (List (List (List Int))) → Option R} (h : x = Sp.B_25_2 y k0) : gd c x = Sp.B_25_2 (gd c y) k0 := by cases c; rfl; exact h
theorem Bcond_25_2 {R : Type} {c : Bool} {x x' : Option R} {y y' : Option Sp.E_25_2} {k0 : (Int) → (Int) → (List (List Int)) → (Int) → (Int) → (List Int) → (List (List (List Int))) → Option R} (h : x = Sp.B_25_2 y k0) (h' : x' = Sp.B_25_2 y' k0) : (bif c then x else x') = Sp.B_25_2 (bif c then y else y') k0 := by cases c; exact h'; exact h
theorem loop_25_2 {R : Type} (k : Ex → St → Option R) : ∀ (m : Nat) (p0 : Int) (p1 : Int) (p2 : Int) (p3 : List (List Int)) (p4 : Int) (p5 : Int) (p6 : List Int) (p7 : List Int) (p8 : List (List (List Int))), evLoopN (evCodeL sm_25 FU (ovr noO (evFn sm_25 fns FU 0)) .nil ir25_b2) (St.norm ir25_v2) m (T_25_2 p0 p1 p2 p3 p4 p5 p6 p7 p8) k = Sp.B_25_2 (Sp.L_25_2 m p0 p1 p2 p3 p4 p5 p6 p7 p8) (fun p1 p2 p3 p4 p5 p6 p8 => k (Ex.exit (4 : Nat)) (X_25_2_0 p1 p2 p3 p4 p5 p6 p8))
  | 0, _, _, _, _, _, _, _, _, _ => rfl
  | m + 1, p0, p1, p2, p3, p4, p5, p6, p7, p8 => by
    rw [evLoopN_succ, body_25_2, Sp.L_25_2]
    repeat' first | apply Bgd_25_2 | apply Bcond_25_2 | exact loop_25_2 k m _ _ _ _ _ _ _ _ _ | rfl
theorem ok_25_2 {R : Type} (T : St) (k : Ex → St → Option R) (r : R) (h0 : o_25_2 G_25_2 T k = some r) : evLoopN (evCode sm_25 FU (evFn sm_25 fns FU 0) ir25_b2) (St.norm ir25_v2) FU T k = some r := by
  obtain ⟨p0, p1, p2, p3, p4, p5, p6, p7, p8, rfl, h⟩ := o_25_2_inv h0
  refine evLoopN_L (t := .nil) noO_ok trivial _ _ _ _ ?_
  rw [loop_25_2]
  exact h
theorem OK_25_25_2 {R : Type} (T : St) (k : Ex → St → Option R) (r : R) (h : O_25_25_2 T k = some r) : evLoopN (evCode sm_25 FU (evFn sm_25 fns FU 0) ir25_b2) (St.norm ir25_v2) FU T k = some r := ok_25_2 T k r h
theorem body_25_1 {R : Type} (K0 : St → Option R) (K1 : Ex → St → Option R) (p0 : Int) (p1 : Int) (p2 : List (List Int)) (p3 : Int) (p4 : Int) (p5 : List Int) (p6 : List (List (List Int))) : evLB (evCodeL sm_25 FU (ovr noO (evFn sm_25 fns FU 0)) (ir25_bt1 O_25_25_2) ir25_b1) (St.norm ir25_v1) (T_25_1 p0 p1 p2 p3 p4 p5 p6) K0 K1 =
  bif decide (p4 < p3) then gd (inB p4 (List.length p2)) (Sp.B_25_2 (Sp.L_25_2 (4611686018427387904 : Nat) (0 : Int) p0 p1 p2 p3 p4 p5 (List.getD p2 (Int.toNat p4) (Ty.dflt (Ty.arr (32 : Nat) (Ty.int IntKind.u8)))) p6) fun (y7 y8 : Int) (y9 : List (List Int)) (y10 y11 : Int) (y12 : List Int) (y13 : List (List (List Int))) => K0 (T_25_1 y7 y8 y9 y10 (IntKind.wrap IntKind.i64 (y11 + (1 : Int))) y12 y13)) else K1 (Ex.exit (2 : Nat)) (X_25_1_0 p0 p1 p5 p6) := by kernel_rfl
theorem Bgd_25_1 {R : Type} {c : Bool} {x : Option R} {y : Option Sp.E_25_1} {k0 : (Int) → (Int) → (List Int) → (List (List (List Int))) → Option R} (h : x = Sp.B_25_1 y k0) : gd c x = Sp.B_25_1 (gd c y) k0 := by cases c; rfl; exact h
theorem Bcond_25_1 {R : Type} {c : Bool} {x x' : Option R} {y y' : Option Sp.E_25_1} {k0 : (Int) → (Int) → (List Int) → (List (List (List Int))) → Option R} (h : x = Sp.B_25_1 y k0) (h' : x' = Sp.B_25_1 y' k0) : (bif c then x else x') = Sp.B_25_1 (bif c then y else y') k0 := by cases c; exact h'; exact h
theorem Bin_25_1_25_2 {R : Type} {r : Option Sp.E_25_2} {k0 : (Int) → (Int) → (List Int) → (List (List (List Int))) → Option R} {f0 : (Int) → (Int) → (List (List Int)) → (Int) → (Int) → (List Int) → (List (List (List Int))) → Option R} {g0 : (Int) → (Int) → (List (List Int)) → (Int) → (Int) → (List Int) → (List (List (List Int))) → Option Sp.E_25_1} (h0 : ∀ z0 z1 z2 z3 z4 z5 z6, f0 z0 z1 z2 z3 z4 z5 z6 = Sp.B_25_1 (g0 z0 z1 z2 z3 z4 z5 z6) k0) : Sp.B_25_2 r f0 = Sp.B_25_1 (Sp.B_25_2 r g0) k0 := by
  cases r with
  | none => rfl
  | some e => cases e with
    | e0 z0 z1 z2 z3 z4 z5 z6 => exact h0 _ _ _ _ _ _ _
theorem loop_25_1 {R : Type} (k : Ex → St → Option R) : ∀ (m : Nat) (p0 : Int) (p1 : Int) (p2 : List (List Int)) (p3 : Int) (p4 : Int) (p5 : List Int) (p6 : List (List (List Int))), evLoopN (evCodeL sm_25 FU (ovr noO (evFn sm_25 fns FU 0)) (ir25_bt1 O_25_25_2) ir25_b1) (St.norm ir25_v1) m (T_25_1 p0 p1 p2 p3 p4 p5 p6) k = Sp.B_25_1 (Sp.L_25_1 m p0 p1 p2 p3 p4 p5 p6) (fun p0 p1 p5 p6 => k (Ex.exit (2 : Nat)) (X_25_1_0 p0 p1 p5 p6))
  | 0, _, _, _, _, _, _, _ => rfl
  | m + 1, p0, p1, p2, p3, p4, p5, p6 => by
    rw [evLoopN_succ, body_25_1, Sp.L_25_1]
    repeat' first | apply Bgd_25_1 | apply Bcond_25_1 | (apply Bin_25_1_25_2 <;> intros) | exact loop_25_1 k m _ _ _ _ _ _ _ | rfl
theorem ok_25_1 {R : Type} (T : St) (k : Ex → St → Option R) (r : R) (h0 : o_25_1 G_25_1 T k = some r) : evLoopN (evCode sm_25 FU (evFn sm_25 fns FU 0) ir25_b1) (St.norm ir25_v1) FU T k = some r := by
  obtain ⟨p0, p1, p2, p3, p4, p5, p6, rfl, h⟩ := o_25_1_inv h0
  refine evLoopN_L (t := (ir25_bt1 O_25_25_2)) noO_ok (ir25_bt1ok (fun T k r => OK_25_25_2 T k r)) _ _ _ _ ?_
  rw [loop_25_1]
  exact h
theorem OK_25_25_1 {R : Type} (T : St) (k : Ex → St → Option R) (r : R) (h : O_25_25_1 T k = some r) : evLoopN (evCode sm_25 FU (evFn sm_25 fns FU 0) ir25_b1) (St.norm ir25_v1) FU T k = some r := ok_25_1 T k r h
theorem body_25_0 {R : Type} (K0 : St → Option R) (K1 : Ex → St → Option R) (p0 : Int) (p1 : Int) (p2 : List Int) (p3 : List (List (List Int))) : evLB (evCodeL sm_25 FU (ovr noO (evFn sm_25 fns FU 0)) (ir25_bt0 O_25_25_1) ir25_b0) (St.norm ir25_v0) (T_25_0 p0 p1 p2 p3) K0 K1 =
  bif decide (p1 < p0) then gd (inB p1 (List.length p3)) (gd (decide (Int.toNat p1 < List.length p3) && true) (Sp.B_25_1 (Sp.L_25_1 (4611686018427387904 : Nat) p0 p1 (List.getD p3 (Int.toNat p1) (Ty.dflt (Ty.slice (Ty.arr (32 : Nat) (Ty.int IntKind.u8))))) (↑(List.length (List.getD p3 (Int.toNat p1) (Ty.dflt (Ty.slice (Ty.arr (32 : Nat) (Ty.int IntKind.u8)))))) : Int) (0 : Int) p2 p3) fun (y4 y5 : Int) (y6 : List Int) (y7 : List (List (List Int))) => K0 (T_25_0 y4 (IntKind.wrap IntKind.i64 (y5 + (1 : Int))) y6 y7))) else K1 (Ex.exit (0 : Nat)) (X_25_0_0 p2) := by kernel_rfl
theorem Bgd_25_0 {R : Type} {c : Bool} {x : Option R} {y : Option Sp.E_25_0} {k0 : (List Int) → Option R} (h : x = Sp.B_25_0 y k0) : gd c x = Sp.B_25_0 (gd c y) k0 := by cases c; rfl; exact h
theorem Bcond_25_0 {R : Type} {c : Bool} {x x' : Option R} {y y' : Option Sp.E_25_0} {k0 : (List Int) → Option R} (h : x = Sp.B_25_0 y k0) (h' : x' = Sp.B_25_0 y' k0) : (bif c then x else x') = Sp.B_25_0 (bif c then y else y') k0 := by cases c; exact h'; exact h
theorem Bin_25_0_25_1 {R : Type} {r : Option Sp.E_25_1} {k0 : (List Int) → Option R} {f0 : (Int) → (Int) → (List Int) → (List (List (List Int))) → Option R} {g0 : (Int) → (Int) → (List Int) → (List (List (List Int))) → Option Sp.E_25_0} (h0 : ∀ z0 z1 z2 z3, f0 z0 z1 z2 z3 = Sp.B_25_0 (g0 z0 z1 z2 z3) k0) : Sp.B_25_1 r f0 = Sp.B_25_0 (Sp.B_25_1 r g0) k0 := by
  cases r with
  | none => rfl
  | some e => cases e with
    | e0 z0 z1 z2 z3 => exact h0 _ _ _ _
theorem loop_25_0 {R : Type} (k : Ex → St → Option R) : ∀ (m : Nat) (p0 : Int) (p1 : Int) (p2 : List Int) (p3 : List (List (List Int))), evLoopN (evCodeL sm_25 FU (ovr noO (evFn sm_25 fns FU 0)) (ir25_bt0 O_25_25_1) ir25_b0) (St.norm ir25_v0) m (T_25_0 p0 p1 p2 p3) k = Sp.B_25_0 (Sp.L_25_0 m p0 p1 p2 p3) (fun p2 => k (Ex.exit (0 : Nat)) (X_25_0_0 p2))
  | 0, _, _, _, _ => rfl
  | m + 1, p0, p1, p2, p3 => by
    rw [evLoopN_succ, body_25_0, Sp.L_25_0]
    repeat' first | apply Bgd_25_0 | apply Bcond_25_0 | (apply Bin_25_0_25_1 <;> intros) | exact loop_25_0 k m _ _ _ _ | rfl
theorem ok_25_0 {R : Type} (T : St) (k : Ex → St → Option R) (r : R) (h0 : o_25_0 G_25_0 T k = some r) : evLoopN (evCode sm_25 FU (evFn sm_25 fns FU 0) ir25_b0) (St.norm ir25_v0) FU T k = some r := by
  obtain ⟨p0, p1, p2, p3, rfl, h⟩ := o_25_0_inv h0
  refine evLoopN_L (t := (ir25_bt0 O_25_25_1)) noO_ok (ir25_bt0ok (fun T k r => OK_25_25_1 T k r)) _ _ _ _ ?_
  rw [loop_25_0]
  exact h
theorem OK_25_25_0 {R : Type} (T : St) (k : Ex → St → Option R) (r : R) (h : O_25_25_0 T k = some r) : evLoopN (evCode sm_25 FU (evFn sm_25 fns FU 0) ir25_b0) (St.norm ir25_v0) FU T k = some r := ok_25_0 T k r h
def F_25 (a0 : (Int × ((List (List Int)) × ((List (List Int)) × Unit)))) : Option ((List Int) × Int × Unit) :=
  gd (Sp.p_38 a0) (bif !Prod.fst (Sp.v_38 a0) then some ([], (1 : Int), PUnit.unit) else Sp.B_25_0 (Sp.L_25_0 (4611686018427387904 : Nat) (↑(2 : Nat) : Int) (0 : Int) [IntKind.wrap IntKind.u32 (Prod.fst a0)] [Prod.fst (Prod.snd a0), Prod.fst (Prod.snd (Prod.snd a0))]) fun (y1 : List Int) => some (y1, (0 : Int), PUnit.unit))
theorem fn_25 (a0 : (Int × ((List (List Int)) × ((List (List Int)) × Unit)))) : evFnL sm_25 FU (ovr noO (evFn sm_25 fns FU 0)) (ir25_t O_25_25_0) ir25 (ofH [(.pair (.int .i64) (.pair (.slice (.arr 32 (.int .u8))) (.pair (.slice (.arr 32 (.int .u8))) .unit)))] (a0, ())) [] (pureK [(.slice (.int .u32)), (.int .i64)]) = F_25 a0 := by kernel_rfl
def Sp.p_25 (a0 : (Int × ((List (List Int)) × ((List (List Int)) × Unit)))) : Bool := (F_25 a0).isSome
def Sp.v_25 (a0 : (Int × ((List (List Int)) × ((List (List Int)) × Unit)))) : (List Int) × Int × Unit := (F_25 a0).getD (dfH [(.slice (.int .u32)), (.int .i64)])
def s_25 : Summ := shS [(.pair (.int .i64) (.pair (.slice (.arr 32 (.int .u8))) (.pair (.slice (.arr 32 (.int .u8))) .unit)))] [(.slice (.int .u32)), (.int .i64)] (fun x => Sp.p_25 x.1) (fun x => Sp.v_25 x.1)
theorem pv_25 (a0 : (Int × ((List (List Int)) × ((List (List Int)) × Unit)))) {y : (List Int) × Int × Unit} (h : F_25 a0 = some y) : Sp.p_25 a0 = true ∧ Sp.v_25 a0 = y := ⟨by rw [Sp.p_25, h]; rfl, by rw [Sp.v_25, h]; rfl⟩
theorem run_25 (x : HDen [(.pair (.int .i64) (.pair (.slice (.arr 32 (.int .u8))) (.pair (.slice (.arr 32 (.int .u8))) .unit)))]) (y : HDen [(.slice (.int .u32)), (.int .i64)]) (h : F_25 x.1 = some y) : evFn sm_25 fns FU 1 25 (ofH [(.pair (.int .i64) (.pair (.slice (.arr 32 (.int .u8))) (.pair (.slice (.arr 32 (.int .u8))) .unit)))] x) [] (pureK [(.slice (.int .u32)), (.int .i64)]) = some y :=
  evFnL_sound (fn := ir25) (t := (ir25_t O_25_25_0)) (o := noO) rfl noO_ok (ir25_tok (fun T k r => OK_25_25_0 T k r)) ((fn_25 _).trans h)
end
end Go.Ev
namespace Go.Ev
open Go
set_option maxRecDepth 100000
set_option maxHeartbeats 4000000
set_option linter.unusedVariables false
noncomputable section

def sm_26 : Nat → Option Summ := fun f => none


def F_26 (a0 : (Int × ((List (List Int)) × ((List (List Int)) × Unit)))) : Option (Bool × Unit) :=
  bif decide (Prod.fst a0 ≥ (0 : Int)) then bif decide (Prod.fst a0 ≤ (3 : Int)) then bif (↑(List.length (Prod.fst (Prod.snd a0))) : Int) == (67 : Int) then some ((↑(List.length (Prod.fst (Prod.snd (Prod.snd a0)))) : Int) == (2 : Int), PUnit.unit) else some (false, PUnit.unit) else some (false, PUnit.unit) else some (false, PUnit.unit)
theorem fn_26 (a0 : (Int × ((List (List Int)) × ((List (List Int)) × Unit)))) : evFnL sm_26 FU (ovr noO (evFn sm_26 fns FU 0)) .nil ir26 (ofH [(.pair (.int .i64) (.pair (.slice (.arr 32 (.int .u8))) (.pair (.slice (.arr 32 (.int .u8))) .unit)))] (a0, ())) [] (pureK [.bool]) = F_26 a0 := by kernel_rfl
def Sp.p_26 (a0 : (Int × ((List (List Int)) × ((List (List Int)) × Unit)))) : Bool := (F_26 a0).isSome
def Sp.v_26 (a0 : (Int × ((List (List Int)) × ((List (List Int)) × Unit)))) : Bool × Unit := (F_26 a0).getD (dfH [.bool])
def s_26 : Summ := shN [(.pair (.int .i64) (.pair (.slice (.arr 32 (.int .u8))) (.pair (.slice (.arr 32 (.int .u8))) .unit)))] [.bool] (fun x => Sp.p_26 x.1) (fun x => Sp.v_26 x.1)
theorem pv_26 (a0 : (Int × ((List (List Int)) × ((List (List Int)) × Unit)))) {y : Bool × Unit} (h : F_26 a0 = some y) : Sp.p_26 a0 = true ∧ Sp.v_26 a0 = y := ⟨by rw [Sp.p_26, h]; rfl, by rw [Sp.v_26, h]; rfl⟩
theorem run_26 (x : HDen [(.pair (.int .i64) (.pair (.slice (.arr 32 (.int .u8))) (.pair (.slice (.arr 32 (.int .u8))) .unit)))]) (y : HDen [.bool]) (h : F_26 x.1 = some y) : evFn sm_26 fns FU 1 26 (ofH [(.pair (.int .i64) (.pair (.slice (.arr 32 (.int .u8))) (.pair (.slice (.arr 32 (.int .u8))) .unit)))] x) [] (pureK [.bool]) = some y :=
  evFnL_sound (fn := ir26) (t := .nil) (o := noO) rfl noO_ok trivial ((fn_26 _).trans h)
end
end Go.Ev
namespace Go.Ev
open Go
set_option maxRecDepth 100000
set_option maxHeartbeats 4000000
set_option linter.unusedVariables false
noncomputable section

def sm_27 : Nat → Option Summ := fun f => none
def T_27_1 (p0 : List Int) (p1 : Int) (p2 : Int) (p3 : Int) (p4 : Int) (p5 : List (List Int)) (p6 : List (List Int)) (p7 : Int) (p8 : List (List Int)) (p9 : List (List Int)) (p10 : List Int) : St := St.mk [CV.pure (Ty.slice (Ty.int IntKind.u32)) p0, jk, CV.ptr (0 : Nat) [], jk, CV.ptr (3 : Nat) [], CV.int IntKind.i64 p1, CV.ptr (6 : Nat) [], jk, jk, jk, jk, jk, jk, jk, jk, jk, jk, jk, jk, jk, jk, jk, jk, CV.int IntKind.i64 p2, jk, jk, CV.int IntKind.i64 p3, jk, jk, jk, jk, jk, jk, jk, jk, jk, jk, jk, jk, jk, jk, jk, jk, jk, jk, jk, jk, jk, jk, jk, jk, jk, jk, jk, jk, jk, jk, jk] [Blk.mem (CV.pair (CV.int IntKind.i64 p4) (CV.pair (CV.whole (1 : Nat)) (CV.pair (CV.whole (2 : Nat)) (CV.pure Ty.unit PUnit.unit)))), Blk.vec (25 : Nat) (Ty.arr (32 : Nat) (Ty.int IntKind.u8)) p5, Blk.vec (25 : Nat) (Ty.arr (32 : Nat) (Ty.int IntKind.u8)) p6, Blk.mem (CV.pair (CV.int IntKind.i64 p7) (CV.pair (CV.whole (4 : Nat)) (CV.pair (CV.whole (5 : Nat)) (CV.pure Ty.unit PUnit.unit)))), Blk.vec (25 : Nat) (Ty.arr (32 : Nat) (Ty.int IntKind.u8)) p8, Blk.vec (25 : Nat) (Ty.arr (32 : Nat) (Ty.int IntKind.u8)) p9, Blk.mem (CV.pure (Ty.arr (32 : Nat) (Ty.int IntKind.u8)) p10)] (0 : Nat)
def X_27_1_0 (p0 : List Int) (p1 : Int) (p2 : Int) (p4 : Int) (p5 : List (List Int)) (p6 : List (List Int)) (p7 : Int) (p8 : List (List Int)) (p9 : List (List Int)) (p10 : List Int) : St := St.mk [CV.pure (Ty.slice (Ty.int IntKind.u32)) p0, jk, CV.ptr (0 : Nat) [], jk, CV.ptr (3 : Nat) [], CV.int IntKind.i64 p1, CV.ptr (6 : Nat) [], jk, jk, jk, jk, jk, jk, jk, jk, jk, jk, jk, jk, jk, jk, jk, jk, CV.int IntKind.i64 p2, jk, jk, jk, jk, jk, jk, jk, jk, jk, jk, jk, jk, jk, jk, jk, jk, jk, jk, jk, jk, jk, jk, jk, jk, jk, jk, jk, jk, jk, jk, jk, jk, jk, jk] [Blk.mem (CV.pair (CV.int IntKind.i64 p4) (CV.pair (CV.whole (1 : Nat)) (CV.pair (CV.whole (2 : Nat)) (CV.pure Ty.unit PUnit.unit)))), Blk.vec (25 : Nat) (Ty.arr (32 : Nat) (Ty.int IntKind.u8)) p5, Blk.vec (25 : Nat) (Ty.arr (32 : Nat) (Ty.int IntKind.u8)) p6, Blk.mem (CV.pair (CV.int IntKind.i64 p7) (CV.pair (CV.whole (4 : Nat)) (CV.pair (CV.whole (5 : Nat)) (CV.pure Ty.unit PUnit.unit)))), Blk.vec (25 : Nat) (Ty.arr (32 : Nat) (Ty.int IntKind.u8)) p8, Blk.vec (25 : Nat) (Ty.arr (32 : Nat) (Ty.int IntKind.u8)) p9, Blk.mem (CV.pure (Ty.arr (32 : Nat) (Ty.int IntKind.u8)) p10)] (0 : Nat)
inductive Sp.E_27_1 where
  | e0 (p0 : List Int) (p1 : Int) (p2 : Int) (p4 : Int) (p5 : List (List Int)) (p6 : List (List Int)) (p7 : Int) (p8 : List (List Int)) (p9 : List (List Int)) (p10 : List Int)
def Sp.B_27_1 {R : Type} (r : Option Sp.E_27_1) (k0 : (List Int) → (Int) → (Int) → (Int) → (List (List Int)) → (List (List Int)) → (Int) → (List (List Int)) → (List (List Int)) → (List Int) → Option R) : Option R := match r with
  | none => none
  | some (.e0 p0 p1 p2 p4 p5 p6 p7 p8 p9 p10) => k0 p0 p1 p2 p4 p5 p6 p7 p8 p9 p10
def Sp.L_27_1 : Nat → (List Int) → (Int) → (Int) → (Int) → (Int) → (List (List Int)) → (List (List Int)) → (Int) → (List (List Int)) → (List (List Int)) → (List Int) → Option Sp.E_27_1
  | 0, _, _, _, _, _, _, _, _, _, _, _ => none
  | m + 1, p0, p1, p2, p3, p4, p5, p6, p7, p8, p9, p10 => bif decide (p3 < (8 : Int)) then gd (sl3 (IntKind.wrap IntKind.i64 ((4 : Int) * p3)) (32 : Int) (32 : Int)) (gd (inB (IntKind.wrap IntKind.i64 (IntKind.wrap IntKind.i64 ((1 : Int) + IntKind.wrap IntKind.i64 ((8 : Int) * p1)) + p3)) (List.length p0)) (gd (inB (0 : Int) ((32 : Nat) - Int.toNat (IntKind.wrap IntKind.i64 ((4 : Int) * p3)))) (gd (decide (Int.toNat (IntKind.wrap IntKind.i64 ((4 : Int) * p3)) + (0 : Nat) < (32 : Nat)) && true) (gd (inB (1 : Int) ((32 : Nat) - Int.toNat (IntKind.wrap IntKind.i64 ((4 : Int) * p3)))) (gd (decide (Int.toNat (IntKind.wrap IntKind.i64 ((4 : Int) * p3)) + (1 : Nat) < (32 : Nat)) && true) (gd (inB (2 : Int) ((32 : Nat) - Int.toNat (IntKind.wrap IntKind.i64 ((4 : Int) * p3)))) (gd (decide (Int.toNat (IntKind.wrap IntKind.i64 ((4 : Int) * p3)) + (2 : Nat) < (32 : Nat)) && true) (gd (inB (3 : Int) ((32 : Nat) - Int.toNat (IntKind.wrap IntKind.i64 ((4 : Int) * p3)))) (gd (decide (Int.toNat (IntKind.wrap IntKind.i64 ((4 : Int) * p3)) + (3 : Nat) < (32 : Nat)) && true) (Sp.L_27_1 m p0 p1 p2 (IntKind.wrap IntKind.i64 (p3 + (1 : Int))) p4 p5 p6 p7 p8 p9 (List.set (List.set (List.set (List.set p10 (Int.toNat (IntKind.wrap IntKind.i64 ((4 : Int) * p3)) + (0 : Nat)) (IntKind.wrap IntKind.u8 (Int.fdiv (List.getD p0 (Int.toNat (IntKind.wrap IntKind.i64 (IntKind.wrap IntKind.i64 ((1 : Int) + IntKind.wrap IntKind.i64 ((8 : Int) * p1)) + p3))) (0 : Int)) (16777216 : Int)))) (Int.toNat (IntKind.wrap IntKind.i64 ((4 : Int) * p3)) + (1 : Nat)) (IntKind.wrap IntKind.u8 (Int.fdiv (List.getD p0 (Int.toNat (IntKind.wrap IntKind.i64 (IntKind.wrap IntKind.i64 ((1 : Int) + IntKind.wrap IntKind.i64 ((8 : Int) * p1)) + p3))) (0 : Int)) (65536 : Int)))) (Int.toNat (IntKind.wrap IntKind.i64 ((4 : Int) * p3)) + (2 : Nat)) (IntKind.wrap IntKind.u8 (Int.fdiv (List.getD p0 (Int.toNat (IntKind.wrap IntKind.i64 (IntKind.wrap IntKind.i64 ((1 : Int) + IntKind.wrap IntKind.i64 ((8 : Int) * p1)) + p3))) (0 : Int)) (256 : Int)))) (Int.toNat (IntKind.wrap IntKind.i64 ((4 : Int) * p3)) + (3 : Nat)) (IntKind.wrap IntKind.u8 (List.getD p0 (Int.toNat (IntKind.wrap IntKind.i64 (IntKind.wrap IntKind.i64 ((1 : Int) + IntKind.wrap IntKind.i64 ((8 : Int) * p1)) + p3))) (0 : Int)))))))))))))) else some (Sp.E_27_1.e0 p0 p1 p2 p4 p5 p6 p7 p8 p9 p10)
def G_27_1 {R : Type} (p0 : List Int) (p1 : Int) (p2 : Int) (p3 : Int) (p4 : Int) (p5 : List (List Int)) (p6 : List (List Int)) (p7 : Int) (p8 : List (List Int)) (p9 : List (List Int)) (p10 : List Int) (k : Ex → St → Option R) : Option R := Sp.B_27_1 (Sp.L_27_1 FU p0 p1 p2 p3 p4 p5 p6 p7 p8 p9 p10) (fun p0 p1 p2 p4 p5 p6 p7 p8 p9 p10 => k (Ex.exit (2 : Nat)) (X_27_1_0 p0 p1 p2 p4 p5 p6 p7 p8 p9 p10))
def o_27_1 {R : Type} (G : (List Int) → (Int) → (Int) → (Int) → (Int) → (List (List Int)) → (List (List Int)) → (Int) → (List (List Int)) → (List (List Int)) → (List Int) → (Ex → St → Option R) → Option R) : St → (Ex → St → Option R) → Option R := fun T k => match T.sl.getD 0 .junk, T.sl.getD 2 .junk, T.sl.getD 4 .junk, T.sl.getD 5 .junk, T.sl.getD 6 .junk, T.sl.getD 23 .junk, T.sl.getD 26 .junk, T.hp with
  | CV.pure (Ty.slice (Ty.int IntKind.u32)) p0, CV.ptr (0 : Nat) [], CV.ptr (3 : Nat) [], CV.int IntKind.i64 p1, CV.ptr (6 : Nat) [], CV.int IntKind.i64 p2, CV.int IntKind.i64 p3, ((Blk.mem (CV.pair (CV.int IntKind.i64 p4) (CV.pair (CV.whole (1 : Nat)) (CV.pair (CV.whole (2 : Nat)) (CV.pure Ty.unit PUnit.unit))))) :: (Blk.vec (25 : Nat) (Ty.arr (32 : Nat) (Ty.int IntKind.u8)) p5) :: (Blk.vec (25 : Nat) (Ty.arr (32 : Nat) (Ty.int IntKind.u8)) p6) :: (Blk.mem (CV.pair (CV.int IntKind.i64 p7) (CV.pair (CV.whole (4 : Nat)) (CV.pair (CV.whole (5 : Nat)) (CV.pure Ty.unit PUnit.unit))))) :: (Blk.vec (25 : Nat) (Ty.arr (32 : Nat) (Ty.int IntKind.u8)) p8) :: (Blk.vec (25 : Nat) (Ty.arr (32 : Nat) (Ty.int IntKind.u8)) p9) :: (Blk.mem (CV.pure (Ty.arr (32 : Nat) (Ty.int IntKind.u8)) p10)) :: []) => gd (shapeOK T 58 [0, 2, 4, 5, 6, 23, 26] (0 : Nat)) (G p0 p1 p2 p3 p4 p5 p6 p7 p8 p9 p10 k)
  | _, _, _, _, _, _, _, _ => none
theorem o_27_1_inv {R : Type} {G : (List Int) → (Int) → (Int) → (Int) → (Int) → (List (List Int)) → (List (List Int)) → (Int) → (List (List Int)) → (List (List Int)) → (List Int) → (Ex → St → Option R) → Option R} {T : St} {k : Ex → St → Option R} {r : R} (h : o_27_1 G T k = some r) : ∃ p0 p1 p2 p3 p4 p5 p6 p7 p8 p9 p10, T = T_27_1 p0 p1 p2 p3 p4 p5 p6 p7 p8 p9 p10 ∧ G p0 p1 p2 p3 p4 p5 p6 p7 p8 p9 p10 k = some r := by
  unfold o_27_1 at h
  split at h
  · obtain ⟨hs, h'⟩ := gd_some h
    refine ⟨_, _, _, _, _, _, _, _, _, _, _, (st_of (asg := [(0, _), (2, _), (4, _), (5, _), (6, _), (23, _), (26, _)]) hs ⟨by assumption, by assumption, by assumption, by assumption, by assumption, by assumption, by assumption, trivial⟩ (by assumption)).trans ?_, h'⟩
    kernel_rfl
  · cases h
def T_27_0 (p0 : List Int) (p1 : Int) (p2 : Int) (p3 : List (List Int)) (p4 : List (List Int)) (p5 : Int) (p6 : List (List Int)) (p7 : List (List Int)) : St := St.mk [CV.pure (Ty.slice (Ty.int IntKind.u32)) p0, jk, CV.ptr (0 : Nat) [], jk, CV.ptr (3 : Nat) [], jk, jk, jk, jk, jk, jk, jk, jk, jk, jk, jk, jk, jk, jk, jk, jk, jk, jk, CV.int IntKind.i64 p1, jk, jk, jk, jk, jk, jk, jk, jk, jk, jk, jk, jk, jk, jk, jk, jk, jk, jk, jk, jk, jk, jk, jk, jk, jk, jk, jk, jk, jk, jk, jk, jk, jk, jk] [Blk.mem (CV.pair (CV.int IntKind.i64 p2) (CV.pair (CV.whole (1 : Nat)) (CV.pair (CV.whole (2 : Nat)) (CV.pure Ty.unit PUnit.unit)))), Blk.vec (25 : Nat) (Ty.arr (32 : Nat) (Ty.int IntKind.u8)) p3, Blk.vec (25 : Nat) (Ty.arr (32 : Nat) (Ty.int IntKind.u8)) p4, Blk.mem (CV.pair (CV.int IntKind.i64 p5) (CV.pair (CV.whole (4 : Nat)) (CV.pair (CV.whole (5 : Nat)) (CV.pure Ty.unit PUnit.unit)))), Blk.vec (25 : Nat) (Ty.arr (32 : Nat) (Ty.int IntKind.u8)) p6, Blk.vec (25 : Nat) (Ty.arr (32 : Nat) (Ty.int IntKind.u8)) p7] (0 : Nat)
def X_27_0_0 (p2 : Int) (p3 : List (List Int)) (p4 : List (List Int)) (p5 : Int) (p6 : List (List Int)) (p7 : List (List Int)) : St := St.mk [jk, jk, CV.ptr (0 : Nat) [], jk, CV.ptr (3 : Nat) [], jk, jk, jk, jk, jk, jk, jk, jk, jk, jk, jk, jk, jk, jk, jk, jk, jk, jk, jk, jk, jk, jk, jk, jk, jk, jk, jk, jk, jk, jk, jk, jk, jk, jk, jk, jk, jk, jk, jk, jk, jk, jk, jk, jk, jk, jk, jk, jk, jk, jk, jk, jk, jk] [Blk.mem (CV.pair (CV.int IntKind.i64 p2) (CV.pair (CV.whole (1 : Nat)) (CV.pair (CV.whole (2 : Nat)) (CV.pure Ty.unit PUnit.unit)))), Blk.vec (25 : Nat) (Ty.arr (32 : Nat) (Ty.int IntKind.u8)) p3, Blk.vec (25 : Nat) (Ty.arr (32 : Nat) (Ty.int IntKind.u8)) p4, Blk.mem (CV.pair (CV.int IntKind.i64 p5) (CV.pair (CV.whole (4 : Nat)) (CV.pair (CV.whole (5 : Nat)) (CV.pure Ty.unit PUnit.unit)))), Blk.vec (25 : Nat) (Ty.arr (32 : Nat) (Ty.int IntKind.u8)) p6, Blk.vec (25 : Nat) (Ty.arr (32 : Nat) (Ty.int IntKind.u8)) p7] (0 : Nat)
inductive Sp.E_27_0 where
  | e0 (p2 : Int) (p3 : List (List Int)) (p4 : List (List Int)) (p5 : Int) (p6 : List (List Int)) (p7 : List (List Int))
def Sp.B_27_0 {R : Type} (r : Option Sp.E_27_0) (k0 : (Int) → (List (List Int)) → (List (List Int)) → (Int) → (List (List Int)) → (List (List Int)) → Option R) : Option R := match r with
  | none => none
  | some (.e0 p2 p3 p4 p5 p6 p7) => k0 p2 p3 p4 p5 p6 p7
def Sp.L_27_0 : Nat → (List Int) → (Int) → (Int) → (List (List Int)) → (List (List Int)) → (Int) → (List (List Int)) → (List (List Int)) → Option Sp.E_27_0
  | 0, _, _, _, _, _, _, _, _ => none
  | m + 1, p0, p1, p2, p3, p4, p5, p6, p7 => bif decide (p1 < (69 : Int)) then Sp.B_27_1 (Sp.L_27_1 (4611686018427387904 : Nat) p0 p1 p1 (0 : Int) p2 p3 p4 p5 p6 p7 (List.replicate (32 : Nat) (0 : Int))) fun (y10 : List Int) (y11 y12 y13 : Int) (y14 y15 : List (List Int)) (y16 : Int) (y17 y18 : List (List Int)) (y19 : List Int) => bif decide (y11 < (67 : Int)) then gd (room (List.length y17 + (1 : Nat)) (32 : Nat)) (Sp.L_27_0 m y10 (IntKind.wrap IntKind.i64 (y12 + (1 : Int))) y13 y14 y15 y16 (y17 ++ [y19]) y18) else gd (room (List.length y18 + (1 : Nat)) (32 : Nat)) (Sp.L_27_0 m y10 (IntKind.wrap IntKind.i64 (y12 + (1 : Int))) y13 y14 y15 y16 y17 (y18 ++ [y19])) else some (Sp.E_27_0.e0 p2 p3 p4 p5 p6 p7)
def G_27_0 {R : Type} (p0 : List Int) (p1 : Int) (p2 : Int) (p3 : List (List Int)) (p4 : List (List Int)) (p5 : Int) (p6 : List (List Int)) (p7 : List (List Int)) (k : Ex → St → Option R) : Option R := Sp.B_27_0 (Sp.L_27_0 FU p0 p1 p2 p3 p4 p5 p6 p7) (fun p2 p3 p4 p5 p6 p7 => k (Ex.exit (0 : Nat)) (X_27_0_0 p2 p3 p4 p5 p6 p7))
def o_27_0 {R : Type} (G : (List Int) → (Int) → (Int) → (List (List Int)) → (List (List Int)) → (Int) → (List (List Int)) → (List (List Int)) → (Ex → St → Option R) → Option R) : St → (Ex → St → Option R) → Option R := fun T k => match T.sl.getD 0 .junk, T.sl.getD 2 .junk, T.sl.getD 4 .junk, T.sl.getD 23 .junk, T.hp with
  | CV.pure (Ty.slice (Ty.int IntKind.u32)) p0, CV.ptr (0 : Nat) [], CV.ptr (3 : Nat) [], CV.int IntKind.i64 p1, ((Blk.mem (CV.pair (CV.int IntKind.i64 p2) (CV.pair (CV.whole (1 : Nat)) (CV.pair (CV.whole (2 : Nat)) (CV.pure Ty.unit PUnit.unit))))) :: (Blk.vec (25 : Nat) (Ty.arr (32 : Nat) (Ty.int IntKind.u8)) p3) :: (Blk.vec (25 : Nat) (Ty.arr (32 : Nat) (Ty.int IntKind.u8)) p4) :: (Blk.mem (CV.pair (CV.int IntKind.i64 p5) (CV.pair (CV.whole (4 : Nat)) (CV.pair (CV.whole (5 : Nat)) (CV.pure Ty.unit PUnit.unit))))) :: (Blk.vec (25 : Nat) (Ty.arr (32 : Nat) (Ty.int IntKind.u8)) p6) :: (Blk.vec (25 : Nat) (Ty.arr (32 : Nat) (Ty.int IntKind.u8)) p7) :: []) => gd (shapeOK T 58 [0, 2, 4, 23] (0 : Nat)) (G p0 p1 p2 p3 p4 p5 p6 p7 k)
  | _, _, _, _, _ => none
theorem o_27_0_inv {R : Type} {G : (List Int) → (Int) → (Int) → (List (List Int)) → (List (List Int)) → (Int) → (List (List Int)) → (List (List Int)) → (Ex → St → Option R) → Option R} {T : St} {k : Ex → St → Option R} {r : R} (h : o_27_0 G T k = some r) : ∃ p0 p1 p2 p3 p4 p5 p6 p7, T = T_27_0 p0 p1 p2 p3 p4 p5 p6 p7 ∧ G p0 p1 p2 p3 p4 p5 p6 p7 k = some r := by
  unfold o_27_0 at h
  split at h
  · obtain ⟨hs, h'⟩ := gd_some h
    refine ⟨_, _, _, _, _, _, _, _, (st_of (asg := [(0, _), (2, _), (4, _), (23, _)]) hs ⟨by assumption, by assumption, by assumption, by assumption, trivial⟩ (by assumption)).trans ?_, h'⟩
    kernel_rfl
  · cases h
def O_27_27_1 {R : Type} : St → (Ex → St → Option R) → Option R := fun T k => o_27_1 G_27_1 T k
def O_27_27_0 {R : Type} : St → (Ex → St → Option R) → Option R := fun T k => o_27_0 G_27_0 T k
theorem body_27_1 {R : Type} (K0 : St → Option R) (K1 : Ex → St → Option R) (p0 : List Int) (p1 : Int) (p2 : Int) (p3 : Int) (p4 : Int) (p5 : List (List Int)) (p6 : List (List Int)) (p7 : Int) (p8 : List (List Int)) (p9 : List (List Int)) (p10 : List Int) : evLB (evCodeL sm_27 FU (ovr noO (evFn sm_27 fns FU 1)) .nil ir27_b1) (St.norm ir27_v1) (T_27_1 p0 p1 p2 p3 p4 p5 p6 p7 p8 p9 p10) K0 K1 =
  bif decide (p3 < (8 : Int)) then gd (sl3 (IntKind.wrap IntKind.i64 ((4 : Int) * p3)) (32 : Int) (32 : Int)) (gd (inB (IntKind.wrap IntKind.i64 (IntKind.wrap IntKind.i64 ((1 : Int) + IntKind.wrap IntKind.i64 ((8 : Int) * p1)) + p3)) (List.length p0)) (gd (inB (0 : Int) ((32 : Nat) - Int.toNat (IntKind.wrap IntKind.i64 ((4 : Int) * p3)))) (gd (decide (Int.toNat (IntKind.wrap IntKind.i64 ((4 : Int) * p3)) + (0 : Nat) < (32 : Nat)) && true) (gd (inB (1 : Int) ((32 : Nat) - Int.toNat (IntKind.wrap IntKind.i64 ((4 : Int) * p3)))) (gd (decide (Int.toNat (IntKind.wrap IntKind.i64 ((4 : Int) * p3)) + (1 : Nat) < (32 : Nat)) && true) (gd (inB (2 : Int) ((32 : Nat) - Int.toNat (IntKind.wrap IntKind.i64 ((4 : Int) * p3)))) (gd (decide (Int.toNat (IntKind.wrap IntKind.i64 ((4 : Int) * p3)) + (2 : Nat) < (32 : Nat)) && true) (gd (inB (3 : Int) ((32 : Nat) - Int.toNat (IntKind.wrap IntKind.i64 ((4 : Int) * p3)))) (gd (decide (Int.toNat (IntKind.wrap IntKind.i64 ((4 : Int) * p3)) + (3 : Nat) < (32 : Nat)) && true) (K0 (T_27_1 p0 p1 p2 (IntKind.wrap IntKind.i64 (p3 + (1 : Int))) p4 p5 p6 p7 p8 p9 (List.set (List.set (List.set (List.set p10 (Int.toNat (IntKind.wrap IntKind.i64 ((4 : Int) * p3)) + (0 : Nat)) (IntKind.wrap IntKind.u8 (Int.fdiv (List.getD p0 (Int.toNat (IntKind.wrap IntKind.i64 (IntKind.wrap IntKind.i64 ((1 : Int) + IntKind.wrap IntKind.i64 ((8 : Int) * p1)) + p3))) (0 : Int)) (16777216 : Int)))) (Int.toNat (IntKind.wrap IntKind.i64 ((4 : Int) * p3)) + (1 : Nat)) (IntKind.wrap IntKind.u8 (Int.fdiv (List.getD p0 (Int.toNat (IntKind.wrap IntKind.i64 (IntKind.wrap IntKind.i64 ((1 : Int) + IntKind.wrap IntKind.i64 ((8 : Int) * p1)) + p3))) (0 : Int)) (65536 : Int)))) (Int.toNat (IntKind.wrap IntKind.i64 ((4 : Int) * p3)) + (2 : Nat)) (IntKind.wrap IntKind.u8 (Int.fdiv (List.getD p0 (Int.toNat (IntKind.wrap IntKind.i64 (IntKind.wrap IntKind.i64 ((1 : Int) + IntKind.wrap IntKind.i64 ((8 : Int) * p1)) + p3))) (0 : Int)) (256 : Int)))) (Int.toNat (IntKind.wrap IntKind.i64 ((4 : Int) * p3)) + (3 : Nat)) (IntKind.wrap IntKind.u8 (List.getD p0 (Int.toNat (IntKind.wrap IntKind.i64 (IntKind.wrap IntKind.i64 ((1 : Int) + IntKind.wrap IntKind.i64 ((8 : Int) * p1)) + p3))) (0 : Int))))))))))))))) else K1 (Ex.exit (2 : Nat)) (X_27_1_0 p0 p1 p2 p4 p5 p6 p7 p8 p9 p10) := by kernel_rfl
theorem Bgd_27_1 {R : Type} {c : Bool} {x : Option R} {y : Option Sp.E_27_1} {k0 : (List Int) → (Int) → (Int) → (Int) → (List (List Int)) → (List (List Int)) → (Int) → (List (List Int)) → (List (List Int)) → (List Int) → Option R} (h : x = Sp.B_27_1 y k0) : gd c x = Sp.B_27_1 (gd c y) k0 := by cases c; rfl; exact h
theorem Bcond_27_1 {R : Type} {c : Bool} {x x' : Option R} {y y' : Option Sp.E_27_1} {k0 : (List Int) → (Int) → (Int) → (Int) → (List (List Int)) → (List (List Int)) → (Int) → (List (List Int)) → (List (List Int)) → (List Int) → Option R} (h : x = Sp.B_27_1 y k0) (h' : x' = Sp.B_27_1 y' k0) : (bif c then x else x') = Sp.B_27_1 (bif c then y else y') k0 := by cases c; exact h'; exact h
theorem loop_27_1 {R : Type} (k : Ex → St → Option R) : ∀ (m : Nat) (p0 : List Int) (p1 : Int) (p2 : Int) (p3 : Int) (p4 : Int) (p5 : List (List Int)) (p6 : List (List Int)) (p7 : Int) (p8 : List (List Int)) (p9 : List (List Int)) (p10 : List Int), evLoopN (evCodeL sm_27 FU (ovr noO (evFn sm_27 fns FU 1)) .nil ir27_b1) (St.norm ir27_v1) m (T_27_1 p0 p1 p2 p3 p4 p5 p6 p7 p8 p9 p10) k = Sp.B_27_1 (Sp.L_27_1 m p0 p1 p2 p3 p4 p5 p6 p7 p8 p9 p10) (fun p0 p1 p2 p4 p5 p6 p7 p8 p9 p10 => k (Ex.exit (2 : Nat)) (X_27_1_0 p0 p1 p2 p4 p5 p6 p7 p8 p9 p10))
  | 0, _, _, _, _, _, _, _, _, _, _, _ => rfl
  | m + 1, p0, p1, p2, p3, p4, p5, p6, p7, p8, p9, p10 => by
    rw [evLoopN_succ, body_27_1, Sp.L_27_1]
    repeat' first | apply Bgd_27_1 | apply Bcond_27_1 | exact loop_27_1 k m _ _ _ _ _ _ _ _ _ _ _ | rfl
theorem ok_27_1 {R : Type} (T : St) (k : Ex → St → Option R) (r : R) (h0 : o_27_1 G_27_1 T k = some r) : evLoopN (evCode sm_27 FU (evFn sm_27 fns FU 1) ir27_b1) (St.norm ir27_v1) FU T k = some r := by
  obtain ⟨p0, p1, p2, p3, p4, p5, p6, p7, p8, p9, p10, rfl, h⟩ := o_27_1_inv h0
  refine evLoopN_L (t := .nil) noO_ok trivial _ _ _ _ ?_
  rw [loop_27_1]
  exact h
theorem OK_27_27_1 {R : Type} (T : St) (k : Ex → St → Option R) (r : R) (h : O_27_27_1 T k = some r) : evLoopN (evCode sm_27 FU (evFn sm_27 fns FU 1) ir27_b1) (St.norm ir27_v1) FU T k = some r := ok_27_1 T k r h
theorem body_27_0 {R : Type} (K0 : St → Option R) (K1 : Ex → St → Option R) (p0 : List Int) (p1 : Int) (p2 : Int) (p3 : List (List Int)) (p4 : List (List Int)) (p5 : Int) (p6 : List (List Int)) (p7 : List (List Int)) : evLB (evCodeL sm_27 FU (ovr noO (evFn sm_27 fns FU 1)) (ir27_bt0 O_27_27_1) ir27_b0) (St.norm ir27_v0) (T_27_0 p0 p1 p2 p3 p4 p5 p6 p7) K0 K1 =
  bif decide (p1 < (69 : Int)) then Sp.B_27_1 (Sp.L_27_1 (4611686018427387904 : Nat) p0 p1 p1 (0 : Int) p2 p3 p4 p5 p6 p7 (List.replicate (32 : Nat) (0 : Int))) fun (y10 : List Int) (y11 y12 y13 : Int) (y14 y15 : List (List Int)) (y16 : Int) (y17 y18 : List (List Int)) (y19 : List Int) => bif decide (y11 < (67 : Int)) then gd (room (List.length y17 + (1 : Nat)) (32 : Nat)) (K0 (T_27_0 y10 (IntKind.wrap IntKind.i64 (y12 + (1 : Int))) y13 y14 y15 y16 (y17 ++ [y19]) y18)) else gd (room (List.length y18 + (1 : Nat)) (32 : Nat)) (K0 (T_27_0 y10 (IntKind.wrap IntKind.i64 (y12 + (1 : Int))) y13 y14 y15 y16 y17 (y18 ++ [y19]))) else K1 (Ex.exit (0 : Nat)) (X_27_0_0 p2 p3 p4 p5 p6 p7) := by kernel_rfl
theorem Bgd_27_0 {R : Type} {c : Bool} {x : Option R} {y : Option Sp.E_27_0} {k0 : (Int) → (List (List Int)) → (List (List Int)) → (Int) → (List (List Int)) → (List (List Int)) → Option R} (h : x = Sp.B_27_0 y k0) : gd c x = Sp.B_27_0 (gd c y) k0 := by cases c; rfl; exact h
theorem Bcond_27_0 {R : Type} {c : Bool} {x x' : Option R} {y y' : Option Sp.E_27_0} {k0 : (Int) → (List (List Int)) → (List (List Int)) → (Int) → (List (List Int)) → (List (List Int)) → Option R} (h : x = Sp.B_27_0 y k0) (h' : x' = Sp.B_27_0 y' k0) : (bif c then x else x') = Sp.B_27_0 (bif c then y else y') k0 := by cases c; exact h'; exact h
theorem Bin_27_0_27_1 {R : Type} {r : Option Sp.E_27_1} {k0 : (Int) → (List (List Int)) → (List (List Int)) → (Int) → (List (List Int)) → (List (List Int)) → Option R} {f0 : (List Int) → (Int) → (Int) → (Int) → (List (List Int)) → (List (List Int)) → (Int) → (List (List Int)) → (List (List Int)) → (List Int) → Option R} {g0 : (List Int) → (Int) → (Int) → (Int) → (List (List Int)) → (List (List Int)) → (Int) → (List (List Int)) → (List (List Int)) → (List Int) → Option Sp.E_27_0} (h0 : ∀ z0 z1 z2 z3 z4 z5 z6 z7 z8 z9, f0 z0 z1 z2 z3 z4 z5 z6 z7 z8 z9 = Sp.B_27_0 (g0 z0 z1 z2 z3 z4 z5 z6 z7 z8 z9) k0) : Sp.B_27_1 r f0 = Sp.B_27_0 (Sp.B_27_1 r g0) k0 := by
  cases r with
  | none => rfl
  | some e => cases e with
    | e0 z0 z1 z2 z3 z4 z5 z6 z7 z8 z9 => exact h0 _ _ _ _ _ _ _ _ _ _
theorem loop_27_0 {R : Type} (k : Ex → St → Option R) : ∀ (m : Nat) (p0 : List Int) (p1 : Int) (p2 : Int) (p3 : List (List Int)) (p4 : List (List Int)) (p5 : Int) (p6 : List (List Int)) (p7 : List (List Int)), evLoopN (evCodeL sm_27 FU (ovr noO (evFn sm_27 fns FU 1)) (ir27_bt0 O_27_27_1) ir27_b0) (St.norm ir27_v0) m (T_27_0 p0 p1 p2 p3 p4 p5 p6 p7) k = Sp.B_27_0 (Sp.L_27_0 m p0 p1 p2 p3 p4 p5 p6 p7) (fun p2 p3 p4 p5 p6 p7 => k (Ex.exit (0 : Nat)) (X_27_0_0 p2 p3 p4 p5 p6 p7))
  | 0, _, _, _, _, _, _, _, _ => rfl
  | m + 1, p0, p1, p2, p3, p4, p5, p6, p7 => by
    rw [evLoopN_succ, body_27_0, Sp.L_27_0]
    repeat' first | apply Bgd_27_0 | apply Bcond_27_0 | (apply Bin_27_0_27_1 <;> intros) | exact loop_27_0 k m _ _ _ _ _ _ _ _ | rfl
theorem ok_27_0 {R : Type} (T : St) (k : Ex → St → Option R) (r : R) (h0 : o_27_0 G_27_0 T k = some r) : evLoopN (evCode sm_27 FU (evFn sm_27 fns FU 1) ir27_b0) (St.norm ir27_v0) FU T k = some r := by
  obtain ⟨p0, p1, p2, p3, p4, p5, p6, p7, rfl, h⟩ := o_27_0_inv h0
  refine evLoopN_L (t := (ir27_bt0 O_27_27_1)) noO_ok (ir27_bt0ok (fun T k r => OK_27_27_1 T k r)) _ _ _ _ ?_
  rw [loop_27_0]
  exact h
theorem OK_27_27_0 {R : Type} (T : St) (k : Ex → St → Option R) (r : R) (h : O_27_27_0 T k = some r) : evLoopN (evCode sm_27 FU (evFn sm_27 fns FU 1) ir27_b0) (St.norm ir27_v0) FU T k = some r := ok_27_0 T k r h
def F_27 (a0 : (List Int)) : Option ((Int × ((List (List Int)) × ((List (List Int)) × Unit))) × Int × Unit) :=
  bif (↑(List.length a0) : Int) != (553 : Int) then some (((0 : Int), [], [], PUnit.unit), (3 : Int), PUnit.unit) else gd (inB (0 : Int) (List.length a0)) (bif decide (List.getD a0 (0 : Nat) (0 : Int) ≥ (4 : Int)) then some (((0 : Int), [], [], PUnit.unit), (3 : Int), PUnit.unit) else gd (inB (0 : Int) (List.length a0)) (Sp.B_27_0 (Sp.L_27_0 (4611686018427387904 : Nat) a0 (0 : Int) (0 : Int) [] [] (IntKind.wrap IntKind.i64 (List.getD a0 (0 : Nat) (0 : Int))) [] []) fun (y6 : Int) (y7 y8 : List (List Int)) (y9 : Int) (y10 y11 : List (List Int)) => some ((y9, y10, y11, PUnit.unit), (0 : Int), PUnit.unit)))
theorem fn_27 (a0 : (List Int)) : evFnL sm_27 FU (ovr noO (evFn sm_27 fns FU 1)) (ir27_t O_27_27_0) ir27 (ofH [(.slice (.int .u32))] (a0, ())) [] (pureK [(.pair (.int .i64) (.pair (.slice (.arr 32 (.int .u8))) (.pair (.slice (.arr 32 (.int .u8))) .unit))), (.int .i64)]) = F_27 a0 := by kernel_rfl
def Sp.p_27 (a0 : (List Int)) : Bool := (F_27 a0).isSome
def Sp.v_27 (a0 : (List Int)) : (Int × ((List (List Int)) × ((List (List Int)) × Unit))) × Int × Unit := (F_27 a0).getD (dfH [(.pair (.int .i64) (.pair (.slice (.arr 32 (.int .u8))) (.pair (.slice (.arr 32 (.int .u8))) .unit))), (.int .i64)])
def s_27 : Summ := shS [(.slice (.int .u32))] [(.pair (.int .i64) (.pair (.slice (.arr 32 (.int .u8))) (.pair (.slice (.arr 32 (.int .u8))) .unit))), (.int .i64)] (fun x => Sp.p_27 x.1) (fun x => Sp.v_27 x.1)
theorem pv_27 (a0 : (List Int)) {y : (Int × ((List (List Int)) × ((List (List Int)) × Unit))) × Int × Unit} (h : F_27 a0 = some y) : Sp.p_27 a0 = true ∧ Sp.v_27 a0 = y := ⟨by rw [Sp.p_27, h]; rfl, by rw [Sp.v_27, h]; rfl⟩
theorem run_27 (x : HDen [(.slice (.int .u32))]) (y : HDen [(.pair (.int .i64) (.pair (.slice (.arr 32 (.int .u8))) (.pair (.slice (.arr 32 (.int .u8))) .unit))), (.int .i64)]) (h : F_27 x.1 = some y) : evFn sm_27 fns FU 2 27 (ofH [(.slice (.int .u32))] x) [] (pureK [(.pair (.int .i64) (.pair (.slice (.arr 32 (.int .u8))) (.pair (.slice (.arr 32 (.int .u8))) .unit))), (.int .i64)]) = some y :=
  evFnL_sound (fn := ir27) (t := (ir27_t O_27_27_0)) (o := noO) rfl noO_ok (ir27_tok (fun T k r => OK_27_27_0 T k r)) ((fn_27 _).trans h)
end
end Go.Ev
namespace Go.Ev
open Go
set_option maxRecDepth 100000
set_option maxHeartbeats 4000000
set_option linter.unusedVariables false
noncomputable section

def sm_28 : Nat → Option Summ := fun f => none
def T_28_0 (p0 : List Int) (p1 : List Int) (p2 : Int) (p3 : Int) : St := St.mk [CV.pure (Ty.slice (Ty.int IntKind.u32)) p0, CV.pure (Ty.slice (Ty.int IntKind.u32)) p1, jk, jk, jk, jk, jk, jk, jk, jk, jk, jk, CV.int IntKind.i64 p2, CV.int IntKind.i64 p3, jk, jk, jk, jk, jk, jk, jk, jk, jk, jk, jk, jk] [] (0 : Nat)
def X_28_0_0 : St := St.mk [jk, jk, jk, jk, CV.bool false, jk, jk, jk, jk, jk, jk, jk, jk, jk, jk, jk, jk, jk, jk, jk, jk, jk, jk, jk, jk, jk] [] (0 : Nat)
def X_28_0_1 : St := St.mk [jk, jk, jk, jk, jk, jk, jk, jk, jk, jk, jk, jk, jk, jk, jk, jk, jk, jk, jk, jk, jk, jk, jk, jk, jk, jk] [] (0 : Nat)
inductive Sp.E_28_0 where
  | e0
  | e1
def Sp.B_28_0 {R : Type} (r : Option Sp.E_28_0) (k0 : Option R) (k1 : Option R) : Option R := match r with
  | none => none
  | some (.e0) => k0
  | some (.e1) => k1
def Sp.L_28_0 : Nat → (List Int) → (List Int) → (Int) → (Int) → Option Sp.E_28_0
  | 0, _, _, _, _ => none
  | m + 1, p0, p1, p2, p3 => bif decide (p3 < p2) then gd (inB p3 (List.length p0)) (gd (inB p3 (List.length p1)) (bif List.getD p0 (Int.toNat p3) (0 : Int) != List.getD p1 (Int.toNat p3) (0 : Int) then some (Sp.E_28_0.e0) else Sp.L_28_0 m p0 p1 p2 (IntKind.wrap IntKind.i64 (p3 + (1 : Int))))) else some (Sp.E_28_0.e1)
def G_28_0 {R : Type} (p0 : List Int) (p1 : List Int) (p2 : Int) (p3 : Int) (k : Ex → St → Option R) : Option R := Sp.B_28_0 (Sp.L_28_0 FU p0 p1 p2 p3) (k Ex.ret (X_28_0_0)) (k (Ex.exit (0 : Nat)) (X_28_0_1))
def o_28_0 {R : Type} (G : (List Int) → (List Int) → (Int) → (Int) → (Ex → St → Option R) → Option R) : St → (Ex → St → Option R) → Option R := fun T k => match T.sl.getD 0 .junk, T.sl.getD 1 .junk, T.sl.getD 12 .junk, T.sl.getD 13 .junk, T.hp with
  | CV.pure (Ty.slice (Ty.int IntKind.u32)) p0, CV.pure (Ty.slice (Ty.int IntKind.u32)) p1, CV.int IntKind.i64 p2, CV.int IntKind.i64 p3, [] => gd (shapeOK T 26 [0, 1, 12, 13] (0 : Nat)) (G p0 p1 p2 p3 k)
  | _, _, _, _, _ => none
theorem o_28_0_inv {R : Type} {G : (List Int) → (List Int) → (Int) → (Int) → (Ex → St → Option R) → Option R} {T : St} {k : Ex → St → Option R} {r : R} (h : o_28_0 G T k = some r) : ∃ p0 p1 p2 p3, T = T_28_0 p0 p1 p2 p3 ∧ G p0 p1 p2 p3 k = some r := by
  unfold o_28_0 at h
  split at h
  · obtain ⟨hs, h'⟩ := gd_some h
    refine ⟨_, _, _, _, (st_of (asg := [(0, _), (1, _), (12, _), (13, _)]) hs ⟨by assumption, by assumption, by assumption, by assumption, trivial⟩ (by assumption)).trans ?_, h'⟩
    kernel_rfl
  · cases h
def O_28_28_0 {R : Type} : St → (Ex → St → Option R) → Option R := fun T k => o_28_0 G_28_0 T k
theorem body_28_0 {R : Type} (K0 : St → Option R) (K1 : Ex → St → Option R) (p0 : List Int) (p1 : List Int) (p2 : Int) (p3 : Int) : evLB (evCodeL sm_28 FU (ovr noO (evFn sm_28 fns FU 0)) .nil ir28_b0) (St.norm ir28_v0) (T_28_0 p0 p1 p2 p3) K0 K1 =
  bif decide (p3 < p2) then gd (inB p3 (List.length p0)) (gd (inB p3 (List.length p1)) (bif List.getD p0 (Int.toNat p3) (0 : Int) != List.getD p1 (Int.toNat p3) (0 : Int) then K1 Ex.ret X_28_0_0 else K0 (T_28_0 p0 p1 p2 (IntKind.wrap IntKind.i64 (p3 + (1 : Int)))))) else K1 (Ex.exit (0 : Nat)) X_28_0_1 := by kernel_rfl
theorem Bgd_28_0 {R : Type} {c : Bool} {x : Option R} {y : Option Sp.E_28_0} {k0 : Option R} {k1 : Option R} (h : x = Sp.B_28_0 y k0 k1) : gd c x = Sp.B_28_0 (gd c y) k0 k1 := by cases c; rfl; exact h
theorem Bcond_28_0 {R : Type} {c : Bool} {x x' : Option R} {y y' : Option Sp.E_28_0} {k0 : Option R} {k1 : Option R} (h : x = Sp.B_28_0 y k0 k1) (h' : x' = Sp.B_28_0 y' k0 k1) : (bif c then x else x') = Sp.B_28_0 (bif c then y else y') k0 k1 := by cases c; exact h'; exact h
theorem loop_28_0 {R : Type} (k : Ex → St → Option R) : ∀ (m : Nat) (p0 : List Int) (p1 : List Int) (p2 : Int) (p3 : Int), evLoopN (evCodeL sm_28 FU (ovr noO (evFn sm_28 fns FU 0)) .nil ir28_b0) (St.norm ir28_v0) m (T_28_0 p0 p1 p2 p3) k = Sp.B_28_0 (Sp.L_28_0 m p0 p1 p2 p3) (k Ex.ret (X_28_0_0)) (k (Ex.exit (0 : Nat)) (X_28_0_1))
  | 0, _, _, _, _ => rfl
  | m + 1, p0, p1, p2, p3 => by
    rw [evLoopN_succ, body_28_0, Sp.L_28_0]
    repeat' first | apply Bgd_28_0 | apply Bcond_28_0 | exact loop_28_0 k m _ _ _ _ | rfl
theorem ok_28_0 {R : Type} (T : St) (k : Ex → St → Option R) (r : R) (h0 : o_28_0 G_28_0 T k = some r) : evLoopN (evCode sm_28 FU (evFn sm_28 fns FU 0) ir28_b0) (St.norm ir28_v0) FU T k = some r := by
  obtain ⟨p0, p1, p2, p3, rfl, h⟩ := o_28_0_inv h0
  refine evLoopN_L (t := .nil) noO_ok trivial _ _ _ _ ?_
  rw [loop_28_0]
  exact h
theorem OK_28_28_0 {R : Type} (T : St) (k : Ex → St → Option R) (r : R) (h : O_28_28_0 T k = some r) : evLoopN (evCode sm_28 FU (evFn sm_28 fns FU 0) ir28_b0) (St.norm ir28_v0) FU T k = some r := ok_28_0 T k r h
def F_28 (a0 : (List Int)) (a1 : (List Int)) : Option (Bool × Unit) :=
  bif (↑(List.length a0) : Int) != (↑(List.length a1) : Int) then some (false, PUnit.unit) else Sp.B_28_0 (Sp.L_28_0 (4611686018427387904 : Nat) a0 a1 (↑(List.length a0) : Int) (0 : Int)) (some (false, PUnit.unit)) (some (true, PUnit.unit))
theorem fn_28 (a0 : (List Int)) (a1 : (List Int)) : evFnL sm_28 FU (ovr noO (evFn sm_28 fns FU 0)) (ir28_t O_28_28_0) ir28 (ofH [(.slice (.int .u32)), (.slice (.int .u32))] (a0, a1, ())) [] (pureK [.bool]) = F_28 a0 a1 := by kernel_rfl
def Sp.p_28 (a0 : (List Int)) (a1 : (List Int)) : Bool := (F_28 a0 a1).isSome
def Sp.v_28 (a0 : (List Int)) (a1 : (List Int)) : Bool × Unit := (F_28 a0 a1).getD (dfH [.bool])
def s_28 : Summ := shN [(.slice (.int .u32)), (.slice (.int .u32))] [.bool] (fun x => Sp.p_28 x.1 x.2.1) (fun x => Sp.v_28 x.1 x.2.1)
theorem pv_28 (a0 : (List Int)) (a1 : (List Int)) {y : Bool × Unit} (h : F_28 a0 a1 = some y) : Sp.p_28 a0 a1 = true ∧ Sp.v_28 a0 a1 = y := ⟨by rw [Sp.p_28, h]; rfl, by rw [Sp.v_28, h]; rfl⟩
theorem run_28 (x : HDen [(.slice (.int .u32)), (.slice (.int .u32))]) (y : HDen [.bool]) (h : F_28 x.1 x.2.1 = some y) : evFn sm_28 fns FU 1 28 (ofH [(.slice (.int .u32)), (.slice (.int .u32))] x) [] (pureK [.bool]) = some y :=
  evFnL_sound (fn := ir28) (t := (ir28_t O_28_28_0)) (o := noO) rfl noO_ok (ir28_tok (fun T k r => OK_28_28_0 T k r)) ((fn_28 _ _).trans h)
end
end Go.Ev
namespace Go.Ev
open Go
set_option maxRecDepth 100000
set_option maxHeartbeats 4000000
set_option linter.unusedVariables false
noncomputable section

def sm_48 : Nat → Option Summ := fun f => none
def T_48_0 (p0 : Int) (p1 : List Int) (p2 : List Int) : St := St.mk [jk, CV.ptr (0 : Nat) [], jk, CV.whole (1 : Nat), CV.int IntKind.i64 p0, jk, jk, jk, jk, jk, jk, jk, jk, jk, jk, jk, jk, jk, jk, jk, jk, jk, jk, jk, jk, jk, jk, jk, jk, jk, jk, jk, jk, jk, jk, jk, jk, jk] [Blk.mem (CV.pure (Ty.arr (32 : Nat) (Ty.int IntKind.u8)) p1), Blk.vec (53 : Nat) (Ty.int IntKind.u32) p2] (0 : Nat)
def X_48_0_0 (p2 : List Int) : St := St.mk [jk, jk, jk, CV.whole (0 : Nat), jk, jk, jk, jk, jk, jk, jk, jk, jk, jk, jk, jk, jk, jk, jk, jk, jk, jk, jk, jk, jk, jk, jk, jk, jk, jk, jk, jk, jk, jk, jk, jk, jk, jk] [Blk.vec (53 : Nat) (Ty.int IntKind.u32) p2] (0 : Nat)
inductive Sp.E_48_0 where
  | e0 (p2 : List Int)
def Sp.B_48_0 {R : Type} (r : Option Sp.E_48_0) (k0 : (List Int) → Option R) : Option R := match r with
  | none => none
  | some (.e0 p2) => k0 p2
def Sp.L_48_0 : Nat → (Int) → (List Int) → (List Int) → Option Sp.E_48_0
  | 0, _, _, _ => none
  | m + 1, p0, p1, p2 => bif decide (p0 < (32 : Int)) then gd (inB p0 (32 : Nat)) (gd (decide (Int.toNat p0 < (32 : Nat)) && true) (gd (inB (IntKind.wrap IntKind.i64 (p0 + (1 : Int))) (32 : Nat)) (gd (decide (Int.toNat (IntKind.wrap IntKind.i64 (p0 + (1 : Int))) < (32 : Nat)) && true) (gd (inB (IntKind.wrap IntKind.i64 (p0 + (2 : Int))) (32 : Nat)) (gd (decide (Int.toNat (IntKind.wrap IntKind.i64 (p0 + (2 : Int))) < (32 : Nat)) && true) (gd (inB (IntKind.wrap IntKind.i64 (p0 + (3 : Int))) (32 : Nat)) (gd (decide (Int.toNat (IntKind.wrap IntKind.i64 (p0 + (3 : Int))) < (32 : Nat)) && true) (gd (room (List.length p2 + (1 : Nat)) (4 : Nat)) (Sp.L_48_0 m (IntKind.wrap IntKind.i64 (p0 + (4 : Int))) p1 (p2 ++ [Sp.orI IntKind.u32 (Sp.orI IntKind.u32 (Sp.orI IntKind.u32 (IntKind.wrap IntKind.u32 (IntKind.wrap IntKind.u32 (List.getD p1 (Int.toNat p0) (0 : Int)) * (16777216 : Int))) (IntKind.wrap IntKind.u32 (IntKind.wrap IntKind.u32 (List.getD p1 (Int.toNat (IntKind.wrap IntKind.i64 (p0 + (1 : Int)))) (0 : Int)) * (65536 : Int)))) (IntKind.wrap IntKind.u32 (IntKind.wrap IntKind.u32 (List.getD p1 (Int.toNat (IntKind.wrap IntKind.i64 (p0 + (2 : Int)))) (0 : Int)) * (256 : Int)))) (IntKind.wrap IntKind.u32 (List.getD p1 (Int.toNat (IntKind.wrap IntKind.i64 (p0 + (3 : Int)))) (0 : Int)))])))))))))) else some (Sp.E_48_0.e0 p2)
def G_48_0 {R : Type} (p0 : Int) (p1 : List Int) (p2 : List Int) (k : Ex → St → Option R) : Option R := Sp.B_48_0 (Sp.L_48_0 FU p0 p1 p2) (fun p2 => k (Ex.exit (0 : Nat)) (X_48_0_0 p2))
def o_48_0 {R : Type} (G : (Int) → (List Int) → (List Int) → (Ex → St → Option R) → Option R) : St → (Ex → St → Option R) → Option R := fun T k => match T.sl.getD 1 .junk, T.sl.getD 3 .junk, T.sl.getD 4 .junk, T.hp with
  | CV.ptr (0 : Nat) [], CV.whole (1 : Nat), CV.int IntKind.i64 p0, ((Blk.mem (CV.pure (Ty.arr (32 : Nat) (Ty.int IntKind.u8)) p1)) :: (Blk.vec (53 : Nat) (Ty.int IntKind.u32) p2) :: []) => gd (shapeOK T 38 [1, 3, 4] (0 : Nat)) (G p0 p1 p2 k)
  | _, _, _, _ => none
theorem o_48_0_inv {R : Type} {G : (Int) → (List Int) → (List Int) → (Ex → St → Option R) → Option R} {T : St} {k : Ex → St → Option R} {r : R} (h : o_48_0 G T k = some r) : ∃ p0 p1 p2, T = T_48_0 p0 p1 p2 ∧ G p0 p1 p2 k = some r := by
  unfold o_48_0 at h
  split at h
  · obtain ⟨hs, h'⟩ := gd_some h
    refine ⟨_, _, _, (st_of (asg := [(1, _), (3, _), (4, _)]) hs ⟨by assumption, by assumption, by assumption, trivial⟩ (by assumption)).trans ?_, h'⟩
    kernel_rfl
  · cases h
def O_48_48_0 {R : Type} : St → (Ex → St → Option R) → Option R := fun T k => o_48_0 G_48_0 T k
theorem body_48_0 {R : Type} (K0 : St → Option R) (K1 : Ex → St → Option R) (p0 : Int) (p1 : List Int) (p2 : List Int) : evLB (evCodeL sm_48 FU (ovr noO (evFn sm_48 fns FU 0)) .nil ir48_b0) (St.norm ir48_v0) (T_48_0 p0 p1 p2) K0 K1 =
  bif decide (p0 < (32 : Int)) then gd (inB p0 (32 : Nat)) (gd (decide (Int.toNat p0 < (32 : Nat)) && true) (gd (inB (IntKind.wrap IntKind.i64 (p0 + (1 : Int))) (32 : Nat)) (gd (decide (Int.toNat (IntKind.wrap IntKind.i64 (p0 + (1 : Int))) < (32 : Nat)) && true) (gd (inB (IntKind.wrap IntKind.i64 (p0 + (2 : Int))) (32 : Nat)) (gd (decide (Int.toNat (IntKind.wrap IntKind.i64 (p0 + (2 : Int))) < (32 : Nat)) && true) (gd (inB (IntKind.wrap IntKind.i64 (p0 + (3 : Int))) (32 : Nat)) (gd (decide (Int.toNat (IntKind.wrap IntKind.i64 (p0 + (3 : Int))) < (32 : Nat)) && true) (gd (room (List.length p2 + (1 : Nat)) (4 : Nat)) (K0 (T_48_0 (IntKind.wrap IntKind.i64 (p0 + (4 : Int))) p1 (p2 ++ [Sp.orI IntKind.u32 (Sp.orI IntKind.u32 (Sp.orI IntKind.u32 (IntKind.wrap IntKind.u32 (IntKind.wrap IntKind.u32 (List.getD p1 (Int.toNat p0) (0 : Int)) * (16777216 : Int))) (IntKind.wrap IntKind.u32 (IntKind.wrap IntKind.u32 (List.getD p1 (Int.toNat (IntKind.wrap IntKind.i64 (p0 + (1 : Int)))) (0 : Int)) * (65536 : Int)))) (IntKind.wrap IntKind.u32 (IntKind.wrap IntKind.u32 (List.getD p1 (Int.toNat (IntKind.wrap IntKind.i64 (p0 + (2 : Int)))) (0 : Int)) * (256 : Int)))) (IntKind.wrap IntKind.u32 (List.getD p1 (Int.toNat (IntKind.wrap IntKind.i64 (p0 + (3 : Int)))) (0 : Int)))]))))))))))) else K1 (Ex.exit (0 : Nat)) (X_48_0_0 p2) := by kernel_rfl
theorem Bgd_48_0 {R : Type} {c : Bool} {x : Option R} {y : Option Sp.E_48_0} {k0 : (List Int) → Option R} (h : x = Sp.B_48_0 y k0) : gd c x = Sp.B_48_0 (gd c y) k0 := by cases c; rfl; exact h
theorem Bcond_48_0 {R : Type} {c : Bool} {x x' : Option R} {y y' : Option Sp.E_48_0} {k0 : (List Int) → Option R} (h : x = Sp.B_48_0 y k0) (h' : x' = Sp.B_48_0 y' k0) : (bif c then x else x') = Sp.B_48_0 (bif c then y else y') k0 := by cases c; exact h'; exact h
theorem loop_48_0 {R : Type} (k : Ex → St → Option R) : ∀ (m : Nat) (p0 : Int) (p1 : List Int) (p2 : List Int), evLoopN (evCodeL sm_48 FU (ovr noO (evFn sm_48 fns FU 0)) .nil ir48_b0) (St.norm ir48_v0) m (T_48_0 p0 p1 p2) k = Sp.B_48_0 (Sp.L_48_0 m p0 p1 p2) (fun p2 => k (Ex.exit (0 : Nat)) (X_48_0_0 p2))
  | 0, _, _, _ => rfl
  | m + 1, p0, p1, p2 => by
    rw [evLoopN_succ, body_48_0, Sp.L_48_0]
    repeat' first | apply Bgd_48_0 | apply Bcond_48_0 | exact loop_48_0 k m _ _ _ | rfl
theorem ok_48_0 {R : Type} (T : St) (k : Ex → St → Option R) (r : R) (h0 : o_48_0 G_48_0 T k = some r) : evLoopN (evCode sm_48 FU (evFn sm_48 fns FU 0) ir48_b0) (St.norm ir48_v0) FU T k = some r := by
  obtain ⟨p0, p1, p2, rfl, h⟩ := o_48_0_inv h0
  refine evLoopN_L (t := .nil) noO_ok trivial _ _ _ _ ?_
  rw [loop_48_0]
  exact h
theorem OK_48_48_0 {R : Type} (T : St) (k : Ex → St → Option R) (r : R) (h : O_48_48_0 T k = some r) : evLoopN (evCode sm_48 FU (evFn sm_48 fns FU 0) ir48_b0) (St.norm ir48_v0) FU T k = some r := ok_48_0 T k r h
def F_48 (a0 : (List Int)) : Option ((List Int) × Unit) :=
  Sp.B_48_0 (Sp.L_48_0 (4611686018427387904 : Nat) (0 : Int) a0 []) fun (y1 : List Int) => some (y1, PUnit.unit)
theorem fn_48 (a0 : (List Int)) : evFnL sm_48 FU (ovr noO (evFn sm_48 fns FU 0)) (ir48_t O_48_48_0) ir48 (ofH [(.arr 32 (.int .u8))] (a0, ())) [] (pureK [(.slice (.int .u32))]) = F_48 a0 := by kernel_rfl
def Sp.p_48 (a0 : (List Int)) : Bool := (F_48 a0).isSome
def Sp.v_48 (a0 : (List Int)) : (List Int) × Unit := (F_48 a0).getD (dfH [(.slice (.int .u32))])
def s_48 : Summ := shS [(.arr 32 (.int .u8))] [(.slice (.int .u32))] (fun x => Sp.p_48 x.1) (fun x => Sp.v_48 x.1)
theorem pv_48 (a0 : (List Int)) {y : (List Int) × Unit} (h : F_48 a0 = some y) : Sp.p_48 a0 = true ∧ Sp.v_48 a0 = y := ⟨by rw [Sp.p_48, h]; rfl, by rw [Sp.v_48, h]; rfl⟩
theorem run_48 (x : HDen [(.arr 32 (.int .u8))]) (y : HDen [(.slice (.int .u32))]) (h : F_48 x.1 = some y) : evFn sm_48 fns FU 1 48 (ofH [(.arr 32 (.int .u8))] x) [] (pureK [(.slice (.int .u32))]) = some y :=
  evFnL_sound (fn := ir48) (t := (ir48_t O_48_48_0)) (o := noO) rfl noO_ok (ir48_tok (fun T k r => OK_48_48_0 T k r)) ((fn_48 _).trans h)
end
end Go.Ev
