/- Helpers: functions of the program as Lean functions, and what they compute. No condition. -/
import Derived.Test.YtpelnohiecgbgaaEvPart2
import Derived.Test.YtpelnohiecgbgaaG8P0
import Derived.Test.YtpelnohiecgbgaaG8P1
import Derived.Test.YtpelnohiecgbgaaProg
set_option maxRecDepth 10000
set_option linter.unusedVariables false
set_option linter.unusedSimpArgs false
namespace Go.Ev
open Go
set_option maxRecDepth 100000
set_option maxHeartbeats 4000000
set_option linter.unusedVariables false
noncomputable section

def sm_29 : Nat → Option Summ := fun f => bif Nat.beq f 48 then some s_48 else none
def T_29_0 (p0 : Int) (p1 : Int × List (List Int) × List (List Int) × PUnit) (p2 : List Int) : St := St.mk [jk, CV.ptr (0 : Nat) [], jk, CV.whole (1 : Nat), CV.int IntKind.i64 p0, jk, jk, jk, jk, jk, jk, jk, jk, jk, jk, jk, jk, jk, jk, jk, jk, jk, jk, jk, jk, jk, jk, jk, jk, jk, jk, jk, jk, jk, jk] [Blk.mem (CV.pure (Ty.pair (Ty.int IntKind.i64) (Ty.pair (Ty.slice (Ty.arr (32 : Nat) (Ty.int IntKind.u8))) (Ty.pair (Ty.slice (Ty.arr (32 : Nat) (Ty.int IntKind.u8))) Ty.unit))) p1), Blk.vec (53 : Nat) (Ty.int IntKind.u32) p2] (0 : Nat)
def X_29_0_0 (p1 : Int × List (List Int) × List (List Int) × PUnit) (p2 : List Int) : St := St.mk [jk, CV.ptr (0 : Nat) [], jk, CV.whole (1 : Nat), jk, jk, jk, jk, jk, jk, jk, jk, jk, jk, jk, jk, jk, jk, jk, jk, jk, jk, jk, jk, jk, jk, jk, jk, jk, jk, jk, jk, jk, jk, jk] [Blk.mem (CV.pure (Ty.pair (Ty.int IntKind.i64) (Ty.pair (Ty.slice (Ty.arr (32 : Nat) (Ty.int IntKind.u8))) (Ty.pair (Ty.slice (Ty.arr (32 : Nat) (Ty.int IntKind.u8))) Ty.unit))) p1), Blk.vec (53 : Nat) (Ty.int IntKind.u32) p2] (0 : Nat)
inductive Sp.E_29_0 where
  | e0 (p1 : Int × List (List Int) × List (List Int) × PUnit) (p2 : List Int)
def Sp.B_29_0 {R : Type} (r : Option Sp.E_29_0) (k0 : (Int × List (List Int) × List (List Int) × PUnit) → (List Int) → Option R) : Option R := match r with
  | none => none
  | some (.e0 p1 p2) => k0 p1 p2
def Sp.L_29_0 : Nat → (Int) → (Int × List (List Int) × List (List Int) × PUnit) → (List Int) → Option Sp.E_29_0
  | 0, _, _, _ => none
  | m + 1, p0, p1, p2 => bif decide (p0 < (67 : Int)) then gd (inB p0 (List.length (Prod.fst (Prod.snd p1)))) (gd (Sp.p_48 (List.getD (Prod.fst (Prod.snd p1)) (Int.toNat p0) (Ty.dflt (Ty.arr (32 : Nat) (Ty.int IntKind.u8))))) (gd (room (List.length p2 + List.length (Prod.fst (Sp.v_48 (List.getD (Prod.fst (Prod.snd p1)) (Int.toNat p0) (Ty.dflt (Ty.arr (32 : Nat) (Ty.int IntKind.u8))))))) (4 : Nat)) (Sp.L_29_0 m (IntKind.wrap IntKind.i64 (p0 + (1 : Int))) p1 (p2 ++ Prod.fst (Sp.v_48 (List.getD (Prod.fst (Prod.snd p1)) (Int.toNat p0) (Ty.dflt (Ty.arr (32 : Nat) (Ty.int IntKind.u8))))))))) else some (Sp.E_29_0.e0 p1 p2)
def G_29_0 {R : Type} (p0 : Int) (p1 : Int × List (List Int) × List (List Int) × PUnit) (p2 : List Int) (k : Ex → St → Option R) : Option R := Sp.B_29_0 (Sp.L_29_0 FU p0 p1 p2) (fun p1 p2 => k (Ex.exit (0 : Nat)) (X_29_0_0 p1 p2))
def o_29_0 {R : Type} (G : (Int) → (Int × List (List Int) × List (List Int) × PUnit) → (List Int) → (Ex → St → Option R) → Option R) : St → (Ex → St → Option R) → Option R := fun T k => match T.sl.getD 1 .junk, T.sl.getD 3 .junk, T.sl.getD 4 .junk, T.hp with
  | CV.ptr (0 : Nat) [], CV.whole (1 : Nat), CV.int IntKind.i64 p0, ((Blk.mem (CV.pure (Ty.pair (Ty.int IntKind.i64) (Ty.pair (Ty.slice (Ty.arr (32 : Nat) (Ty.int IntKind.u8))) (Ty.pair (Ty.slice (Ty.arr (32 : Nat) (Ty.int IntKind.u8))) Ty.unit))) p1)) :: (Blk.vec (53 : Nat) (Ty.int IntKind.u32) p2) :: []) => gd (shapeOK T 35 [1, 3, 4] (0 : Nat)) (G p0 p1 p2 k)
  | _, _, _, _ => none
theorem o_29_0_inv {R : Type} {G : (Int) → (Int × List (List Int) × List (List Int) × PUnit) → (List Int) → (Ex → St → Option R) → Option R} {T : St} {k : Ex → St → Option R} {r : R} (h : o_29_0 G T k = some r) : ∃ p0 p1 p2, T = T_29_0 p0 p1 p2 ∧ G p0 p1 p2 k = some r := by
  unfold o_29_0 at h
  split at h
  · obtain ⟨hs, h'⟩ := gd_some h
    refine ⟨_, _, _, (st_of (asg := [(1, _), (3, _), (4, _)]) hs ⟨by assumption, by assumption, by assumption, trivial⟩ (by assumption)).trans ?_, h'⟩
    kernel_rfl
  · cases h
def T_29_1 (p0 : Int) (p1 : Int × List (List Int) × List (List Int) × PUnit) (p2 : List Int) : St := St.mk [jk, CV.ptr (0 : Nat) [], jk, CV.whole (1 : Nat), jk, CV.int IntKind.i64 p0, jk, jk, jk, jk, jk, jk, jk, jk, jk, jk, jk, jk, jk, jk, jk, jk, jk, jk, jk, jk, jk, jk, jk, jk, jk, jk, jk, jk, jk] [Blk.mem (CV.pure (Ty.pair (Ty.int IntKind.i64) (Ty.pair (Ty.slice (Ty.arr (32 : Nat) (Ty.int IntKind.u8))) (Ty.pair (Ty.slice (Ty.arr (32 : Nat) (Ty.int IntKind.u8))) Ty.unit))) p1), Blk.vec (53 : Nat) (Ty.int IntKind.u32) p2] (0 : Nat)
def X_29_1_0 (p2 : List Int) : St := St.mk [jk, jk, jk, CV.whole (0 : Nat), jk, jk, jk, jk, jk, jk, jk, jk, jk, jk, jk, jk, jk, jk, jk, jk, jk, jk, jk, jk, jk, jk, jk, jk, jk, jk, jk, jk, jk, jk, jk] [Blk.vec (53 : Nat) (Ty.int IntKind.u32) p2] (0 : Nat)
inductive Sp.E_29_1 where
  | e0 (p2 : List Int)
def Sp.B_29_1 {R : Type} (r : Option Sp.E_29_1) (k0 : (List Int) → Option R) : Option R := match r with
  | none => none
  | some (.e0 p2) => k0 p2
def Sp.L_29_1 : Nat → (Int) → (Int × List (List Int) × List (List Int) × PUnit) → (List Int) → Option Sp.E_29_1
  | 0, _, _, _ => none
  | m + 1, p0, p1, p2 => bif decide (p0 < (2 : Int)) then gd (inB p0 (List.length (Prod.fst (Prod.snd (Prod.snd p1))))) (gd (Sp.p_48 (List.getD (Prod.fst (Prod.snd (Prod.snd p1))) (Int.toNat p0) (Ty.dflt (Ty.arr (32 : Nat) (Ty.int IntKind.u8))))) (gd (room (List.length p2 + List.length (Prod.fst (Sp.v_48 (List.getD (Prod.fst (Prod.snd (Prod.snd p1))) (Int.toNat p0) (Ty.dflt (Ty.arr (32 : Nat) (Ty.int IntKind.u8))))))) (4 : Nat)) (Sp.L_29_1 m (IntKind.wrap IntKind.i64 (p0 + (1 : Int))) p1 (p2 ++ Prod.fst (Sp.v_48 (List.getD (Prod.fst (Prod.snd (Prod.snd p1))) (Int.toNat p0) (Ty.dflt (Ty.arr (32 : Nat) (Ty.int IntKind.u8))))))))) else some (Sp.E_29_1.e0 p2)
def G_29_1 {R : Type} (p0 : Int) (p1 : Int × List (List Int) × List (List Int) × PUnit) (p2 : List Int) (k : Ex → St → Option R) : Option R := Sp.B_29_1 (Sp.L_29_1 FU p0 p1 p2) (fun p2 => k (Ex.exit (2 : Nat)) (X_29_1_0 p2))
def o_29_1 {R : Type} (G : (Int) → (Int × List (List Int) × List (List Int) × PUnit) → (List Int) → (Ex → St → Option R) → Option R) : St → (Ex → St → Option R) → Option R := fun T k => match T.sl.getD 1 .junk, T.sl.getD 3 .junk, T.sl.getD 5 .junk, T.hp with
  | CV.ptr (0 : Nat) [], CV.whole (1 : Nat), CV.int IntKind.i64 p0, ((Blk.mem (CV.pure (Ty.pair (Ty.int IntKind.i64) (Ty.pair (Ty.slice (Ty.arr (32 : Nat) (Ty.int IntKind.u8))) (Ty.pair (Ty.slice (Ty.arr (32 : Nat) (Ty.int IntKind.u8))) Ty.unit))) p1)) :: (Blk.vec (53 : Nat) (Ty.int IntKind.u32) p2) :: []) => gd (shapeOK T 35 [1, 3, 5] (0 : Nat)) (G p0 p1 p2 k)
  | _, _, _, _ => none
theorem o_29_1_inv {R : Type} {G : (Int) → (Int × List (List Int) × List (List Int) × PUnit) → (List Int) → (Ex → St → Option R) → Option R} {T : St} {k : Ex → St → Option R} {r : R} (h : o_29_1 G T k = some r) : ∃ p0 p1 p2, T = T_29_1 p0 p1 p2 ∧ G p0 p1 p2 k = some r := by
  unfold o_29_1 at h
  split at h
  · obtain ⟨hs, h'⟩ := gd_some h
    refine ⟨_, _, _, (st_of (asg := [(1, _), (3, _), (5, _)]) hs ⟨by assumption, by assumption, by assumption, trivial⟩ (by assumption)).trans ?_, h'⟩
    kernel_rfl
  · cases h
def O_29_29_0 {R : Type} : St → (Ex → St → Option R) → Option R := fun T k => o_29_0 G_29_0 T k
def O_29_29_1 {R : Type} : St → (Ex → St → Option R) → Option R := fun T k => o_29_1 G_29_1 T k
theorem body_29_0 {R : Type} (K0 : St → Option R) (K1 : Ex → St → Option R) (p0 : Int) (p1 : Int × List (List Int) × List (List Int) × PUnit) (p2 : List Int) : evLB (evCodeL sm_29 FU (ovr noO (evFn sm_29 fns FU 0)) .nil ir29_b0) (St.norm ir29_v0) (T_29_0 p0 p1 p2) K0 K1 =
  bif decide (p0 < (67 : Int)) then gd (inB p0 (List.length (Prod.fst (Prod.snd p1)))) (gd (Sp.p_48 (List.getD (Prod.fst (Prod.snd p1)) (Int.toNat p0) (Ty.dflt (Ty.arr (32 : Nat) (Ty.int IntKind.u8))))) (gd (room (List.length p2 + List.length (Prod.fst (Sp.v_48 (List.getD (Prod.fst (Prod.snd p1)) (Int.toNat p0) (Ty.dflt (Ty.arr (32 : Nat) (Ty.int IntKind.u8))))))) (4 : Nat)) (K0 (T_29_0 (IntKind.wrap IntKind.i64 (p0 + (1 : Int))) p1 (p2 ++ Prod.fst (Sp.v_48 (List.getD (Prod.fst (Prod.snd p1)) (Int.toNat p0) (Ty.dflt (Ty.arr (32 : Nat) (Ty.int IntKind.u8)))))))))) else K1 (Ex.exit (0 : Nat)) (X_29_0_0 p1 p2) := by kernel_rfl
theorem Bgd_29_0 {R : Type} {c : Bool} {x : Option R} {y : Option Sp.E_29_0} {k0 : (Int × List (List Int) × List (List Int) × PUnit) → (List Int) → Option R} (h : x = Sp.B_29_0 y k0) : gd c x = Sp.B_29_0 (gd c y) k0 := by cases c; rfl; exact h
theorem Bcond_29_0 {R : Type} {c : Bool} {x x' : Option R} {y y' : Option Sp.E_29_0} {k0 : (Int × List (List Int) × List (List Int) × PUnit) → (List Int) → Option R} (h : x = Sp.B_29_0 y k0) (h' : x' = Sp.B_29_0 y' k0) : (bif c then x else x') = Sp.B_29_0 (bif c then y else y') k0 := by cases c; exact h'; exact h
theorem loop_29_0 {R : Type} (k : Ex → St → Option R) : ∀ (m : Nat) (p0 : Int) (p1 : Int × List (List Int) × List (List Int) × PUnit) (p2 : List Int), evLoopN (evCodeL sm_29 FU (ovr noO (evFn sm_29 fns FU 0)) .nil ir29_b0) (St.norm ir29_v0) m (T_29_0 p0 p1 p2) k = Sp.B_29_0 (Sp.L_29_0 m p0 p1 p2) (fun p1 p2 => k (Ex.exit (0 : Nat)) (X_29_0_0 p1 p2))
  | 0, _, _, _ => rfl
  | m + 1, p0, p1, p2 => by
    rw [evLoopN_succ, body_29_0, Sp.L_29_0]
    repeat' first | apply Bgd_29_0 | apply Bcond_29_0 | exact loop_29_0 k m _ _ _ | rfl
theorem ok_29_0 {R : Type} (T : St) (k : Ex → St → Option R) (r : R) (h0 : o_29_0 G_29_0 T k = some r) : evLoopN (evCode sm_29 FU (evFn sm_29 fns FU 0) ir29_b0) (St.norm ir29_v0) FU T k = some r := by
  obtain ⟨p0, p1, p2, rfl, h⟩ := o_29_0_inv h0
  refine evLoopN_L (t := .nil) noO_ok trivial _ _ _ _ ?_
  rw [loop_29_0]
  exact h
theorem OK_29_29_0 {R : Type} (T : St) (k : Ex → St → Option R) (r : R) (h : O_29_29_0 T k = some r) : evLoopN (evCode sm_29 FU (evFn sm_29 fns FU 0) ir29_b0) (St.norm ir29_v0) FU T k = some r := ok_29_0 T k r h
theorem body_29_1 {R : Type} (K0 : St → Option R) (K1 : Ex → St → Option R) (p0 : Int) (p1 : Int × List (List Int) × List (List Int) × PUnit) (p2 : List Int) : evLB (evCodeL sm_29 FU (ovr noO (evFn sm_29 fns FU 0)) .nil ir29_b1) (St.norm ir29_v1) (T_29_1 p0 p1 p2) K0 K1 =
  bif decide (p0 < (2 : Int)) then gd (inB p0 (List.length (Prod.fst (Prod.snd (Prod.snd p1))))) (gd (Sp.p_48 (List.getD (Prod.fst (Prod.snd (Prod.snd p1))) (Int.toNat p0) (Ty.dflt (Ty.arr (32 : Nat) (Ty.int IntKind.u8))))) (gd (room (List.length p2 + List.length (Prod.fst (Sp.v_48 (List.getD (Prod.fst (Prod.snd (Prod.snd p1))) (Int.toNat p0) (Ty.dflt (Ty.arr (32 : Nat) (Ty.int IntKind.u8))))))) (4 : Nat)) (K0 (T_29_1 (IntKind.wrap IntKind.i64 (p0 + (1 : Int))) p1 (p2 ++ Prod.fst (Sp.v_48 (List.getD (Prod.fst (Prod.snd (Prod.snd p1))) (Int.toNat p0) (Ty.dflt (Ty.arr (32 : Nat) (Ty.int IntKind.u8)))))))))) else K1 (Ex.exit (2 : Nat)) (X_29_1_0 p2) := by kernel_rfl
theorem Bgd_29_1 {R : Type} {c : Bool} {x : Option R} {y : Option Sp.E_29_1} {k0 : (List Int) → Option R} (h : x = Sp.B_29_1 y k0) : gd c x = Sp.B_29_1 (gd c y) k0 := by cases c; rfl; exact h
theorem Bcond_29_1 {R : Type} {c : Bool} {x x' : Option R} {y y' : Option Sp.E_29_1} {k0 : (List Int) → Option R} (h : x = Sp.B_29_1 y k0) (h' : x' = Sp.B_29_1 y' k0) : (bif c then x else x') = Sp.B_29_1 (bif c then y else y') k0 := by cases c; exact h'; exact h
theorem loop_29_1 {R : Type} (k : Ex → St → Option R) : ∀ (m : Nat) (p0 : Int) (p1 : Int × List (List Int) × List (List Int) × PUnit) (p2 : List Int), evLoopN (evCodeL sm_29 FU (ovr noO (evFn sm_29 fns FU 0)) .nil ir29_b1) (St.norm ir29_v1) m (T_29_1 p0 p1 p2) k = Sp.B_29_1 (Sp.L_29_1 m p0 p1 p2) (fun p2 => k (Ex.exit (2 : Nat)) (X_29_1_0 p2))
  | 0, _, _, _ => rfl
  | m + 1, p0, p1, p2 => by
    rw [evLoopN_succ, body_29_1, Sp.L_29_1]
    repeat' first | apply Bgd_29_1 | apply Bcond_29_1 | exact loop_29_1 k m _ _ _ | rfl
theorem ok_29_1 {R : Type} (T : St) (k : Ex → St → Option R) (r : R) (h0 : o_29_1 G_29_1 T k = some r) : evLoopN (evCode sm_29 FU (evFn sm_29 fns FU 0) ir29_b1) (St.norm ir29_v1) FU T k = some r := by
  obtain ⟨p0, p1, p2, rfl, h⟩ := o_29_1_inv h0
  refine evLoopN_L (t := .nil) noO_ok trivial _ _ _ _ ?_
  rw [loop_29_1]
  exact h
theorem OK_29_29_1 {R : Type} (T : St) (k : Ex → St → Option R) (r : R) (h : O_29_29_1 T k = some r) : evLoopN (evCode sm_29 FU (evFn sm_29 fns FU 0) ir29_b1) (St.norm ir29_v1) FU T k = some r := ok_29_1 T k r h
def F_29 (a0 : (Int × ((List (List Int)) × ((List (List Int)) × Unit)))) : Option ((List Int) × Unit) :=
  Sp.B_29_0 (Sp.L_29_0 (4611686018427387904 : Nat) (0 : Int) a0 [IntKind.wrap IntKind.u32 (Prod.fst a0)]) fun (y3 : Int × List (List Int) × List (List Int) × PUnit) (y4 : List Int) => Sp.B_29_1 (Sp.L_29_1 (4611686018427387904 : Nat) (0 : Int) y3 y4) fun (y5 : List Int) => some (y5, PUnit.unit)
theorem fn_29 (a0 : (Int × ((List (List Int)) × ((List (List Int)) × Unit)))) : evFnL sm_29 FU (ovr noO (evFn sm_29 fns FU 0)) (ir29_t O_29_29_0 O_29_29_1) ir29 (ofH [(.pair (.int .i64) (.pair (.slice (.arr 32 (.int .u8))) (.pair (.slice (.arr 32 (.int .u8))) .unit)))] (a0, ())) [] (pureK [(.slice (.int .u32))]) = F_29 a0 := by kernel_rfl
def Sp.p_29 (a0 : (Int × ((List (List Int)) × ((List (List Int)) × Unit)))) : Bool := (F_29 a0).isSome
def Sp.v_29 (a0 : (Int × ((List (List Int)) × ((List (List Int)) × Unit)))) : (List Int) × Unit := (F_29 a0).getD (dfH [(.slice (.int .u32))])
def s_29 : Summ := shS [(.pair (.int .i64) (.pair (.slice (.arr 32 (.int .u8))) (.pair (.slice (.arr 32 (.int .u8))) .unit)))] [(.slice (.int .u32))] (fun x => Sp.p_29 x.1) (fun x => Sp.v_29 x.1)
theorem pv_29 (a0 : (Int × ((List (List Int)) × ((List (List Int)) × Unit)))) {y : (List Int) × Unit} (h : F_29 a0 = some y) : Sp.p_29 a0 = true ∧ Sp.v_29 a0 = y := ⟨by rw [Sp.p_29, h]; rfl, by rw [Sp.v_29, h]; rfl⟩
theorem run_29 (x : HDen [(.pair (.int .i64) (.pair (.slice (.arr 32 (.int .u8))) (.pair (.slice (.arr 32 (.int .u8))) .unit)))]) (y : HDen [(.slice (.int .u32))]) (h : F_29 x.1 = some y) : evFn sm_29 fns FU 1 29 (ofH [(.pair (.int .i64) (.pair (.slice (.arr 32 (.int .u8))) (.pair (.slice (.arr 32 (.int .u8))) .unit)))] x) [] (pureK [(.slice (.int .u32))]) = some y :=
  evFnL_sound (fn := ir29) (t := (ir29_t O_29_29_0 O_29_29_1)) (o := noO) rfl noO_ok (ir29_tok (fun T k r => OK_29_29_0 T k r) (fun T k r => OK_29_29_1 T k r)) ((fn_29 _).trans h)
end
end Go.Ev
namespace Go.Ev
open Go
set_option maxRecDepth 100000
set_option maxHeartbeats 4000000
set_option linter.unusedVariables false
noncomputable section

def sm_30 : Nat → Option Summ := fun f => none
def T_30_1 (p0 : List Int) (p1 : Int) (p2 : Int) (p3 : Int) (p4 : List (List Int)) (p5 : List (List Int)) (p6 : Int) (p7 : List (List Int)) (p8 : List (List Int)) (p9 : List Int) : St := St.mk [CV.pure (Ty.slice (Ty.int IntKind.u32)) p0, jk, CV.ptr (0 : Nat) [], jk, CV.ptr (3 : Nat) [], CV.int IntKind.i64 p1, CV.ptr (6 : Nat) [], CV.int IntKind.i64 p2, jk, jk, jk, jk, jk, jk, jk, jk, jk, jk, jk, jk, jk, jk, jk, jk, jk, jk, jk, jk, jk, jk, jk, jk, jk, jk, jk, jk, jk, jk, jk, jk, jk, jk, jk, jk, jk, jk, jk, jk, jk, jk, jk, jk, jk, jk, jk, jk, jk, jk, jk, jk, jk, jk, jk, jk] [Blk.mem (CV.pair (CV.int IntKind.i64 p3) (CV.pair (CV.whole (1 : Nat)) (CV.pair (CV.whole (2 : Nat)) (CV.pure Ty.unit PUnit.unit)))), Blk.vec (25 : Nat) (Ty.arr (32 : Nat) (Ty.int IntKind.u8)) p4, Blk.vec (25 : Nat) (Ty.arr (32 : Nat) (Ty.int IntKind.u8)) p5, Blk.mem (CV.pair (CV.int IntKind.i64 p6) (CV.pair (CV.whole (4 : Nat)) (CV.pair (CV.whole (5 : Nat)) (CV.pure Ty.unit PUnit.unit)))), Blk.vec (25 : Nat) (Ty.arr (32 : Nat) (Ty.int IntKind.u8)) p7, Blk.vec (25 : Nat) (Ty.arr (32 : Nat) (Ty.int IntKind.u8)) p8, Blk.mem (CV.pure (Ty.arr (32 : Nat) (Ty.int IntKind.u8)) p9)] (0 : Nat)
def X_30_1_0 (p0 : List Int) (p1 : Int) (p3 : Int) (p4 : List (List Int)) (p5 : List (List Int)) (p6 : Int) (p7 : List (List Int)) (p8 : List (List Int)) (p9 : List Int) : St := St.mk [CV.pure (Ty.slice (Ty.int IntKind.u32)) p0, jk, CV.ptr (0 : Nat) [], jk, CV.ptr (3 : Nat) [], CV.int IntKind.i64 p1, CV.ptr (6 : Nat) [], jk, jk, jk, jk, jk, jk, jk, jk, jk, jk, jk, jk, jk, jk, jk, jk, jk, jk, jk, jk, jk, jk, jk, jk, jk, jk, jk, jk, jk, jk, jk, jk, jk, jk, jk, jk, jk, jk, jk, jk, jk, jk, jk, jk, jk, jk, jk, jk, jk, jk, jk, jk, jk, jk, jk, jk, jk] [Blk.mem (CV.pair (CV.int IntKind.i64 p3) (CV.pair (CV.whole (1 : Nat)) (CV.pair (CV.whole (2 : Nat)) (CV.pure Ty.unit PUnit.unit)))), Blk.vec (25 : Nat) (Ty.arr (32 : Nat) (Ty.int IntKind.u8)) p4, Blk.vec (25 : Nat) (Ty.arr (32 : Nat) (Ty.int IntKind.u8)) p5, Blk.mem (CV.pair (CV.int IntKind.i64 p6) (CV.pair (CV.whole (4 : Nat)) (CV.pair (CV.whole (5 : Nat)) (CV.pure Ty.unit PUnit.unit)))), Blk.vec (25 : Nat) (Ty.arr (32 : Nat) (Ty.int IntKind.u8)) p7, Blk.vec (25 : Nat) (Ty.arr (32 : Nat) (Ty.int IntKind.u8)) p8, Blk.mem (CV.pure (Ty.arr (32 : Nat) (Ty.int IntKind.u8)) p9)] (0 : Nat)
inductive Sp.E_30_1 where
  | e0 (p0 : List Int) (p1 : Int) (p3 : Int) (p4 : List (List Int)) (p5 : List (List Int)) (p6 : Int) (p7 : List (List Int)) (p8 : List (List Int)) (p9 : List Int)
def Sp.B_30_1 {R : Type} (r : Option Sp.E_30_1) (k0 : (List Int) → (Int) → (Int) → (List (List Int)) → (List (List Int)) → (Int) → (List (List Int)) → (List (List Int)) → (List Int) → Option R) : Option R := match r with
  | none => none
  | some (.e0 p0 p1 p3 p4 p5 p6 p7 p8 p9) => k0 p0 p1 p3 p4 p5 p6 p7 p8 p9
def Sp.L_30_1 : Nat → (List Int) → (Int) → (Int) → (Int) → (List (List Int)) → (List (List Int)) → (Int) → (List (List Int)) → (List (List Int)) → (List Int) → Option Sp.E_30_1
  | 0, _, _, _, _, _, _, _, _, _, _ => none
  | m + 1, p0, p1, p2, p3, p4, p5, p6, p7, p8, p9 => bif decide (p2 < (32 : Int)) then gd (inB (IntKind.wrap IntKind.i64 (IntKind.wrap IntKind.i64 ((1 : Int) + IntKind.wrap IntKind.i64 ((8 : Int) * p1)) + IntKind.wrap IntKind.i64 (Int.tdiv p2 (4 : Int)))) (List.length p0)) (gd (decide ((0 : Int) ≤ IntKind.wrap IntKind.u64 (IntKind.wrap IntKind.i64 ((24 : Int) - IntKind.wrap IntKind.i64 (Int.tmod p2 (4 : Int) * (8 : Int)))))) (gd (inB p2 (32 : Nat)) (gd (decide (Int.toNat p2 < (32 : Nat)) && true) (Sp.L_30_1 m p0 p1 (IntKind.wrap IntKind.i64 (p2 + (1 : Int))) p3 p4 p5 p6 p7 p8 (List.set p9 (Int.toNat p2) (IntKind.wrap IntKind.u8 (Int.fdiv (List.getD p0 (Int.toNat (IntKind.wrap IntKind.i64 (IntKind.wrap IntKind.i64 ((1 : Int) + IntKind.wrap IntKind.i64 ((8 : Int) * p1)) + IntKind.wrap IntKind.i64 (Int.tdiv p2 (4 : Int))))) (0 : Int)) ((2 : Int) ^ Nat.min (Int.toNat (IntKind.wrap IntKind.u64 (IntKind.wrap IntKind.i64 ((24 : Int) - IntKind.wrap IntKind.i64 (Int.tmod p2 (4 : Int) * (8 : Int)))))) (32 : Nat))))))))) else some (Sp.E_30_1.e0 p0 p1 p3 p4 p5 p6 p7 p8 p9)
def G_30_1 {R : Type} (p0 : List Int) (p1 : Int) (p2 : Int) (p3 : Int) (p4 : List (List Int)) (p5 : List (List Int)) (p6 : Int) (p7 : List (List Int)) (p8 : List (List Int)) (p9 : List Int) (k : Ex → St → Option R) : Option R := Sp.B_30_1 (Sp.L_30_1 FU p0 p1 p2 p3 p4 p5 p6 p7 p8 p9) (fun p0 p1 p3 p4 p5 p6 p7 p8 p9 => k (Ex.exit (2 : Nat)) (X_30_1_0 p0 p1 p3 p4 p5 p6 p7 p8 p9))
def o_30_1 {R : Type} (G : (List Int) → (Int) → (Int) → (Int) → (List (List Int)) → (List (List Int)) → (Int) → (List (List Int)) → (List (List Int)) → (List Int) → (Ex → St → Option R) → Option R) : St → (Ex → St → Option R) → Option R := fun T k => match T.sl.getD 0 .junk, T.sl.getD 2 .junk, T.sl.getD 4 .junk, T.sl.getD 5 .junk, T.sl.getD 6 .junk, T.sl.getD 7 .junk, T.hp with
  | CV.pure (Ty.slice (Ty.int IntKind.u32)) p0, CV.ptr (0 : Nat) [], CV.ptr (3 : Nat) [], CV.int IntKind.i64 p1, CV.ptr (6 : Nat) [], CV.int IntKind.i64 p2, ((Blk.mem (CV.pair (CV.int IntKind.i64 p3) (CV.pair (CV.whole (1 : Nat)) (CV.pair (CV.whole (2 : Nat)) (CV.pure Ty.unit PUnit.unit))))) :: (Blk.vec (25 : Nat) (Ty.arr (32 : Nat) (Ty.int IntKind.u8)) p4) :: (Blk.vec (25 : Nat) (Ty.arr (32 : Nat) (Ty.int IntKind.u8)) p5) :: (Blk.mem (CV.pair (CV.int IntKind.i64 p6) (CV.pair (CV.whole (4 : Nat)) (CV.pair (CV.whole (5 : Nat)) (CV.pure Ty.unit PUnit.unit))))) :: (Blk.vec (25 : Nat) (Ty.arr (32 : Nat) (Ty.int IntKind.u8)) p7) :: (Blk.vec (25 : Nat) (Ty.arr (32 : Nat) (Ty.int IntKind.u8)) p8) :: (Blk.mem (CV.pure (Ty.arr (32 : Nat) (Ty.int IntKind.u8)) p9)) :: []) => gd (shapeOK T 64 [0, 2, 4, 5, 6, 7] (0 : Nat)) (G p0 p1 p2 p3 p4 p5 p6 p7 p8 p9 k)
  | _, _, _, _, _, _, _ => none
theorem o_30_1_inv {R : Type} {G : (List Int) → (Int) → (Int) → (Int) → (List (List Int)) → (List (List Int)) → (Int) → (List (List Int)) → (List (List Int)) → (List Int) → (Ex → St → Option R) → Option R} {T : St} {k : Ex → St → Option R} {r : R} (h : o_30_1 G T k = some r) : ∃ p0 p1 p2 p3 p4 p5 p6 p7 p8 p9, T = T_30_1 p0 p1 p2 p3 p4 p5 p6 p7 p8 p9 ∧ G p0 p1 p2 p3 p4 p5 p6 p7 p8 p9 k = some r := by
  unfold o_30_1 at h
  split at h
  · obtain ⟨hs, h'⟩ := gd_some h
    refine ⟨_, _, _, _, _, _, _, _, _, _, (st_of (asg := [(0, _), (2, _), (4, _), (5, _), (6, _), (7, _)]) hs ⟨by assumption, by assumption, by assumption, by assumption, by assumption, by assumption, trivial⟩ (by assumption)).trans ?_, h'⟩
    kernel_rfl
  · cases h
def T_30_0 (p0 : List Int) (p1 : Int) (p2 : Int) (p3 : List (List Int)) (p4 : List (List Int)) (p5 : Int) (p6 : List (List Int)) (p7 : List (List Int)) : St := St.mk [CV.pure (Ty.slice (Ty.int IntKind.u32)) p0, jk, CV.ptr (0 : Nat) [], jk, CV.ptr (3 : Nat) [], CV.int IntKind.i64 p1, jk, jk, jk, jk, jk, jk, jk, jk, jk, jk, jk, jk, jk, jk, jk, jk, jk, jk, jk, jk, jk, jk, jk, jk, jk, jk, jk, jk, jk, jk, jk, jk, jk, jk, jk, jk, jk, jk, jk, jk, jk, jk, jk, jk, jk, jk, jk, jk, jk, jk, jk, jk, jk, jk, jk, jk, jk, jk] [Blk.mem (CV.pair (CV.int IntKind.i64 p2) (CV.pair (CV.whole (1 : Nat)) (CV.pair (CV.whole (2 : Nat)) (CV.pure Ty.unit PUnit.unit)))), Blk.vec (25 : Nat) (Ty.arr (32 : Nat) (Ty.int IntKind.u8)) p3, Blk.vec (25 : Nat) (Ty.arr (32 : Nat) (Ty.int IntKind.u8)) p4, Blk.mem (CV.pair (CV.int IntKind.i64 p5) (CV.pair (CV.whole (4 : Nat)) (CV.pair (CV.whole (5 : Nat)) (CV.pure Ty.unit PUnit.unit)))), Blk.vec (25 : Nat) (Ty.arr (32 : Nat) (Ty.int IntKind.u8)) p6, Blk.vec (25 : Nat) (Ty.arr (32 : Nat) (Ty.int IntKind.u8)) p7] (0 : Nat)
def X_30_0_0 (p2 : Int) (p3 : List (List Int)) (p4 : List (List Int)) (p5 : Int) (p6 : List (List Int)) (p7 : List (List Int)) : St := St.mk [jk, jk, CV.ptr (0 : Nat) [], jk, CV.ptr (3 : Nat) [], jk, jk, jk, jk, jk, jk, jk, jk, jk, jk, jk, jk, jk, jk, jk, jk, jk, jk, jk, jk, jk, jk, jk, jk, jk, jk, jk, jk, jk, jk, jk, jk, jk, jk, jk, jk, jk, jk, jk, jk, jk, jk, jk, jk, jk, jk, jk, jk, jk, jk, jk, jk, jk, jk, jk, jk, jk, jk, jk] [Blk.mem (CV.pair (CV.int IntKind.i64 p2) (CV.pair (CV.whole (1 : Nat)) (CV.pair (CV.whole (2 : Nat)) (CV.pure Ty.unit PUnit.unit)))), Blk.vec (25 : Nat) (Ty.arr (32 : Nat) (Ty.int IntKind.u8)) p3, Blk.vec (25 : Nat) (Ty.arr (32 : Nat) (Ty.int IntKind.u8)) p4, Blk.mem (CV.pair (CV.int IntKind.i64 p5) (CV.pair (CV.whole (4 : Nat)) (CV.pair (CV.whole (5 : Nat)) (CV.pure Ty.unit PUnit.unit)))), Blk.vec (25 : Nat) (Ty.arr (32 : Nat) (Ty.int IntKind.u8)) p6, Blk.vec (25 : Nat) (Ty.arr (32 : Nat) (Ty.int IntKind.u8)) p7] (0 : Nat)
inductive Sp.E_30_0 where
  | e0 (p2 : Int) (p3 : List (List Int)) (p4 : List (List Int)) (p5 : Int) (p6 : List (List Int)) (p7 : List (List Int))
def Sp.B_30_0 {R : Type} (r : Option Sp.E_30_0) (k0 : (Int) → (List (List Int)) → (List (List Int)) → (Int) → (List (List Int)) → (List (List Int)) → Option R) : Option R := match r with
  | none => none
  | some (.e0 p2 p3 p4 p5 p6 p7) => k0 p2 p3 p4 p5 p6 p7
def Sp.L_30_0 : Nat → (List Int) → (Int) → (Int) → (List (List Int)) → (List (List Int)) → (Int) → (List (List Int)) → (List (List Int)) → Option Sp.E_30_0
  | 0, _, _, _, _, _, _, _, _ => none
  | m + 1, p0, p1, p2, p3, p4, p5, p6, p7 => bif decide (p1 < (69 : Int)) then Sp.B_30_1 (Sp.L_30_1 (4611686018427387904 : Nat) p0 p1 (0 : Int) p2 p3 p4 p5 p6 p7 (List.replicate (32 : Nat) (0 : Int))) fun (y9 : List Int) (y10 y11 : Int) (y12 y13 : List (List Int)) (y14 : Int) (y15 y16 : List (List Int)) (y17 : List Int) => bif decide (y10 < (67 : Int)) then gd (room (List.length y15 + (1 : Nat)) (32 : Nat)) (Sp.L_30_0 m y9 (IntKind.wrap IntKind.i64 (y10 + (1 : Int))) y11 y12 y13 y14 (y15 ++ [y17]) y16) else gd (room (List.length y16 + (1 : Nat)) (32 : Nat)) (Sp.L_30_0 m y9 (IntKind.wrap IntKind.i64 (y10 + (1 : Int))) y11 y12 y13 y14 y15 (y16 ++ [y17])) else some (Sp.E_30_0.e0 p2 p3 p4 p5 p6 p7)
def G_30_0 {R : Type} (p0 : List Int) (p1 : Int) (p2 : Int) (p3 : List (List Int)) (p4 : List (List Int)) (p5 : Int) (p6 : List (List Int)) (p7 : List (List Int)) (k : Ex → St → Option R) : Option R := Sp.B_30_0 (Sp.L_30_0 FU p0 p1 p2 p3 p4 p5 p6 p7) (fun p2 p3 p4 p5 p6 p7 => k (Ex.exit (0 : Nat)) (X_30_0_0 p2 p3 p4 p5 p6 p7))
def o_30_0 {R : Type} (G : (List Int) → (Int) → (Int) → (List (List Int)) → (List (List Int)) → (Int) → (List (List Int)) → (List (List Int)) → (Ex → St → Option R) → Option R) : St → (Ex → St → Option R) → Option R := fun T k => match T.sl.getD 0 .junk, T.sl.getD 2 .junk, T.sl.getD 4 .junk, T.sl.getD 5 .junk, T.hp with
  | CV.pure (Ty.slice (Ty.int IntKind.u32)) p0, CV.ptr (0 : Nat) [], CV.ptr (3 : Nat) [], CV.int IntKind.i64 p1, ((Blk.mem (CV.pair (CV.int IntKind.i64 p2) (CV.pair (CV.whole (1 : Nat)) (CV.pair (CV.whole (2 : Nat)) (CV.pure Ty.unit PUnit.unit))))) :: (Blk.vec (25 : Nat) (Ty.arr (32 : Nat) (Ty.int IntKind.u8)) p3) :: (Blk.vec (25 : Nat) (Ty.arr (32 : Nat) (Ty.int IntKind.u8)) p4) :: (Blk.mem (CV.pair (CV.int IntKind.i64 p5) (CV.pair (CV.whole (4 : Nat)) (CV.pair (CV.whole (5 : Nat)) (CV.pure Ty.unit PUnit.unit))))) :: (Blk.vec (25 : Nat) (Ty.arr (32 : Nat) (Ty.int IntKind.u8)) p6) :: (Blk.vec (25 : Nat) (Ty.arr (32 : Nat) (Ty.int IntKind.u8)) p7) :: []) => gd (shapeOK T 64 [0, 2, 4, 5] (0 : Nat)) (G p0 p1 p2 p3 p4 p5 p6 p7 k)
  | _, _, _, _, _ => none
theorem o_30_0_inv {R : Type} {G : (List Int) → (Int) → (Int) → (List (List Int)) → (List (List Int)) → (Int) → (List (List Int)) → (List (List Int)) → (Ex → St → Option R) → Option R} {T : St} {k : Ex → St → Option R} {r : R} (h : o_30_0 G T k = some r) : ∃ p0 p1 p2 p3 p4 p5 p6 p7, T = T_30_0 p0 p1 p2 p3 p4 p5 p6 p7 ∧ G p0 p1 p2 p3 p4 p5 p6 p7 k = some r := by
  unfold o_30_0 at h
  split at h
  · obtain ⟨hs, h'⟩ := gd_some h
    refine ⟨_, _, _, _, _, _, _, _, (st_of (asg := [(0, _), (2, _), (4, _), (5, _)]) hs ⟨by assumption, by assumption, by assumption, by assumption, trivial⟩ (by assumption)).trans ?_, h'⟩
    kernel_rfl
  · cases h
def O_30_30_1 {R : Type} : St → (Ex → St → Option R) → Option R := fun T k => o_30_1 G_30_1 T k
def O_30_30_0 {R : Type} : St → (Ex → St → Option R) → Option R := fun T k => o_30_0 G_30_0 T k
theorem body_30_1 {R : Type} (K0 : St → Option R) (K1 : Ex → St → Option R) (p0 : List Int) (p1 : Int) (p2 : Int) (p3 : Int) (p4 : List (List Int)) (p5 : List (List Int)) (p6 : Int) (p7 : List (List Int)) (p8 : List (List Int)) (p9 : List Int) : evLB (evCodeL sm_30 FU (ovr noO (evFn sm_30 fns FU 0)) .nil ir30_b1) (St.norm ir30_v1) (T_30_1 p0 p1 p2 p3 p4 p5 p6 p7 p8 p9) K0 K1 =
  bif decide (p2 < (32 : Int)) then gd (inB (IntKind.wrap IntKind.i64 (IntKind.wrap IntKind.i64 ((1 : Int) + IntKind.wrap IntKind.i64 ((8 : Int) * p1)) + IntKind.wrap IntKind.i64 (Int.tdiv p2 (4 : Int)))) (List.length p0)) (gd (decide ((0 : Int) ≤ IntKind.wrap IntKind.u64 (IntKind.wrap IntKind.i64 ((24 : Int) - IntKind.wrap IntKind.i64 (Int.tmod p2 (4 : Int) * (8 : Int)))))) (gd (inB p2 (32 : Nat)) (gd (decide (Int.toNat p2 < (32 : Nat)) && true) (K0 (T_30_1 p0 p1 (IntKind.wrap IntKind.i64 (p2 + (1 : Int))) p3 p4 p5 p6 p7 p8 (List.set p9 (Int.toNat p2) (IntKind.wrap IntKind.u8 (Int.fdiv (List.getD p0 (Int.toNat (IntKind.wrap IntKind.i64 (IntKind.wrap IntKind.i64 ((1 : Int) + IntKind.wrap IntKind.i64 ((8 : Int) * p1)) + IntKind.wrap IntKind.i64 (Int.tdiv p2 (4 : Int))))) (0 : Int)) ((2 : Int) ^ Nat.min (Int.toNat (IntKind.wrap IntKind.u64 (IntKind.wrap IntKind.i64 ((24 : Int) - IntKind.wrap IntKind.i64 (Int.tmod p2 (4 : Int) * (8 : Int)))))) (32 : Nat)))))))))) else K1 (Ex.exit (2 : Nat)) (X_30_1_0 p0 p1 p3 p4 p5 p6 p7 p8 p9) := by kernel_rfl
theorem Bgd_30_1 {R : Type} {c : Bool} {x : Option R} {y : Option Sp.E_30_1} {k0 : (List Int) → (Int) → (Int) → (List (List Int)) → (List (List Int)) → (Int) → (List (List Int)) → (List (List Int)) → (List Int) → Option R} (h : x = Sp.B_30_1 y k0) : gd c x = Sp.B_30_1 (gd c y) k0 := by cases c; rfl; exact h
theorem Bcond_30_1 {R : Type} {c : Bool} {x x' : Option R} {y y' : Option Sp.E_30_1} {k0 : (List Int) → (Int) → (Int) → (List (List Int)) → (List (List Int)) → (Int) → (List (List Int)) → (List (List Int)) → (List Int) → Option R} (h : x = Sp.B_30_1 y k0) (h' : x' = Sp.B_30_1 y' k0) : (bif c then x else x') = Sp.B_30_1 (bif c then y else y') k0 := by cases c; exact h'; exact h
theorem loop_30_1 {R : Type} (k : Ex → St → Option R) : ∀ (m : Nat) (p0 : List Int) (p1 : Int) (p2 : Int) (p3 : Int) (p4 : List (List Int)) (p5 : List (List Int)) (p6 : Int) (p7 : List (List Int)) (p8 : List (List Int)) (p9 : List Int), evLoopN (evCodeL sm_30 FU (ovr noO (evFn sm_30 fns FU 0)) .nil ir30_b1) (St.norm ir30_v1) m (T_30_1 p0 p1 p2 p3 p4 p5 p6 p7 p8 p9) k = Sp.B_30_1 (Sp.L_30_1 m p0 p1 p2 p3 p4 p5 p6 p7 p8 p9) (fun p0 p1 p3 p4 p5 p6 p7 p8 p9 => k (Ex.exit (2 : Nat)) (X_30_1_0 p0 p1 p3 p4 p5 p6 p7 p8 p9))
  | 0, _, _, _, _, _, _, _, _, _, _ => rfl
  | m + 1, p0, p1, p2, p3, p4, p5, p6, p7, p8, p9 => by
    rw [evLoopN_succ, body_30_1, Sp.L_30_1]
    repeat' first | apply Bgd_30_1 | apply Bcond_30_1 | exact loop_30_1 k m _ _ _ _ _ _ _ _ _ _ | rfl
theorem ok_30_1 {R : Type} (T : St) (k : Ex → St → Option R) (r : R) (h0 : o_30_1 G_30_1 T k = some r) : evLoopN (evCode sm_30 FU (evFn sm_30 fns FU 0) ir30_b1) (St.norm ir30_v1) FU T k = some r := by
  obtain ⟨p0, p1, p2, p3, p4, p5, p6, p7, p8, p9, rfl, h⟩ := o_30_1_inv h0
  refine evLoopN_L (t := .nil) noO_ok trivial _ _ _ _ ?_
  rw [loop_30_1]
  exact h
theorem OK_30_30_1 {R : Type} (T : St) (k : Ex → St → Option R) (r : R) (h : O_30_30_1 T k = some r) : evLoopN (evCode sm_30 FU (evFn sm_30 fns FU 0) ir30_b1) (St.norm ir30_v1) FU T k = some r := ok_30_1 T k r h
theorem body_30_0 {R : Type} (K0 : St → Option R) (K1 : Ex → St → Option R) (p0 : List Int) (p1 : Int) (p2 : Int) (p3 : List (List Int)) (p4 : List (List Int)) (p5 : Int) (p6 : List (List Int)) (p7 : List (List Int)) : evLB (evCodeL sm_30 FU (ovr noO (evFn sm_30 fns FU 0)) (ir30_bt0 O_30_30_1) ir30_b0) (St.norm ir30_v0) (T_30_0 p0 p1 p2 p3 p4 p5 p6 p7) K0 K1 =
  bif decide (p1 < (69 : Int)) then Sp.B_30_1 (Sp.L_30_1 (4611686018427387904 : Nat) p0 p1 (0 : Int) p2 p3 p4 p5 p6 p7 (List.replicate (32 : Nat) (0 : Int))) fun (y9 : List Int) (y10 y11 : Int) (y12 y13 : List (List Int)) (y14 : Int) (y15 y16 : List (List Int)) (y17 : List Int) => bif decide (y10 < (67 : Int)) then gd (room (List.length y15 + (1 : Nat)) (32 : Nat)) (K0 (T_30_0 y9 (IntKind.wrap IntKind.i64 (y10 + (1 : Int))) y11 y12 y13 y14 (y15 ++ [y17]) y16)) else gd (room (List.length y16 + (1 : Nat)) (32 : Nat)) (K0 (T_30_0 y9 (IntKind.wrap IntKind.i64 (y10 + (1 : Int))) y11 y12 y13 y14 y15 (y16 ++ [y17]))) else K1 (Ex.exit (0 : Nat)) (X_30_0_0 p2 p3 p4 p5 p6 p7) := by kernel_rfl
theorem Bgd_30_0 {R : Type} {c : Bool} {x : Option R} {y : Option Sp.E_30_0} {k0 : (Int) → (List (List Int)) → (List (List Int)) → (Int) → (List (List Int)) → (List (List Int)) → Option R} (h : x = Sp.B_30_0 y k0) : gd c x = Sp.B_30_0 (gd c y) k0 := by cases c; rfl; exact h
theorem Bcond_30_0 {R : Type} {c : Bool} {x x' : Option R} {y y' : Option Sp.E_30_0} {k0 : (Int) → (List (List Int)) → (List (List Int)) → (Int) → (List (List Int)) → (List (List Int)) → Option R} (h : x = Sp.B_30_0 y k0) (h' : x' = Sp.B_30_0 y' k0) : (bif c then x else x') = Sp.B_30_0 (bif c then y else y') k0 := by cases c; exact h'; exact h
theorem Bin_30_0_30_1 {R : Type} {r : Option Sp.E_30_1} {k0 : (Int) → (List (List Int)) → (List (List Int)) → (Int) → (List (List Int)) → (List (List Int)) → Option R} {f0 : (List Int) → (Int) → (Int) → (List (List Int)) → (List (List Int)) → (Int) → (List (List Int)) → (List (List Int)) → (List Int) → Option R} {g0 : (List Int) → (Int) → (Int) → (List (List Int)) → (List (List Int)) → (Int) → (List (List Int)) → (List (List Int)) → (List Int) → Option Sp.E_30_0} (h0 : ∀ z0 z1 z2 z3 z4 z5 z6 z7 z8, f0 z0 z1 z2 z3 z4 z5 z6 z7 z8 = Sp.B_30_0 (g0 z0 z1 z2 z3 z4 z5 z6 z7 z8) k0) : Sp.B_30_1 r f0 = Sp.B_30_0 (Sp.B_30_1 r g0) k0 := by
  cases r with
  | none => rfl
  | some e => cases e with
    | e0 z0 z1 z2 z3 z4 z5 z6 z7 z8 => exact h0 _ _ _ _ _ _ _ _ _
theorem loop_30_0 {R : Type} (k : Ex → St → Option R) : ∀ (m : Nat) (p0 : List Int) (p1 : Int) (p2 : Int) (p3 : List (List Int)) (p4 : List (List Int)) (p5 : Int) (p6 : List (List Int)) (p7 : List (List Int)), evLoopN (evCodeL sm_30 FU (ovr noO (evFn sm_30 fns FU 0)) (ir30_bt0 O_30_30_1) ir30_b0) (St.norm ir30_v0) m (T_30_0 p0 p1 p2 p3 p4 p5 p6 p7) k = Sp.B_30_0 (Sp.L_30_0 m p0 p1 p2 p3 p4 p5 p6 p7) (fun p2 p3 p4 p5 p6 p7 => k (Ex.exit (0 : Nat)) (X_30_0_0 p2 p3 p4 p5 p6 p7))
  | 0, _, _, _, _, _, _, _, _ => rfl
  | m + 1, p0, p1, p2, p3, p4, p5, p6, p7 => by
    rw [evLoopN_succ, body_30_0, Sp.L_30_0]
    repeat' first | apply Bgd_30_0 | apply Bcond_30_0 | (apply Bin_30_0_30_1 <;> intros) | exact loop_30_0 k m _ _ _ _ _ _ _ _ | rfl
theorem ok_30_0 {R : Type} (T : St) (k : Ex → St → Option R) (r : R) (h0 : o_30_0 G_30_0 T k = some r) : evLoopN (evCode sm_30 FU (evFn sm_30 fns FU 0) ir30_b0) (St.norm ir30_v0) FU T k = some r := by
  obtain ⟨p0, p1, p2, p3, p4, p5, p6, p7, rfl, h⟩ := o_30_0_inv h0
  refine evLoopN_L (t := (ir30_bt0 O_30_30_1)) noO_ok (ir30_bt0ok (fun T k r => OK_30_30_1 T k r)) _ _ _ _ ?_
  rw [loop_30_0]
  exact h
theorem OK_30_30_0 {R : Type} (T : St) (k : Ex → St → Option R) (r : R) (h : O_30_30_0 T k = some r) : evLoopN (evCode sm_30 FU (evFn sm_30 fns FU 0) ir30_b0) (St.norm ir30_v0) FU T k = some r := ok_30_0 T k r h
def F_30 (a0 : (List Int)) : Option ((Int × ((List (List Int)) × ((List (List Int)) × Unit))) × Bool × Unit) :=
  bif (↑(List.length a0) : Int) != (553 : Int) then some (((0 : Int), [], [], PUnit.unit), false, PUnit.unit) else gd (inB (0 : Int) (List.length a0)) (bif decide (List.getD a0 (0 : Nat) (0 : Int) > (3 : Int)) then some (((0 : Int), [], [], PUnit.unit), false, PUnit.unit) else gd (inB (0 : Int) (List.length a0)) (Sp.B_30_0 (Sp.L_30_0 (4611686018427387904 : Nat) a0 (0 : Int) (0 : Int) [] [] (IntKind.wrap IntKind.i64 (List.getD a0 (0 : Nat) (0 : Int))) [] []) fun (y6 : Int) (y7 y8 : List (List Int)) (y9 : Int) (y10 y11 : List (List Int)) => some ((y9, y10, y11, PUnit.unit), true, PUnit.unit)))
theorem fn_30 (a0 : (List Int)) : evFnL sm_30 FU (ovr noO (evFn sm_30 fns FU 0)) (ir30_t O_30_30_0) ir30 (ofH [(.slice (.int .u32))] (a0, ())) [] (pureK [(.pair (.int .i64) (.pair (.slice (.arr 32 (.int .u8))) (.pair (.slice (.arr 32 (.int .u8))) .unit))), .bool]) = F_30 a0 := by kernel_rfl
def Sp.p_30 (a0 : (List Int)) : Bool := (F_30 a0).isSome
def Sp.v_30 (a0 : (List Int)) : (Int × ((List (List Int)) × ((List (List Int)) × Unit))) × Bool × Unit := (F_30 a0).getD (dfH [(.pair (.int .i64) (.pair (.slice (.arr 32 (.int .u8))) (.pair (.slice (.arr 32 (.int .u8))) .unit))), .bool])
def s_30 : Summ := shS [(.slice (.int .u32))] [(.pair (.int .i64) (.pair (.slice (.arr 32 (.int .u8))) (.pair (.slice (.arr 32 (.int .u8))) .unit))), .bool] (fun x => Sp.p_30 x.1) (fun x => Sp.v_30 x.1)
theorem pv_30 (a0 : (List Int)) {y : (Int × ((List (List Int)) × ((List (List Int)) × Unit))) × Bool × Unit} (h : F_30 a0 = some y) : Sp.p_30 a0 = true ∧ Sp.v_30 a0 = y := ⟨by rw [Sp.p_30, h]; rfl, by rw [Sp.v_30, h]; rfl⟩
theorem run_30 (x : HDen [(.slice (.int .u32))]) (y : HDen [(.pair (.int .i64) (.pair (.slice (.arr 32 (.int .u8))) (.pair (.slice (.arr 32 (.int .u8))) .unit))), .bool]) (h : F_30 x.1 = some y) : evFn sm_30 fns FU 1 30 (ofH [(.slice (.int .u32))] x) [] (pureK [(.pair (.int .i64) (.pair (.slice (.arr 32 (.int .u8))) (.pair (.slice (.arr 32 (.int .u8))) .unit))), .bool]) = some y :=
  evFnL_sound (fn := ir30) (t := (ir30_t O_30_30_0)) (o := noO) rfl noO_ok (ir30_tok (fun T k r => OK_30_30_0 T k r)) ((fn_30 _).trans h)
end
end Go.Ev
namespace Go.Ev
open Go
set_option maxRecDepth 100000
set_option maxHeartbeats 4000000
set_option linter.unusedVariables false
noncomputable section

def sm_8 : Nat → Option Summ := fun f => bif Nat.beq f 10 then some s_10 else bif Nat.beq f 21 then some s_21 else bif Nat.beq f 25 then some s_25 else bif Nat.beq f 26 then some s_26 else bif Nat.beq f 27 then some s_27 else bif Nat.beq f 28 then some s_28 else bif Nat.beq f 29 then some s_29 else bif Nat.beq f 30 then some s_30 else none
def T_8_0 (p0 : List Int) : St := St.mk [jk, CV.pure (Ty.slice (Ty.int IntKind.u32)) p0, jk, jk, jk, jk, jk, jk, jk, jk, jk, jk, jk, jk, jk, jk, jk, jk, jk, jk, jk, jk, jk, jk, jk, jk, jk, jk, jk, jk, jk, jk, jk, jk, jk, jk, jk, jk, jk, jk, jk, jk, jk, jk, jk, jk, jk, jk, jk, jk, jk, jk, jk, jk, jk, jk, jk, jk, jk, jk, jk, jk, jk, jk, jk, jk, jk, jk, jk, jk, jk, jk, jk, jk, jk, jk, jk, jk, jk, jk, jk, jk, jk, jk, jk, jk, jk, jk, jk, jk, jk, jk, jk, jk, jk, jk, jk, jk, jk, jk, jk, jk, jk, jk, jk, jk, jk, jk, jk, jk, jk] [] (0 : Nat)
def X_8_0_0 (p0 : List Int) : St := St.mk [jk, jk, jk, jk, CV.bool (Prod.fst (Sp.v_21 (Prod.fst (Sp.v_27 p0)) ((0 : Int), [], [], PUnit.unit))), jk, jk, jk, jk, jk, jk, jk, jk, jk, jk, jk, jk, jk, jk, jk, jk, jk, jk, jk, jk, jk, jk, jk, jk, jk, jk, jk, jk, jk, jk, jk, jk, jk, jk, jk, jk, jk, jk, jk, jk, jk, jk, jk, jk, jk, jk, jk, jk, jk, jk, jk, jk, jk, jk, jk, jk, jk, jk, jk, jk, jk, jk, jk, jk, jk, jk, jk, jk, jk, jk, jk, jk, jk, jk, jk, jk, jk, jk, jk, jk, jk, jk, jk, jk, jk, jk, jk, jk, jk, jk, jk, jk, jk, jk, jk, jk, jk, jk, jk, jk, jk, jk, jk, jk, jk, jk] [] (0 : Nat)
def X_8_0_1 : St := St.mk [jk, jk, jk, jk, CV.bool false, jk, jk, jk, jk, jk, jk, jk, jk, jk, jk, jk, jk, jk, jk, jk, jk, jk, jk, jk, jk, jk, jk, jk, jk, jk, jk, jk, jk, jk, jk, jk, jk, jk, jk, jk, jk, jk, jk, jk, jk, jk, jk, jk, jk, jk, jk, jk, jk, jk, jk, jk, jk, jk, jk, jk, jk, jk, jk, jk, jk, jk, jk, jk, jk, jk, jk, jk, jk, jk, jk, jk, jk, jk, jk, jk, jk, jk, jk, jk, jk, jk, jk, jk, jk, jk, jk, jk, jk, jk, jk, jk, jk, jk, jk, jk, jk, jk, jk, jk, jk, jk, jk, jk, jk, jk, jk] [] (0 : Nat)
def X_8_0_2 (p0 : List Int) : St := St.mk [jk, jk, jk, jk, CV.bool (Prod.fst (Sp.v_28 (Prod.fst (Sp.v_25 (Prod.fst (Sp.v_27 p0)))) p0)), jk, jk, jk, jk, jk, jk, jk, jk, jk, jk, jk, jk, jk, jk, jk, jk, jk, jk, jk, jk, jk, jk, jk, jk, jk, jk, jk, jk, jk, jk, jk, jk, jk, jk, jk, jk, jk, jk, jk, jk, jk, jk, jk, jk, jk, jk, jk, jk, jk, jk, jk, jk, jk, jk, jk, jk, jk, jk, jk, jk, jk, jk, jk, jk, jk, jk, jk, jk, jk, jk, jk, jk, jk, jk, jk, jk, jk, jk, jk, jk, jk, jk, jk, jk, jk, jk, jk, jk, jk, jk, jk, jk, jk, jk, jk, jk, jk, jk, jk, jk, jk, jk, jk, jk, jk, jk] [] (0 : Nat)
inductive Sp.E_8_0 where
  | e0 (p0 : List Int)
  | e1
  | e2 (p0 : List Int)
def Sp.B_8_0 {R : Type} (r : Option Sp.E_8_0) (k0 : (List Int) → Option R) (k1 : Option R) (k2 : (List Int) → Option R) : Option R := match r with
  | none => none
  | some (.e0 p0) => k0 p0
  | some (.e1) => k1
  | some (.e2 p0) => k2 p0
def Sp.J_8_0 (p0 : List Int) : Option Sp.E_8_0 :=
  gd (Sp.p_27 p0) (gd (Sp.p_30 p0) (bif !Prod.fst (Prod.snd (Sp.v_30 p0)) then bif Prod.fst (Prod.snd (Sp.v_27 p0)) == (3 : Int) then gd (Sp.p_21 (Prod.fst (Sp.v_27 p0)) ((0 : Int), [], [], PUnit.unit)) (some (Sp.E_8_0.e0 p0)) else some (Sp.E_8_0.e1) else gd (Sp.p_25 (Prod.fst (Sp.v_27 p0))) (bif Prod.fst (Prod.snd (Sp.v_27 p0)) == (0 : Int) then gd (Sp.p_21 (Prod.fst (Sp.v_27 p0)) (Prod.fst (Sp.v_30 p0))) (bif Prod.fst (Sp.v_21 (Prod.fst (Sp.v_27 p0)) (Prod.fst (Sp.v_30 p0))) then bif Prod.fst (Prod.snd (Sp.v_25 (Prod.fst (Sp.v_27 p0)))) == (0 : Int) then gd (Sp.p_28 (Prod.fst (Sp.v_25 (Prod.fst (Sp.v_27 p0)))) p0) (some (Sp.E_8_0.e2 p0)) else some (Sp.E_8_0.e1) else some (Sp.E_8_0.e1)) else some (Sp.E_8_0.e1))))
def G_8_0 {R : Type} (p0 : List Int) (k : Ex → St → Option R) : Option R := Sp.B_8_0 (Sp.J_8_0 p0) (fun p0 => k Ex.ret (X_8_0_0 p0)) (k Ex.ret (X_8_0_1)) (fun p0 => k Ex.ret (X_8_0_2 p0))
def o_8_0 {R : Type} (G : (List Int) → (Ex → St → Option R) → Option R) : St → (Ex → St → Option R) → Option R := fun T k => match T.sl.getD 1 .junk, T.hp with
  | CV.pure (Ty.slice (Ty.int IntKind.u32)) p0, [] => gd (shapeOK T 111 [1] (0 : Nat)) (G p0 k)
  | _, _ => none
theorem o_8_0_inv {R : Type} {G : (List Int) → (Ex → St → Option R) → Option R} {T : St} {k : Ex → St → Option R} {r : R} (h : o_8_0 G T k = some r) : ∃ p0, T = T_8_0 p0 ∧ G p0 k = some r := by
  unfold o_8_0 at h
  split at h
  · obtain ⟨hs, h'⟩ := gd_some h
    refine ⟨_, (st_of (asg := [(1, _)]) hs ⟨by assumption, trivial⟩ (by assumption)).trans ?_, h'⟩
    kernel_rfl
  · cases h
def O_8_8_0 {R : Type} : St → (Ex → St → Option R) → Option R := fun T k => o_8_0 G_8_0 T k
theorem body_8_0 {R : Type} (K1 : Ex → St → Option R) (p0 : List Int) : evJ (evCodeL sm_8 FU (ovr noO (evFn sm_8 fns FU 0)) .nil ir8_b0) (T_8_0 p0) K1 =
  gd (Sp.p_27 p0) (gd (Sp.p_30 p0) (bif !Prod.fst (Prod.snd (Sp.v_30 p0)) then bif Prod.fst (Prod.snd (Sp.v_27 p0)) == (3 : Int) then gd (Sp.p_21 (Prod.fst (Sp.v_27 p0)) ((0 : Int), [], [], PUnit.unit)) (K1 Ex.ret (X_8_0_0 p0)) else K1 Ex.ret X_8_0_1 else gd (Sp.p_25 (Prod.fst (Sp.v_27 p0))) (bif Prod.fst (Prod.snd (Sp.v_27 p0)) == (0 : Int) then gd (Sp.p_21 (Prod.fst (Sp.v_27 p0)) (Prod.fst (Sp.v_30 p0))) (bif Prod.fst (Sp.v_21 (Prod.fst (Sp.v_27 p0)) (Prod.fst (Sp.v_30 p0))) then bif Prod.fst (Prod.snd (Sp.v_25 (Prod.fst (Sp.v_27 p0)))) == (0 : Int) then gd (Sp.p_28 (Prod.fst (Sp.v_25 (Prod.fst (Sp.v_27 p0)))) p0) (K1 Ex.ret (X_8_0_2 p0)) else K1 Ex.ret X_8_0_1 else K1 Ex.ret X_8_0_1) else K1 Ex.ret X_8_0_1))) := by kernel_rfl
theorem Bgd_8_0 {R : Type} {c : Bool} {x : Option R} {y : Option Sp.E_8_0} {k0 : (List Int) → Option R} {k1 : Option R} {k2 : (List Int) → Option R} (h : x = Sp.B_8_0 y k0 k1 k2) : gd c x = Sp.B_8_0 (gd c y) k0 k1 k2 := by cases c; rfl; exact h
theorem Bcond_8_0 {R : Type} {c : Bool} {x x' : Option R} {y y' : Option Sp.E_8_0} {k0 : (List Int) → Option R} {k1 : Option R} {k2 : (List Int) → Option R} (h : x = Sp.B_8_0 y k0 k1 k2) (h' : x' = Sp.B_8_0 y' k0 k1 k2) : (bif c then x else x') = Sp.B_8_0 (bif c then y else y') k0 k1 k2 := by cases c; exact h'; exact h
theorem loop_8_0 {R : Type} (k : Ex → St → Option R) (p0 : List Int) : evJ (evCodeL sm_8 FU (ovr noO (evFn sm_8 fns FU 0)) .nil ir8_b0) (T_8_0 p0) k = Sp.B_8_0 (Sp.J_8_0 p0) (fun p0 => k Ex.ret (X_8_0_0 p0)) (k Ex.ret (X_8_0_1)) (fun p0 => k Ex.ret (X_8_0_2 p0)) := by
  rw [body_8_0, Sp.J_8_0]
  repeat' first | apply Bgd_8_0 | apply Bcond_8_0 | rfl
theorem ok_8_0 {R : Type} (T : St) (k : Ex → St → Option R) (r : R) (h0 : o_8_0 G_8_0 T k = some r) : evCode sm_8 FU (evFn sm_8 fns FU 0) ir8_b0 T k = some r := by
  obtain ⟨p0, rfl, h⟩ := o_8_0_inv h0
  refine bodyL_sound (t := .nil) noO_ok trivial ((loop_8_0 k _).trans h)
theorem OK_8_8_0 {R : Type} (T : St) (k : Ex → St → Option R) (r : R) (h : O_8_8_0 T k = some r) : evCode sm_8 FU (evFn sm_8 fns FU 0) ir8_b0 T k = some r := ok_8_0 T k r h
def F_8 (a0 : (Int × ((List (List Int)) × ((List (List Int)) × Unit)))) (a1 : (List Int)) : Option (Bool) :=
  gd Sp.p_10 (bif !Prod.fst Sp.v_10 then some false else bif decide ((↑(List.length (Prod.fst (Prod.snd a0))) : Int) > (100 : Int)) then some true else bif decide ((↑(List.length (Prod.fst (Prod.snd (Prod.snd a0)))) : Int) > (100 : Int)) then some true else bif decide ((↑(List.length a1) : Int) > (1000 : Int)) then some true else gd (Sp.p_25 a0) (gd (Sp.p_26 a0) (bif !Prod.fst (Sp.v_26 a0) then bif Prod.fst (Prod.snd (Sp.v_25 a0)) != (1 : Int) then some false else bif (↑(List.length (Prod.fst (Sp.v_25 a0))) : Int) != (0 : Int) then some false else Sp.B_8_0 (Sp.J_8_0 a1) (fun (y24 : List Int) => some (Prod.fst (Sp.v_21 (Prod.fst (Sp.v_27 y24)) ((0 : Int), [], [], PUnit.unit)))) (some false) fun (y25 : List Int) => some (Prod.fst (Sp.v_28 (Prod.fst (Sp.v_25 (Prod.fst (Sp.v_27 y25)))) y25)) else gd (Sp.p_27 (Prod.fst (Sp.v_25 a0))) (bif Prod.fst (Prod.snd (Sp.v_25 a0)) != (0 : Int) then some false else gd (Sp.p_29 a0) (gd (Sp.p_28 (Prod.fst (Sp.v_25 a0)) (Prod.fst (Sp.v_29 a0))) (bif !Prod.fst (Sp.v_28 (Prod.fst (Sp.v_25 a0)) (Prod.fst (Sp.v_29 a0))) then some false else bif Prod.fst (Prod.snd (Sp.v_27 (Prod.fst (Sp.v_25 a0)))) != (0 : Int) then some false else gd (Sp.p_21 (Prod.fst (Sp.v_27 (Prod.fst (Sp.v_25 a0)))) a0) (bif !Prod.fst (Sp.v_21 (Prod.fst (Sp.v_27 (Prod.fst (Sp.v_25 a0)))) a0) then some false else Sp.B_8_0 (Sp.J_8_0 a1) (fun (y26 : List Int) => some (Prod.fst (Sp.v_21 (Prod.fst (Sp.v_27 y26)) ((0 : Int), [], [], PUnit.unit)))) (some false) fun (y27 : List Int) => some (Prod.fst (Sp.v_28 (Prod.fst (Sp.v_25 (Prod.fst (Sp.v_27 y27)))) y27)))))))))
theorem fn_8 (a0 : (Int × ((List (List Int)) × ((List (List Int)) × Unit)))) (a1 : (List Int)) : evFnL sm_8 FU (ovr noO (evFn sm_8 fns FU 0)) (ir8_t O_8_8_0) ir8 (ofH [(.pair (.int .i64) (.pair (.slice (.arr 32 (.int .u8))) (.pair (.slice (.arr 32 (.int .u8))) .unit))), (.slice (.int .u32))] (a0, a1, ())) [] bk = F_8 a0 a1 := by kernel_rfl
theorem run_8 (a0 : (Int × ((List (List Int)) × ((List (List Int)) × Unit)))) (a1 : (List Int)) {b : Bool} (h : F_8 a0 a1 = some b) : evFn sm_8 fns FU 1 8 (ofH [(.pair (.int .i64) (.pair (.slice (.arr 32 (.int .u8))) (.pair (.slice (.arr 32 (.int .u8))) .unit))), (.slice (.int .u32))] (a0, a1, ())) [] bk = some b :=
  evFnL_sound (fn := ir8) (t := (ir8_t O_8_8_0)) (o := noO) rfl noO_ok (ir8_tok (fun T k r => OK_8_8_0 T k r)) ((fn_8 _ _).trans h)
end
end Go.Ev
namespace Go.Proofs
open Go.Shelf
end Go.Proofs
namespace Go.Ev
open Go Go.Proofs Go.RowKit
set_option maxRecDepth 100000
set_option maxHeartbeats 4000000
def smB : Nat → Bool := fun f => [10, 11, 12, 13, 14, 15, 16, 17, 18, 19, 20, 21, 22, 23, 24, 25, 26, 27, 28, 29, 30, 31, 32, 35, 36, 37, 38, 39, 40, 41, 42, 43, 44, 45, 46, 47, 48, 49, 50, 51, 52].contains f
theorem hm0 : Try.prog.follows .mixedOrders = true := by kernel_rfl
theorem key4 : fnKey Try.prog smB 4 = ir4.key := by kernel_rfl
theorem key5 : fnKey Try.prog smB 5 = ir5.key := by kernel_rfl
theorem key7 : fnKey Try.prog smB 7 = ir7.key := by kernel_rfl
theorem key8 : fnKey Try.prog smB 8 = ir8.key := by kernel_rfl
theorem key10 : fnKey Try.prog smB 10 = ir10.key := by kernel_rfl
theorem key11 : fnKey Try.prog smB 11 = ir11.key := by kernel_rfl
theorem key12 : fnKey Try.prog smB 12 = ir12.key := by kernel_rfl
theorem key13 : fnKey Try.prog smB 13 = ir13.key := by kernel_rfl
theorem key14 : fnKey Try.prog smB 14 = ir14.key := by kernel_rfl
theorem key15 : fnKey Try.prog smB 15 = ir15.key := by kernel_rfl
theorem key16 : fnKey Try.prog smB 16 = ir16.key := by kernel_rfl
theorem key17 : fnKey Try.prog smB 17 = ir17.key := by kernel_rfl
theorem key18 : fnKey Try.prog smB 18 = ir18.key := by kernel_rfl
theorem key19 : fnKey Try.prog smB 19 = ir19.key := by kernel_rfl
theorem key20 : fnKey Try.prog smB 20 = ir20.key := by kernel_rfl
theorem key21 : fnKey Try.prog smB 21 = ir21.key := by kernel_rfl
theorem key22 : fnKey Try.prog smB 22 = ir22.key := by kernel_rfl
theorem key23 : fnKey Try.prog smB 23 = ir23.key := by kernel_rfl
theorem key24 : fnKey Try.prog smB 24 = ir24.key := by kernel_rfl
theorem key25 : fnKey Try.prog smB 25 = ir25.key := by kernel_rfl
theorem key26 : fnKey Try.prog smB 26 = ir26.key := by kernel_rfl
theorem key27 : fnKey Try.prog smB 27 = ir27.key := by kernel_rfl
theorem key28 : fnKey Try.prog smB 28 = ir28.key := by kernel_rfl
theorem key29 : fnKey Try.prog smB 29 = ir29.key := by kernel_rfl
theorem key30 : fnKey Try.prog smB 30 = ir30.key := by kernel_rfl
theorem key32 : fnKey Try.prog smB 32 = ir32.key := by kernel_rfl
theorem key33 : fnKey Try.prog smB 33 = ir33.key := by kernel_rfl
theorem key34 : fnKey Try.prog smB 34 = ir34.key := by kernel_rfl
theorem key35 : fnKey Try.prog smB 35 = ir35.key := by kernel_rfl
theorem key36 : fnKey Try.prog smB 36 = ir36.key := by kernel_rfl
theorem key37 : fnKey Try.prog smB 37 = ir37.key := by kernel_rfl
theorem key38 : fnKey Try.prog smB 38 = ir38.key := by kernel_rfl
theorem key39 : fnKey Try.prog smB 39 = ir39.key := by kernel_rfl
theorem key40 : fnKey Try.prog smB 40 = ir40.key := by kernel_rfl
theorem key41 : fnKey Try.prog smB 41 = ir41.key := by kernel_rfl
theorem key42 : fnKey Try.prog smB 42 = ir42.key := by kernel_rfl
theorem key43 : fnKey Try.prog smB 43 = ir43.key := by kernel_rfl
theorem key44 : fnKey Try.prog smB 44 = ir44.key := by kernel_rfl
theorem key45 : fnKey Try.prog smB 45 = ir45.key := by kernel_rfl
theorem key46 : fnKey Try.prog smB 46 = ir46.key := by kernel_rfl
theorem key47 : fnKey Try.prog smB 47 = ir47.key := by kernel_rfl
theorem key48 : fnKey Try.prog smB 48 = ir48.key := by kernel_rfl
theorem key49 : fnKey Try.prog smB 49 = ir49.key := by kernel_rfl
theorem key50 : fnKey Try.prog smB 50 = ir50.key := by kernel_rfl
theorem key51 : fnKey Try.prog smB 51 = ir51.key := by kernel_rfl
theorem key52 : fnKey Try.prog smB 52 = ir52.key := by kernel_rfl
theorem fns_ok : FnsOK Try.prog smB fns := by
  intro f fn h
  unfold fns at h
  split at h
  · simp only [Option.some.injEq] at h; subst h; exact key4
  · simp only [Option.some.injEq] at h; subst h; exact key5
  · simp only [Option.some.injEq] at h; subst h; exact key7
  · simp only [Option.some.injEq] at h; subst h; exact key8
  · simp only [Option.some.injEq] at h; subst h; exact key10
  · simp only [Option.some.injEq] at h; subst h; exact key11
  · simp only [Option.some.injEq] at h; subst h; exact key12
  · simp only [Option.some.injEq] at h; subst h; exact key13
  · simp only [Option.some.injEq] at h; subst h; exact key14
  · simp only [Option.some.injEq] at h; subst h; exact key15
  · simp only [Option.some.injEq] at h; subst h; exact key16
  · simp only [Option.some.injEq] at h; subst h; exact key17
  · simp only [Option.some.injEq] at h; subst h; exact key18
  · simp only [Option.some.injEq] at h; subst h; exact key19
  · simp only [Option.some.injEq] at h; subst h; exact key20
  · simp only [Option.some.injEq] at h; subst h; exact key21
  · simp only [Option.some.injEq] at h; subst h; exact key22
  · simp only [Option.some.injEq] at h; subst h; exact key23
  · simp only [Option.some.injEq] at h; subst h; exact key24
  · simp only [Option.some.injEq] at h; subst h; exact key25
  · simp only [Option.some.injEq] at h; subst h; exact key26
  · simp only [Option.some.injEq] at h; subst h; exact key27
  · simp only [Option.some.injEq] at h; subst h; exact key28
  · simp only [Option.some.injEq] at h; subst h; exact key29
  · simp only [Option.some.injEq] at h; subst h; exact key30
  · simp only [Option.some.injEq] at h; subst h; exact key32
  · simp only [Option.some.injEq] at h; subst h; exact key33
  · simp only [Option.some.injEq] at h; subst h; exact key34
  · simp only [Option.some.injEq] at h; subst h; exact key35
  · simp only [Option.some.injEq] at h; subst h; exact key36
  · simp only [Option.some.injEq] at h; subst h; exact key37
  · simp only [Option.some.injEq] at h; subst h; exact key38
  · simp only [Option.some.injEq] at h; subst h; exact key39
  · simp only [Option.some.injEq] at h; subst h; exact key40
  · simp only [Option.some.injEq] at h; subst h; exact key41
  · simp only [Option.some.injEq] at h; subst h; exact key42
  · simp only [Option.some.injEq] at h; subst h; exact key43
  · simp only [Option.some.injEq] at h; subst h; exact key44
  · simp only [Option.some.injEq] at h; subst h; exact key45
  · simp only [Option.some.injEq] at h; subst h; exact key46
  · simp only [Option.some.injEq] at h; subst h; exact key47
  · simp only [Option.some.injEq] at h; subst h; exact key48
  · simp only [Option.some.injEq] at h; subst h; exact key49
  · simp only [Option.some.injEq] at h; subst h; exact key50
  · simp only [Option.some.injEq] at h; subst h; exact key51
  · simp only [Option.some.injEq] at h; subst h; exact key52
  · cases h
theorem smok_32 : ∀ f s, sm_32 f = some s → SummOK Try.prog f s := by
  intro f s h
  unfold sm_32 at h
  cases h
theorem call_32 {R : Type} (n base : Nat) : CallOK Try.prog base (evFn (R := R) sm_32 fns FU n) := ev_sound hm0 smok_32 (fun f s h => (smok_32 f s h).2.1) fns_ok n
theorem sok_32 : SummOK Try.prog 32 s_32 := summ_shN (by decide) (fun _ => rfl) (fun _ => rfl) (call_32 1) (by kernel_rfl) run_32
theorem smok_47 : ∀ f s, sm_47 f = some s → SummOK Try.prog f s := by
  intro f s h
  unfold sm_47 at h
  cases h
theorem call_47 {R : Type} (n base : Nat) : CallOK Try.prog base (evFn (R := R) sm_47 fns FU n) := ev_sound hm0 smok_47 (fun f s h => (smok_47 f s h).2.1) fns_ok n
theorem sok_47 : SummOK Try.prog 47 s_47 := summ_shN (by decide) (fun _ => rfl) (fun _ => rfl) (call_47 1) (by kernel_rfl) run_47
theorem smok_52 : ∀ f s, sm_52 f = some s → SummOK Try.prog f s := by
  intro f s h
  unfold sm_52 at h
  cases h
theorem call_52 {R : Type} (n base : Nat) : CallOK Try.prog base (evFn (R := R) sm_52 fns FU n) := ev_sound hm0 smok_52 (fun f s h => (smok_52 f s h).2.1) fns_ok n
theorem sok_52 : SummOK Try.prog 52 s_52 := summ_shN (by decide) (fun _ => rfl) (fun _ => rfl) (call_52 1) (by kernel_rfl) run_52
theorem smok_49 : ∀ f s, sm_49 f = some s → SummOK Try.prog f s := by
  intro f s h
  unfold sm_49 at h
  by_cases h52 : f = 52
  · subst h52
    injection h with h
    subst h
    exact sok_52
  rw [nbeq_ne h52, cond_false] at h
  cases h
theorem call_49 {R : Type} (n base : Nat) : CallOK Try.prog base (evFn (R := R) sm_49 fns FU n) := ev_sound hm0 smok_49 (fun f s h => (smok_49 f s h).2.1) fns_ok n
theorem sok_49 : SummOK Try.prog 49 s_49 := summ_shN (by decide) (fun _ => rfl) (fun _ => rfl) (call_49 1) (by kernel_rfl) run_49
theorem smok_11 : ∀ f s, sm_11 f = some s → SummOK Try.prog f s := by
  intro f s h
  unfold sm_11 at h
  by_cases h32 : f = 32
  · subst h32
    injection h with h
    subst h
    exact sok_32
  rw [nbeq_ne h32, cond_false] at h
  by_cases h47 : f = 47
  · subst h47
    injection h with h
    subst h
    exact sok_47
  rw [nbeq_ne h47, cond_false] at h
  by_cases h49 : f = 49
  · subst h49
    injection h with h
    subst h
    exact sok_49
  rw [nbeq_ne h49, cond_false] at h
  cases h
theorem call_11 {R : Type} (n base : Nat) : CallOK Try.prog base (evFn (R := R) sm_11 fns FU n) := ev_sound hm0 smok_11 (fun f s h => (smok_11 f s h).2.1) fns_ok n
theorem sok_11 : SummOK Try.prog 11 s_11 := summ_shN (by decide) (fun _ => rfl) (fun _ => rfl) (call_11 2) (by kernel_rfl) run_11
theorem smok_13 : ∀ f s, sm_13 f = some s → SummOK Try.prog f s := by
  intro f s h
  unfold sm_13 at h
  cases h
theorem call_13 {R : Type} (n base : Nat) : CallOK Try.prog base (evFn (R := R) sm_13 fns FU n) := ev_sound hm0 smok_13 (fun f s h => (smok_13 f s h).2.1) fns_ok n
theorem sok_13 : SummOK Try.prog 13 s_13 := summ_sh (fun _ => rfl) (fun _ => rfl) (call_13 1) (by kernel_rfl) run_13
theorem smok_10 : ∀ f s, sm_10 f = some s → SummOK Try.prog f s := by
  intro f s h
  unfold sm_10 at h
  by_cases h11 : f = 11
  · subst h11
    injection h with h
    subst h
    exact sok_11
  rw [nbeq_ne h11, cond_false] at h
  by_cases h13 : f = 13
  · subst h13
    injection h with h
    subst h
    exact sok_13
  rw [nbeq_ne h13, cond_false] at h
  cases h
theorem call_10 {R : Type} (n base : Nat) : CallOK Try.prog base (evFn (R := R) sm_10 fns FU n) := ev_sound hm0 smok_10 (fun f s h => (smok_10 f s h).2.1) fns_ok n
theorem sok_10 : SummOK Try.prog 10 s_10 := summ_shN (by decide) (fun _ => rfl) (fun _ => rfl) (call_10 1) (by kernel_rfl) run_10
theorem smok_21 : ∀ f s, sm_21 f = some s → SummOK Try.prog f s := by
  intro f s h
  unfold sm_21 at h
  cases h
theorem call_21 {R : Type} (n base : Nat) : CallOK Try.prog base (evFn (R := R) sm_21 fns FU n) := ev_sound hm0 smok_21 (fun f s h => (smok_21 f s h).2.1) fns_ok n
theorem sok_21 : SummOK Try.prog 21 s_21 := summ_shN (by decide) (fun _ => rfl) (fun _ => rfl) (call_21 1) (by kernel_rfl) run_21
theorem smok_38 : ∀ f s, sm_38 f = some s → SummOK Try.prog f s := by
  intro f s h
  unfold sm_38 at h
  cases h
theorem call_38 {R : Type} (n base : Nat) : CallOK Try.prog base (evFn (R := R) sm_38 fns FU n) := ev_sound hm0 smok_38 (fun f s h => (smok_38 f s h).2.1) fns_ok n
theorem sok_38 : SummOK Try.prog 38 s_38 := summ_shN (by decide) (fun _ => rfl) (fun _ => rfl) (call_38 1) (by kernel_rfl) run_38
theorem smok_25 : ∀ f s, sm_25 f = some s → SummOK Try.prog f s := by
  intro f s h
  unfold sm_25 at h
  by_cases h38 : f = 38
  · subst h38
    injection h with h
    subst h
    exact sok_38
  rw [nbeq_ne h38, cond_false] at h
  by_cases h47 : f = 47
  · subst h47
    injection h with h
    subst h
    exact sok_47
  rw [nbeq_ne h47, cond_false] at h
  cases h
theorem call_25 {R : Type} (n base : Nat) : CallOK Try.prog base (evFn (R := R) sm_25 fns FU n) := ev_sound hm0 smok_25 (fun f s h => (smok_25 f s h).2.1) fns_ok n
theorem sok_25 : SummOK Try.prog 25 s_25 := summ_sh (fun _ => rfl) (fun _ => rfl) (call_25 1) (by kernel_rfl) run_25
theorem smok_26 : ∀ f s, sm_26 f = some s → SummOK Try.prog f s := by
  intro f s h
  unfold sm_26 at h
  cases h
theorem call_26 {R : Type} (n base : Nat) : CallOK Try.prog base (evFn (R := R) sm_26 fns FU n) := ev_sound hm0 smok_26 (fun f s h => (smok_26 f s h).2.1) fns_ok n
theorem sok_26 : SummOK Try.prog 26 s_26 := summ_shN (by decide) (fun _ => rfl) (fun _ => rfl) (call_26 1) (by kernel_rfl) run_26
theorem smok_27 : ∀ f s, sm_27 f = some s → SummOK Try.prog f s := by
  intro f s h
  unfold sm_27 at h
  cases h
theorem call_27 {R : Type} (n base : Nat) : CallOK Try.prog base (evFn (R := R) sm_27 fns FU n) := ev_sound hm0 smok_27 (fun f s h => (smok_27 f s h).2.1) fns_ok n
theorem sok_27 : SummOK Try.prog 27 s_27 := summ_sh (fun _ => rfl) (fun _ => rfl) (call_27 2) (by kernel_rfl) run_27
theorem smok_28 : ∀ f s, sm_28 f = some s → SummOK Try.prog f s := by
  intro f s h
  unfold sm_28 at h
  cases h
theorem call_28 {R : Type} (n base : Nat) : CallOK Try.prog base (evFn (R := R) sm_28 fns FU n) := ev_sound hm0 smok_28 (fun f s h => (smok_28 f s h).2.1) fns_ok n
theorem sok_28 : SummOK Try.prog 28 s_28 := summ_shN (by decide) (fun _ => rfl) (fun _ => rfl) (call_28 1) (by kernel_rfl) run_28
theorem smok_48 : ∀ f s, sm_48 f = some s → SummOK Try.prog f s := by
  intro f s h
  unfold sm_48 at h
  cases h
theorem call_48 {R : Type} (n base : Nat) : CallOK Try.prog base (evFn (R := R) sm_48 fns FU n) := ev_sound hm0 smok_48 (fun f s h => (smok_48 f s h).2.1) fns_ok n
theorem sok_48 : SummOK Try.prog 48 s_48 := summ_sh (fun _ => rfl) (fun _ => rfl) (call_48 1) (by kernel_rfl) run_48
theorem smok_29 : ∀ f s, sm_29 f = some s → SummOK Try.prog f s := by
  intro f s h
  unfold sm_29 at h
  by_cases h48 : f = 48
  · subst h48
    injection h with h
    subst h
    exact sok_48
  rw [nbeq_ne h48, cond_false] at h
  cases h
theorem call_29 {R : Type} (n base : Nat) : CallOK Try.prog base (evFn (R := R) sm_29 fns FU n) := ev_sound hm0 smok_29 (fun f s h => (smok_29 f s h).2.1) fns_ok n
theorem sok_29 : SummOK Try.prog 29 s_29 := summ_sh (fun _ => rfl) (fun _ => rfl) (call_29 1) (by kernel_rfl) run_29
theorem smok_30 : ∀ f s, sm_30 f = some s → SummOK Try.prog f s := by
  intro f s h
  unfold sm_30 at h
  cases h
theorem call_30 {R : Type} (n base : Nat) : CallOK Try.prog base (evFn (R := R) sm_30 fns FU n) := ev_sound hm0 smok_30 (fun f s h => (smok_30 f s h).2.1) fns_ok n
theorem sok_30 : SummOK Try.prog 30 s_30 := summ_sh (fun _ => rfl) (fun _ => rfl) (call_30 1) (by kernel_rfl) run_30
theorem smok_8 : ∀ f s, sm_8 f = some s → SummOK Try.prog f s := by
  intro f s h
  unfold sm_8 at h
  by_cases h10 : f = 10
  · subst h10
    injection h with h
    subst h
    exact sok_10
  rw [nbeq_ne h10, cond_false] at h
  by_cases h21 : f = 21
  · subst h21
    injection h with h
    subst h
    exact sok_21
  rw [nbeq_ne h21, cond_false] at h
  by_cases h25 : f = 25
  · subst h25
    injection h with h
    subst h
    exact sok_25
  rw [nbeq_ne h25, cond_false] at h
  by_cases h26 : f = 26
  · subst h26
    injection h with h
    subst h
    exact sok_26
  rw [nbeq_ne h26, cond_false] at h
  by_cases h27 : f = 27
  · subst h27
    injection h with h
    subst h
    exact sok_27
  rw [nbeq_ne h27, cond_false] at h
  by_cases h28 : f = 28
  · subst h28
    injection h with h
    subst h
    exact sok_28
  rw [nbeq_ne h28, cond_false] at h
  by_cases h29 : f = 29
  · subst h29
    injection h with h
    subst h
    exact sok_29
  rw [nbeq_ne h29, cond_false] at h
  by_cases h30 : f = 30
  · subst h30
    injection h with h
    subst h
    exact sok_30
  rw [nbeq_ne h30, cond_false] at h
  cases h
theorem call_8 {R : Type} (n base : Nat) : CallOK Try.prog base (evFn (R := R) sm_8 fns FU n) := ev_sound hm0 smok_8 (fun f s h => (smok_8 f s h).2.1) fns_ok n
end Go.Ev
