/- Helpers: functions of the program as Lean functions, and what they compute. No condition. -/
import Derived.Test.YtpelnohiecgbgaaEvPart2
import Derived.Test.YtpelnohiecgbgaaG8P0
import Derived.Test.YtpelnohiecgbgaaEvPart3
import Derived.Test.YtpelnohiecgbgaaG8P1
set_option maxRecDepth 10000
set_option linter.unusedVariables false
set_option linter.unusedSimpArgs false
namespace Go.Ev
open Go
set_option maxRecDepth 100000
set_option maxHeartbeats 4000000
set_option linter.unusedVariables false
noncomputable section

def sm_35 : Nat → Option Summ := fun f => none
def T_35_0 (p0 : List Int) (p1 : List Int) : St := St.mk [CV.pure (Ty.slice (Ty.int IntKind.u8)) p0, jk, jk, CV.whole (0 : Nat), jk, jk, jk, jk, jk, jk, jk, jk, jk, jk, jk, jk, jk, jk, jk, jk, jk, jk, jk, jk, jk, jk, jk, jk, jk, jk, jk, jk, jk, jk, jk, jk] [Blk.vec (5 : Nat) (Ty.int IntKind.u8) p1] (0 : Nat)
def X_35_0_0 (p0 : List Int) (p1 : List Int) : St := St.mk [CV.pure (Ty.slice (Ty.int IntKind.u8)) p0, jk, jk, CV.whole (0 : Nat), jk, jk, jk, jk, jk, jk, jk, jk, jk, jk, jk, jk, jk, jk, jk, jk, jk, jk, jk, jk, jk, jk, jk, jk, jk, jk, jk, jk, jk, jk, jk, jk] [Blk.vec (5 : Nat) (Ty.int IntKind.u8) p1] (0 : Nat)
inductive Sp.E_35_0 where
  | e0 (p0 : List Int) (p1 : List Int)
def Sp.B_35_0 {R : Type} (r : Option Sp.E_35_0) (k0 : (List Int) → (List Int) → Option R) : Option R := match r with
  | none => none
  | some (.e0 p0 p1) => k0 p0 p1
def Sp.L_35_0 : Nat → (List Int) → (List Int) → Option Sp.E_35_0
  | 0, _, _ => none
  | m + 1, p0, p1 => bif Int.tmod (↑(List.length p1) : Int) (64 : Int) != (56 : Int) then gd (room (List.length p1 + (1 : Nat)) (1 : Nat)) (Sp.L_35_0 m p0 (p1 ++ [(0 : Int)])) else some (Sp.E_35_0.e0 p0 p1)
def G_35_0 {R : Type} (p0 : List Int) (p1 : List Int) (k : Ex → St → Option R) : Option R := Sp.B_35_0 (Sp.L_35_0 FU p0 p1) (fun p0 p1 => k (Ex.exit (0 : Nat)) (X_35_0_0 p0 p1))
def o_35_0 {R : Type} (G : (List Int) → (List Int) → (Ex → St → Option R) → Option R) : St → (Ex → St → Option R) → Option R := fun T k => match T.sl.getD 0 .junk, T.sl.getD 3 .junk, T.hp with
  | CV.pure (Ty.slice (Ty.int IntKind.u8)) p0, CV.whole (0 : Nat), ((Blk.vec (5 : Nat) (Ty.int IntKind.u8) p1) :: []) => gd (shapeOK T 36 [0, 3] (0 : Nat)) (G p0 p1 k)
  | _, _, _ => none
theorem o_35_0_inv {R : Type} {G : (List Int) → (List Int) → (Ex → St → Option R) → Option R} {T : St} {k : Ex → St → Option R} {r : R} (h : o_35_0 G T k = some r) : ∃ p0 p1, T = T_35_0 p0 p1 ∧ G p0 p1 k = some r := by
  unfold o_35_0 at h
  split at h
  · obtain ⟨hs, h'⟩ := gd_some h
    refine ⟨_, _, (st_of (asg := [(0, _), (3, _)]) hs ⟨by assumption, by assumption, trivial⟩ (by assumption)).trans ?_, h'⟩
    kernel_rfl
  · cases h
def T_35_1 (p0 : Int) (p1 : Int) (p2 : List Int) : St := St.mk [jk, jk, jk, CV.whole (0 : Nat), CV.int IntKind.u64 p0, CV.int IntKind.i64 p1, jk, jk, jk, jk, jk, jk, jk, jk, jk, jk, jk, jk, jk, jk, jk, jk, jk, jk, jk, jk, jk, jk, jk, jk, jk, jk, jk, jk, jk, jk] [Blk.vec (5 : Nat) (Ty.int IntKind.u8) p2] (0 : Nat)
def X_35_1_0 (p2 : List Int) : St := St.mk [jk, jk, jk, CV.whole (0 : Nat), jk, jk, jk, jk, jk, jk, jk, jk, jk, jk, jk, jk, jk, jk, jk, jk, jk, jk, jk, jk, jk, jk, jk, jk, jk, jk, jk, jk, jk, jk, jk, jk] [Blk.vec (5 : Nat) (Ty.int IntKind.u8) p2] (0 : Nat)
inductive Sp.E_35_1 where
  | e0 (p2 : List Int)
def Sp.B_35_1 {R : Type} (r : Option Sp.E_35_1) (k0 : (List Int) → Option R) : Option R := match r with
  | none => none
  | some (.e0 p2) => k0 p2
def Sp.L_35_1 : Nat → (Int) → (Int) → (List Int) → Option Sp.E_35_1
  | 0, _, _, _ => none
  | m + 1, p0, p1, p2 => bif decide (p1 ≥ (0 : Int)) then gd (decide ((0 : Int) ≤ IntKind.wrap IntKind.u64 p1)) (gd (room (List.length p2 + (1 : Nat)) (1 : Nat)) (Sp.L_35_1 m p0 (IntKind.wrap IntKind.i64 (p1 - (8 : Int))) (p2 ++ [IntKind.wrap IntKind.u8 (Int.fdiv p0 ((2 : Int) ^ Nat.min (Int.toNat (IntKind.wrap IntKind.u64 p1)) (64 : Nat)))]))) else some (Sp.E_35_1.e0 p2)
def G_35_1 {R : Type} (p0 : Int) (p1 : Int) (p2 : List Int) (k : Ex → St → Option R) : Option R := Sp.B_35_1 (Sp.L_35_1 FU p0 p1 p2) (fun p2 => k (Ex.exit (2 : Nat)) (X_35_1_0 p2))
def o_35_1 {R : Type} (G : (Int) → (Int) → (List Int) → (Ex → St → Option R) → Option R) : St → (Ex → St → Option R) → Option R := fun T k => match T.sl.getD 3 .junk, T.sl.getD 4 .junk, T.sl.getD 5 .junk, T.hp with
  | CV.whole (0 : Nat), CV.int IntKind.u64 p0, CV.int IntKind.i64 p1, ((Blk.vec (5 : Nat) (Ty.int IntKind.u8) p2) :: []) => gd (shapeOK T 36 [3, 4, 5] (0 : Nat)) (G p0 p1 p2 k)
  | _, _, _, _ => none
theorem o_35_1_inv {R : Type} {G : (Int) → (Int) → (List Int) → (Ex → St → Option R) → Option R} {T : St} {k : Ex → St → Option R} {r : R} (h : o_35_1 G T k = some r) : ∃ p0 p1 p2, T = T_35_1 p0 p1 p2 ∧ G p0 p1 p2 k = some r := by
  unfold o_35_1 at h
  split at h
  · obtain ⟨hs, h'⟩ := gd_some h
    refine ⟨_, _, _, (st_of (asg := [(3, _), (4, _), (5, _)]) hs ⟨by assumption, by assumption, by assumption, trivial⟩ (by assumption)).trans ?_, h'⟩
    kernel_rfl
  · cases h
def O_35_35_0 {R : Type} : St → (Ex → St → Option R) → Option R := fun T k => o_35_0 G_35_0 T k
def O_35_35_1 {R : Type} : St → (Ex → St → Option R) → Option R := fun T k => o_35_1 G_35_1 T k
theorem body_35_0 {R : Type} (K0 : St → Option R) (K1 : Ex → St → Option R) (p0 : List Int) (p1 : List Int) : evLB (evCodeL sm_35 FU (ovr noO (evFn sm_35 fns FU 0)) .nil ir35_b0) (St.norm ir35_v0) (T_35_0 p0 p1) K0 K1 =
  bif Int.tmod (↑(List.length p1) : Int) (64 : Int) != (56 : Int) then gd (room (List.length p1 + (1 : Nat)) (1 : Nat)) (K0 (T_35_0 p0 (p1 ++ [(0 : Int)]))) else K1 (Ex.exit (0 : Nat)) (X_35_0_0 p0 p1) := by kernel_rfl
theorem Bgd_35_0 {R : Type} {c : Bool} {x : Option R} {y : Option Sp.E_35_0} {k0 : (List Int) → (List Int) → Option R} (h : x = Sp.B_35_0 y k0) : gd c x = Sp.B_35_0 (gd c y) k0 := by cases c; rfl; exact h
theorem Bcond_35_0 {R : Type} {c : Bool} {x x' : Option R} {y y' : Option Sp.E_35_0} {k0 : (List Int) → (List Int) → Option R} (h : x = Sp.B_35_0 y k0) (h' : x' = Sp.B_35_0 y' k0) : (bif c then x else x') = Sp.B_35_0 (bif c then y else y') k0 := by cases c; exact h'; exact h
theorem loop_35_0 {R : Type} (k : Ex → St → Option R) : ∀ (m : Nat) (p0 : List Int) (p1 : List Int), evLoopN (evCodeL sm_35 FU (ovr noO (evFn sm_35 fns FU 0)) .nil ir35_b0) (St.norm ir35_v0) m (T_35_0 p0 p1) k = Sp.B_35_0 (Sp.L_35_0 m p0 p1) (fun p0 p1 => k (Ex.exit (0 : Nat)) (X_35_0_0 p0 p1))
  | 0, _, _ => rfl
  | m + 1, p0, p1 => by
    rw [evLoopN_succ, body_35_0, Sp.L_35_0]
    repeat' first | apply Bgd_35_0 | apply Bcond_35_0 | exact loop_35_0 k m _ _ | rfl
theorem ok_35_0 {R : Type} (T : St) (k : Ex → St → Option R) (r : R) (h0 : o_35_0 G_35_0 T k = some r) : evLoopN (evCode sm_35 FU (evFn sm_35 fns FU 0) ir35_b0) (St.norm ir35_v0) FU T k = some r := by
  obtain ⟨p0, p1, rfl, h⟩ := o_35_0_inv h0
  refine evLoopN_L (t := .nil) noO_ok trivial _ _ _ _ ?_
  rw [loop_35_0]
  exact h
theorem OK_35_35_0 {R : Type} (T : St) (k : Ex → St → Option R) (r : R) (h : O_35_35_0 T k = some r) : evLoopN (evCode sm_35 FU (evFn sm_35 fns FU 0) ir35_b0) (St.norm ir35_v0) FU T k = some r := ok_35_0 T k r h
theorem body_35_1 {R : Type} (K0 : St → Option R) (K1 : Ex → St → Option R) (p0 : Int) (p1 : Int) (p2 : List Int) : evLB (evCodeL sm_35 FU (ovr noO (evFn sm_35 fns FU 0)) .nil ir35_b1) (St.norm ir35_v1) (T_35_1 p0 p1 p2) K0 K1 =
  bif decide (p1 ≥ (0 : Int)) then gd (decide ((0 : Int) ≤ IntKind.wrap IntKind.u64 p1)) (gd (room (List.length p2 + (1 : Nat)) (1 : Nat)) (K0 (T_35_1 p0 (IntKind.wrap IntKind.i64 (p1 - (8 : Int))) (p2 ++ [IntKind.wrap IntKind.u8 (Int.fdiv p0 ((2 : Int) ^ Nat.min (Int.toNat (IntKind.wrap IntKind.u64 p1)) (64 : Nat)))])))) else K1 (Ex.exit (2 : Nat)) (X_35_1_0 p2) := by kernel_rfl
theorem Bgd_35_1 {R : Type} {c : Bool} {x : Option R} {y : Option Sp.E_35_1} {k0 : (List Int) → Option R} (h : x = Sp.B_35_1 y k0) : gd c x = Sp.B_35_1 (gd c y) k0 := by cases c; rfl; exact h
theorem Bcond_35_1 {R : Type} {c : Bool} {x x' : Option R} {y y' : Option Sp.E_35_1} {k0 : (List Int) → Option R} (h : x = Sp.B_35_1 y k0) (h' : x' = Sp.B_35_1 y' k0) : (bif c then x else x') = Sp.B_35_1 (bif c then y else y') k0 := by cases c; exact h'; exact h
theorem loop_35_1 {R : Type} (k : Ex → St → Option R) : ∀ (m : Nat) (p0 : Int) (p1 : Int) (p2 : List Int), evLoopN (evCodeL sm_35 FU (ovr noO (evFn sm_35 fns FU 0)) .nil ir35_b1) (St.norm ir35_v1) m (T_35_1 p0 p1 p2) k = Sp.B_35_1 (Sp.L_35_1 m p0 p1 p2) (fun p2 => k (Ex.exit (2 : Nat)) (X_35_1_0 p2))
  | 0, _, _, _ => rfl
  | m + 1, p0, p1, p2 => by
    rw [evLoopN_succ, body_35_1, Sp.L_35_1]
    repeat' first | apply Bgd_35_1 | apply Bcond_35_1 | exact loop_35_1 k m _ _ _ | rfl
theorem ok_35_1 {R : Type} (T : St) (k : Ex → St → Option R) (r : R) (h0 : o_35_1 G_35_1 T k = some r) : evLoopN (evCode sm_35 FU (evFn sm_35 fns FU 0) ir35_b1) (St.norm ir35_v1) FU T k = some r := by
  obtain ⟨p0, p1, p2, rfl, h⟩ := o_35_1_inv h0
  refine evLoopN_L (t := .nil) noO_ok trivial _ _ _ _ ?_
  rw [loop_35_1]
  exact h
theorem OK_35_35_1 {R : Type} (T : St) (k : Ex → St → Option R) (r : R) (h : O_35_35_1 T k = some r) : evLoopN (evCode sm_35 FU (evFn sm_35 fns FU 0) ir35_b1) (St.norm ir35_v1) FU T k = some r := ok_35_1 T k r h
def F_35 (a0 : (List Int)) : Option ((List Int) × Unit) :=
  gd (room ((0 : Nat) + List.length a0) (1 : Nat)) (gd (room (List.length ([] ++ a0) + (1 : Nat)) (1 : Nat)) (Sp.B_35_0 (Sp.L_35_0 (4611686018427387904 : Nat) a0 ([] ++ a0 ++ [(128 : Int)])) fun (y3 y4 : List Int) => Sp.B_35_1 (Sp.L_35_1 (4611686018427387904 : Nat) (IntKind.wrap IntKind.u64 (IntKind.wrap IntKind.u64 (↑(List.length y3) : Int) * (8 : Int))) (56 : Int) y4) fun (y5 : List Int) => some (y5, PUnit.unit)))
theorem fn_35 (a0 : (List Int)) : evFnL sm_35 FU (ovr noO (evFn sm_35 fns FU 0)) (ir35_t O_35_35_0 O_35_35_1) ir35 (ofH [(.slice (.int .u8))] (a0, ())) [] (pureK [(.slice (.int .u8))]) = F_35 a0 := by kernel_rfl
def Sp.p_35 (a0 : (List Int)) : Bool := (F_35 a0).isSome
def Sp.v_35 (a0 : (List Int)) : (List Int) × Unit := (F_35 a0).getD (dfH [(.slice (.int .u8))])
def s_35 : Summ := shS [(.slice (.int .u8))] [(.slice (.int .u8))] (fun x => Sp.p_35 x.1) (fun x => Sp.v_35 x.1)
theorem pv_35 (a0 : (List Int)) {y : (List Int) × Unit} (h : F_35 a0 = some y) : Sp.p_35 a0 = true ∧ Sp.v_35 a0 = y := ⟨by rw [Sp.p_35, h]; rfl, by rw [Sp.v_35, h]; rfl⟩
theorem run_35 (x : HDen [(.slice (.int .u8))]) (y : HDen [(.slice (.int .u8))]) (h : F_35 x.1 = some y) : evFn sm_35 fns FU 1 35 (ofH [(.slice (.int .u8))] x) [] (pureK [(.slice (.int .u8))]) = some y :=
  evFnL_sound (fn := ir35) (t := (ir35_t O_35_35_0 O_35_35_1)) (o := noO) rfl noO_ok (ir35_tok (fun T k r => OK_35_35_0 T k r) (fun T k r => OK_35_35_1 T k r)) ((fn_35 _).trans h)
end
end Go.Ev
namespace Go.Ev
open Go
set_option maxRecDepth 100000
set_option maxHeartbeats 4000000
set_option linter.unusedVariables false
noncomputable section

def sm_50 : Nat → Option Summ := fun f => none


def F_50 (a0 : Int) (a1 : Int) : Option (Int × Unit) :=
  gd (decide ((0 : Int) ≤ a1)) (gd (decide ((0 : Int) ≤ IntKind.wrap IntKind.u64 ((32 : Int) - a1))) (some (Sp.orI IntKind.u32 (Int.fdiv a0 ((2 : Int) ^ Nat.min (Int.toNat a1) (32 : Nat))) (IntKind.wrap IntKind.u32 (a0 * (2 : Int) ^ Nat.min (Int.toNat (IntKind.wrap IntKind.u64 ((32 : Int) - a1))) (32 : Nat))), PUnit.unit)))
theorem fn_50 (a0 : Int) (a1 : Int) : evFnL sm_50 FU (ovr noO (evFn sm_50 fns FU 0)) .nil ir50 (ofH [(.int .u32), (.int .u64)] (a0, a1, ())) [] (pureK [(.int .u32)]) = F_50 a0 a1 := by kernel_rfl
def Sp.p_50 (a0 : Int) (a1 : Int) : Bool := (F_50 a0 a1).isSome
def Sp.v_50 (a0 : Int) (a1 : Int) : Int × Unit := (F_50 a0 a1).getD (dfH [(.int .u32)])
def s_50 : Summ := shN [(.int .u32), (.int .u64)] [(.int .u32)] (fun x => Sp.p_50 x.1 x.2.1) (fun x => Sp.v_50 x.1 x.2.1)
theorem pv_50 (a0 : Int) (a1 : Int) {y : Int × Unit} (h : F_50 a0 a1 = some y) : Sp.p_50 a0 a1 = true ∧ Sp.v_50 a0 a1 = y := ⟨by rw [Sp.p_50, h]; rfl, by rw [Sp.v_50, h]; rfl⟩
theorem run_50 (x : HDen [(.int .u32), (.int .u64)]) (y : HDen [(.int .u32)]) (h : F_50 x.1 x.2.1 = some y) : evFn sm_50 fns FU 1 50 (ofH [(.int .u32), (.int .u64)] x) [] (pureK [(.int .u32)]) = some y :=
  evFnL_sound (fn := ir50) (t := .nil) (o := noO) rfl noO_ok trivial ((fn_50 _ _).trans h)
end
end Go.Ev
namespace Go.Ev
open Go
set_option maxRecDepth 100000
set_option maxHeartbeats 4000000
set_option linter.unusedVariables false
noncomputable section

def sm_51 : Nat → Option Summ := fun f => none


def F_51  : Option ((List Int) × Unit) :=
  some ([(1116352408 : Int), (1899447441 : Int), (3049323471 : Int), (3921009573 : Int), (961987163 : Int), (1508970993 : Int), (2453635748 : Int), (2870763221 : Int), (3624381080 : Int), (310598401 : Int), (607225278 : Int), (1426881987 : Int), (1925078388 : Int), (2162078206 : Int), (2614888103 : Int), (3248222580 : Int), (3835390401 : Int), (4022224774 : Int), (264347078 : Int), (604807628 : Int), (770255983 : Int), (1249150122 : Int), (1555081692 : Int), (1996064986 : Int), (2554220882 : Int), (2821834349 : Int), (2952996808 : Int), (3210313671 : Int), (3336571891 : Int), (3584528711 : Int), (113926993 : Int), (338241895 : Int), (666307205 : Int), (773529912 : Int), (1294757372 : Int), (1396182291 : Int), (1695183700 : Int), (1986661051 : Int), (2177026350 : Int), (2456956037 : Int), (2730485921 : Int), (2820302411 : Int), (3259730800 : Int), (3345764771 : Int), (3516065817 : Int), (3600352804 : Int), (4094571909 : Int), (275423344 : Int), (430227734 : Int), (506948616 : Int), (659060556 : Int), (883997877 : Int), (958139571 : Int), (1322822218 : Int), (1537002063 : Int), (1747873779 : Int), (1955562222 : Int), (2024104815 : Int), (2227730452 : Int), (2361852424 : Int), (2428436474 : Int), (2756734187 : Int), (3204031479 : Int), (3329325298 : Int)], PUnit.unit)
theorem fn_51  : evFnL sm_51 FU (ovr noO (evFn sm_51 fns FU 0)) .nil ir51 (ofH [] (())) [] (pureK [(.arr 64 (.int .u32))]) = F_51 := by kernel_rfl
def Sp.p_51  : Bool := (F_51).isSome
def Sp.v_51  : (List Int) × Unit := (F_51).getD (dfH [(.arr 64 (.int .u32))])
def s_51 : Summ := shN [] [(.arr 64 (.int .u32))] (fun x => Sp.p_51 ) (fun x => Sp.v_51 )
theorem pv_51  {y : (List Int) × Unit} (h : F_51 = some y) : Sp.p_51 = true ∧ Sp.v_51 = y := ⟨by rw [Sp.p_51, h]; rfl, by rw [Sp.v_51, h]; rfl⟩
theorem run_51 (x : HDen []) (y : HDen [(.arr 64 (.int .u32))]) (h : F_51  = some y) : evFn sm_51 fns FU 1 51 (ofH [] x) [] (pureK [(.arr 64 (.int .u32))]) = some y :=
  evFnL_sound (fn := ir51) (t := .nil) (o := noO) rfl noO_ok trivial ((fn_51).trans h)
end
end Go.Ev
namespace Go.Ev
open Go
set_option maxRecDepth 100000
set_option maxHeartbeats 4000000
set_option linter.unusedVariables false
noncomputable section

def sm_36 : Nat → Option Summ := fun f => bif Nat.beq f 50 then some s_50 else bif Nat.beq f 51 then some s_51 else none
def T_36_0 (p0 : List Int) (p1 : Int) (p2 : List Int) (p3 : List Int) (p4 : List Int) : St := St.mk [jk, CV.pure (Ty.slice (Ty.int IntKind.u8)) p0, CV.ptr (0 : Nat) [], jk, CV.ptr (1 : Nat) [], CV.ptr (2 : Nat) [], CV.int IntKind.i64 p1, jk, jk, jk, jk, jk, jk, jk, jk, jk, jk, jk, jk, jk, jk, jk, jk, jk, jk, jk, jk, jk, jk, jk, jk, jk, jk, jk, jk, jk, jk, jk, jk, jk, jk, jk, jk, jk, jk, jk, jk, jk, jk, jk, jk, jk, jk, jk, jk, jk, jk, jk, jk, jk, jk, jk, jk, jk, jk, jk, jk, jk, jk, jk, jk, jk, jk, jk, jk, jk, jk, jk, jk, jk, jk, jk, jk, jk, jk, jk, jk, jk, jk, jk, jk, jk, jk, jk, jk, jk, jk, jk, jk, jk, jk, jk, jk, jk, jk, jk, jk, jk, jk, jk, jk, jk, jk, jk, jk, jk, jk, jk, jk, jk, jk, jk, jk, jk, jk, jk, jk, jk, jk, jk, jk, jk, jk, jk, jk, jk, jk, jk, jk, jk, jk, jk, jk, jk, jk, jk, jk, jk, jk, jk, jk, jk, jk, jk, jk, jk, jk, jk, jk, jk, jk, jk, jk, jk, jk, jk, jk, jk, jk, jk, jk, jk, jk, jk, jk, jk, jk, jk, jk, jk, jk, jk, jk, jk, jk, jk, jk, jk, jk, jk, jk, jk, jk, jk, jk, jk] [Blk.mem (CV.pure (Ty.arr (8 : Nat) (Ty.int IntKind.u32)) p2), Blk.mem (CV.pure (Ty.arr (8 : Nat) (Ty.int IntKind.u32)) p3), Blk.mem (CV.pure (Ty.arr (64 : Nat) (Ty.int IntKind.u32)) p4)] (0 : Nat)
def X_36_0_0 (p2 : List Int) (p3 : List Int) (p4 : List Int) : St := St.mk [jk, jk, CV.ptr (0 : Nat) [], jk, CV.ptr (1 : Nat) [], CV.ptr (2 : Nat) [], jk, jk, jk, jk, jk, jk, jk, jk, jk, jk, jk, jk, jk, jk, jk, jk, jk, jk, jk, jk, jk, jk, jk, jk, jk, jk, jk, jk, jk, jk, jk, jk, jk, jk, jk, jk, jk, jk, jk, jk, jk, jk, jk, jk, jk, jk, jk, jk, jk, jk, jk, jk, jk, jk, jk, jk, jk, jk, jk, jk, jk, jk, jk, jk, jk, jk, jk, jk, jk, jk, jk, jk, jk, jk, jk, jk, jk, jk, jk, jk, jk, jk, jk, jk, jk, jk, jk, jk, jk, jk, jk, jk, jk, jk, jk, jk, jk, jk, jk, jk, jk, jk, jk, jk, jk, jk, jk, jk, jk, jk, jk, jk, jk, jk, jk, jk, jk, jk, jk, jk, jk, jk, jk, jk, jk, jk, jk, jk, jk, jk, jk, jk, jk, jk, jk, jk, jk, jk, jk, jk, jk, jk, jk, jk, jk, jk, jk, jk, jk, jk, jk, jk, jk, jk, jk, jk, jk, jk, jk, jk, jk, jk, jk, jk, jk, jk, jk, jk, jk, jk, jk, jk, jk, jk, jk, jk, jk, jk, jk, jk, jk, jk, jk, jk, jk, jk, jk, jk, jk, jk] [Blk.mem (CV.pure (Ty.arr (8 : Nat) (Ty.int IntKind.u32)) p2), Blk.mem (CV.pure (Ty.arr (8 : Nat) (Ty.int IntKind.u32)) p3), Blk.mem (CV.pure (Ty.arr (64 : Nat) (Ty.int IntKind.u32)) p4)] (0 : Nat)
inductive Sp.E_36_0 where
  | e0 (p2 : List Int) (p3 : List Int) (p4 : List Int)
def Sp.B_36_0 {R : Type} (r : Option Sp.E_36_0) (k0 : (List Int) → (List Int) → (List Int) → Option R) : Option R := match r with
  | none => none
  | some (.e0 p2 p3 p4) => k0 p2 p3 p4
def Sp.L_36_0 : Nat → (List Int) → (Int) → (List Int) → (List Int) → (List Int) → Option Sp.E_36_0
  | 0, _, _, _, _, _ => none
  | m + 1, p0, p1, p2, p3, p4 => bif decide (p1 < (16 : Int)) then gd (inB (IntKind.wrap IntKind.i64 ((4 : Int) * p1)) (List.length p0)) (gd (inB (IntKind.wrap IntKind.i64 (IntKind.wrap IntKind.i64 ((4 : Int) * p1) + (1 : Int))) (List.length p0)) (gd (inB (IntKind.wrap IntKind.i64 (IntKind.wrap IntKind.i64 ((4 : Int) * p1) + (2 : Int))) (List.length p0)) (gd (inB (IntKind.wrap IntKind.i64 (IntKind.wrap IntKind.i64 ((4 : Int) * p1) + (3 : Int))) (List.length p0)) (gd (inB p1 (64 : Nat)) (gd (decide (Int.toNat p1 < (64 : Nat)) && true) (Sp.L_36_0 m p0 (IntKind.wrap IntKind.i64 (p1 + (1 : Int))) p2 p3 (List.set p4 (Int.toNat p1) (Sp.orI IntKind.u32 (Sp.orI IntKind.u32 (Sp.orI IntKind.u32 (IntKind.wrap IntKind.u32 (IntKind.wrap IntKind.u32 (List.getD p0 (Int.toNat (IntKind.wrap IntKind.i64 ((4 : Int) * p1))) (0 : Int)) * (16777216 : Int))) (IntKind.wrap IntKind.u32 (IntKind.wrap IntKind.u32 (List.getD p0 (Int.toNat (IntKind.wrap IntKind.i64 (IntKind.wrap IntKind.i64 ((4 : Int) * p1) + (1 : Int)))) (0 : Int)) * (65536 : Int)))) (IntKind.wrap IntKind.u32 (IntKind.wrap IntKind.u32 (List.getD p0 (Int.toNat (IntKind.wrap IntKind.i64 (IntKind.wrap IntKind.i64 ((4 : Int) * p1) + (2 : Int)))) (0 : Int)) * (256 : Int)))) (IntKind.wrap IntKind.u32 (List.getD p0 (Int.toNat (IntKind.wrap IntKind.i64 (IntKind.wrap IntKind.i64 ((4 : Int) * p1) + (3 : Int)))) (0 : Int))))))))))) else some (Sp.E_36_0.e0 p2 p3 p4)
def G_36_0 {R : Type} (p0 : List Int) (p1 : Int) (p2 : List Int) (p3 : List Int) (p4 : List Int) (k : Ex → St → Option R) : Option R := Sp.B_36_0 (Sp.L_36_0 FU p0 p1 p2 p3 p4) (fun p2 p3 p4 => k (Ex.exit (0 : Nat)) (X_36_0_0 p2 p3 p4))
def o_36_0 {R : Type} (G : (List Int) → (Int) → (List Int) → (List Int) → (List Int) → (Ex → St → Option R) → Option R) : St → (Ex → St → Option R) → Option R := fun T k => match T.sl.getD 1 .junk, T.sl.getD 2 .junk, T.sl.getD 4 .junk, T.sl.getD 5 .junk, T.sl.getD 6 .junk, T.hp with
  | CV.pure (Ty.slice (Ty.int IntKind.u8)) p0, CV.ptr (0 : Nat) [], CV.ptr (1 : Nat) [], CV.ptr (2 : Nat) [], CV.int IntKind.i64 p1, ((Blk.mem (CV.pure (Ty.arr (8 : Nat) (Ty.int IntKind.u32)) p2)) :: (Blk.mem (CV.pure (Ty.arr (8 : Nat) (Ty.int IntKind.u32)) p3)) :: (Blk.mem (CV.pure (Ty.arr (64 : Nat) (Ty.int IntKind.u32)) p4)) :: []) => gd (shapeOK T 196 [1, 2, 4, 5, 6] (0 : Nat)) (G p0 p1 p2 p3 p4 k)
  | _, _, _, _, _, _ => none
theorem o_36_0_inv {R : Type} {G : (List Int) → (Int) → (List Int) → (List Int) → (List Int) → (Ex → St → Option R) → Option R} {T : St} {k : Ex → St → Option R} {r : R} (h : o_36_0 G T k = some r) : ∃ p0 p1 p2 p3 p4, T = T_36_0 p0 p1 p2 p3 p4 ∧ G p0 p1 p2 p3 p4 k = some r := by
  unfold o_36_0 at h
  split at h
  · obtain ⟨hs, h'⟩ := gd_some h
    refine ⟨_, _, _, _, _, (st_of (asg := [(1, _), (2, _), (4, _), (5, _), (6, _)]) hs ⟨by assumption, by assumption, by assumption, by assumption, by assumption, trivial⟩ (by assumption)).trans ?_, h'⟩
    kernel_rfl
  · cases h
def T_36_1 (p0 : Int) (p1 : List Int) (p2 : List Int) (p3 : List Int) : St := St.mk [jk, jk, CV.ptr (0 : Nat) [], jk, CV.ptr (1 : Nat) [], CV.ptr (2 : Nat) [], jk, CV.int IntKind.i64 p0, jk, jk, jk, jk, jk, jk, jk, jk, jk, jk, jk, jk, jk, jk, jk, jk, jk, jk, jk, jk, jk, jk, jk, jk, jk, jk, jk, jk, jk, jk, jk, jk, jk, jk, jk, jk, jk, jk, jk, jk, jk, jk, jk, jk, jk, jk, jk, jk, jk, jk, jk, jk, jk, jk, jk, jk, jk, jk, jk, jk, jk, jk, jk, jk, jk, jk, jk, jk, jk, jk, jk, jk, jk, jk, jk, jk, jk, jk, jk, jk, jk, jk, jk, jk, jk, jk, jk, jk, jk, jk, jk, jk, jk, jk, jk, jk, jk, jk, jk, jk, jk, jk, jk, jk, jk, jk, jk, jk, jk, jk, jk, jk, jk, jk, jk, jk, jk, jk, jk, jk, jk, jk, jk, jk, jk, jk, jk, jk, jk, jk, jk, jk, jk, jk, jk, jk, jk, jk, jk, jk, jk, jk, jk, jk, jk, jk, jk, jk, jk, jk, jk, jk, jk, jk, jk, jk, jk, jk, jk, jk, jk, jk, jk, jk, jk, jk, jk, jk, jk, jk, jk, jk, jk, jk, jk, jk, jk, jk, jk, jk, jk, jk, jk, jk, jk, jk, jk, jk] [Blk.mem (CV.pure (Ty.arr (8 : Nat) (Ty.int IntKind.u32)) p1), Blk.mem (CV.pure (Ty.arr (8 : Nat) (Ty.int IntKind.u32)) p2), Blk.mem (CV.pure (Ty.arr (64 : Nat) (Ty.int IntKind.u32)) p3)] (0 : Nat)
def X_36_1_0 (p1 : List Int) (p2 : List Int) (p3 : List Int) : St := St.mk [jk, jk, CV.ptr (0 : Nat) [], jk, CV.ptr (1 : Nat) [], CV.ptr (2 : Nat) [], jk, jk, jk, jk, jk, jk, jk, jk, jk, jk, jk, jk, jk, jk, jk, jk, jk, jk, jk, jk, jk, jk, jk, jk, jk, jk, jk, jk, jk, jk, jk, jk, jk, jk, jk, jk, jk, jk, jk, jk, jk, jk, jk, jk, jk, jk, jk, jk, jk, jk, jk, jk, jk, jk, jk, jk, jk, jk, jk, jk, jk, jk, jk, jk, jk, jk, jk, jk, jk, jk, jk, jk, jk, jk, jk, jk, jk, jk, jk, jk, jk, jk, jk, jk, jk, jk, jk, jk, jk, jk, jk, jk, jk, jk, jk, jk, jk, jk, jk, jk, jk, jk, jk, jk, jk, jk, jk, jk, jk, jk, jk, jk, jk, jk, jk, jk, jk, jk, jk, jk, jk, jk, jk, jk, jk, jk, jk, jk, jk, jk, jk, jk, jk, jk, jk, jk, jk, jk, jk, jk, jk, jk, jk, jk, jk, jk, jk, jk, jk, jk, jk, jk, jk, jk, jk, jk, jk, jk, jk, jk, jk, jk, jk, jk, jk, jk, jk, jk, jk, jk, jk, jk, jk, jk, jk, jk, jk, jk, jk, jk, jk, jk, jk, jk, jk, jk, jk, jk, jk, jk] [Blk.mem (CV.pure (Ty.arr (8 : Nat) (Ty.int IntKind.u32)) p1), Blk.mem (CV.pure (Ty.arr (8 : Nat) (Ty.int IntKind.u32)) p2), Blk.mem (CV.pure (Ty.arr (64 : Nat) (Ty.int IntKind.u32)) p3)] (0 : Nat)
inductive Sp.E_36_1 where
  | e0 (p1 : List Int) (p2 : List Int) (p3 : List Int)
def Sp.B_36_1 {R : Type} (r : Option Sp.E_36_1) (k0 : (List Int) → (List Int) → (List Int) → Option R) : Option R := match r with
  | none => none
  | some (.e0 p1 p2 p3) => k0 p1 p2 p3
def Sp.L_36_1 : Nat → (Int) → (List Int) → (List Int) → (List Int) → Option Sp.E_36_1
  | 0, _, _, _, _ => none
  | m + 1, p0, p1, p2, p3 => bif decide (p0 < (64 : Int)) then gd (inB (IntKind.wrap IntKind.i64 (p0 - (15 : Int))) (64 : Nat)) (gd (decide (Int.toNat (IntKind.wrap IntKind.i64 (p0 - (15 : Int))) < (64 : Nat)) && true) (gd (inB (IntKind.wrap IntKind.i64 (p0 - (2 : Int))) (64 : Nat)) (gd (decide (Int.toNat (IntKind.wrap IntKind.i64 (p0 - (2 : Int))) < (64 : Nat)) && true) (gd (Sp.p_50 (List.getD p3 (Int.toNat (IntKind.wrap IntKind.i64 (p0 - (2 : Int)))) (0 : Int)) (17 : Int)) (gd (Sp.p_50 (List.getD p3 (Int.toNat (IntKind.wrap IntKind.i64 (p0 - (2 : Int)))) (0 : Int)) (19 : Int)) (gd (inB (IntKind.wrap IntKind.i64 (p0 - (7 : Int))) (64 : Nat)) (gd (decide (Int.toNat (IntKind.wrap IntKind.i64 (p0 - (7 : Int))) < (64 : Nat)) && true) (gd (Sp.p_50 (List.getD p3 (Int.toNat (IntKind.wrap IntKind.i64 (p0 - (15 : Int)))) (0 : Int)) (7 : Int)) (gd (Sp.p_50 (List.getD p3 (Int.toNat (IntKind.wrap IntKind.i64 (p0 - (15 : Int)))) (0 : Int)) (18 : Int)) (gd (inB (IntKind.wrap IntKind.i64 (p0 - (16 : Int))) (64 : Nat)) (gd (decide (Int.toNat (IntKind.wrap IntKind.i64 (p0 - (16 : Int))) < (64 : Nat)) && true) (gd (inB p0 (64 : Nat)) (gd (decide (Int.toNat p0 < (64 : Nat)) && true) (Sp.L_36_1 m (IntKind.wrap IntKind.i64 (p0 + (1 : Int))) p1 p2 (List.set p3 (Int.toNat p0) (IntKind.wrap IntKind.u32 (IntKind.wrap IntKind.u32 (IntKind.wrap IntKind.u32 (Sp.xorI IntKind.u32 (Sp.xorI IntKind.u32 (Prod.fst (Sp.v_50 (List.getD p3 (Int.toNat (IntKind.wrap IntKind.i64 (p0 - (2 : Int)))) (0 : Int)) (17 : Int))) (Prod.fst (Sp.v_50 (List.getD p3 (Int.toNat (IntKind.wrap IntKind.i64 (p0 - (2 : Int)))) (0 : Int)) (19 : Int)))) (Int.fdiv (List.getD p3 (Int.toNat (IntKind.wrap IntKind.i64 (p0 - (2 : Int)))) (0 : Int)) (1024 : Int)) + List.getD p3 (Int.toNat (IntKind.wrap IntKind.i64 (p0 - (7 : Int)))) (0 : Int)) + Sp.xorI IntKind.u32 (Sp.xorI IntKind.u32 (Prod.fst (Sp.v_50 (List.getD p3 (Int.toNat (IntKind.wrap IntKind.i64 (p0 - (15 : Int)))) (0 : Int)) (7 : Int))) (Prod.fst (Sp.v_50 (List.getD p3 (Int.toNat (IntKind.wrap IntKind.i64 (p0 - (15 : Int)))) (0 : Int)) (18 : Int)))) (Int.fdiv (List.getD p3 (Int.toNat (IntKind.wrap IntKind.i64 (p0 - (15 : Int)))) (0 : Int)) (8 : Int))) + List.getD p3 (Int.toNat (IntKind.wrap IntKind.i64 (p0 - (16 : Int)))) (0 : Int)))))))))))))))))) else some (Sp.E_36_1.e0 p1 p2 p3)
def G_36_1 {R : Type} (p0 : Int) (p1 : List Int) (p2 : List Int) (p3 : List Int) (k : Ex → St → Option R) : Option R := Sp.B_36_1 (Sp.L_36_1 FU p0 p1 p2 p3) (fun p1 p2 p3 => k (Ex.exit (2 : Nat)) (X_36_1_0 p1 p2 p3))
def o_36_1 {R : Type} (G : (Int) → (List Int) → (List Int) → (List Int) → (Ex → St → Option R) → Option R) : St → (Ex → St → Option R) → Option R := fun T k => match T.sl.getD 2 .junk, T.sl.getD 4 .junk, T.sl.getD 5 .junk, T.sl.getD 7 .junk, T.hp with
  | CV.ptr (0 : Nat) [], CV.ptr (1 : Nat) [], CV.ptr (2 : Nat) [], CV.int IntKind.i64 p0, ((Blk.mem (CV.pure (Ty.arr (8 : Nat) (Ty.int IntKind.u32)) p1)) :: (Blk.mem (CV.pure (Ty.arr (8 : Nat) (Ty.int IntKind.u32)) p2)) :: (Blk.mem (CV.pure (Ty.arr (64 : Nat) (Ty.int IntKind.u32)) p3)) :: []) => gd (shapeOK T 196 [2, 4, 5, 7] (0 : Nat)) (G p0 p1 p2 p3 k)
  | _, _, _, _, _ => none
theorem o_36_1_inv {R : Type} {G : (Int) → (List Int) → (List Int) → (List Int) → (Ex → St → Option R) → Option R} {T : St} {k : Ex → St → Option R} {r : R} (h : o_36_1 G T k = some r) : ∃ p0 p1 p2 p3, T = T_36_1 p0 p1 p2 p3 ∧ G p0 p1 p2 p3 k = some r := by
  unfold o_36_1 at h
  split at h
  · obtain ⟨hs, h'⟩ := gd_some h
    refine ⟨_, _, _, _, (st_of (asg := [(2, _), (4, _), (5, _), (7, _)]) hs ⟨by assumption, by assumption, by assumption, by assumption, trivial⟩ (by assumption)).trans ?_, h'⟩
    kernel_rfl
  · cases h
def T_36_2 (p0 : Int) (p1 : List Int) (p2 : List Int) (p3 : List Int) (p4 : List Int) (p5 : List Int) : St := St.mk [jk, jk, CV.ptr (0 : Nat) [], jk, CV.ptr (1 : Nat) [], CV.ptr (2 : Nat) [], jk, jk, jk, jk, CV.ptr (3 : Nat) [], CV.ptr (4 : Nat) [], CV.int IntKind.i64 p0, jk, jk, jk, jk, jk, jk, jk, jk, jk, jk, jk, jk, jk, jk, jk, jk, jk, jk, jk, jk, jk, jk, jk, jk, jk, jk, jk, jk, jk, jk, jk, jk, jk, jk, jk, jk, jk, jk, jk, jk, jk, jk, jk, jk, jk, jk, jk, jk, jk, jk, jk, jk, jk, jk, jk, jk, jk, jk, jk, jk, jk, jk, jk, jk, jk, jk, jk, jk, jk, jk, jk, jk, jk, jk, jk, jk, jk, jk, jk, jk, jk, jk, jk, jk, jk, jk, jk, jk, jk, jk, jk, jk, jk, jk, jk, jk, jk, jk, jk, jk, jk, jk, jk, jk, jk, jk, jk, jk, jk, jk, jk, jk, jk, jk, jk, jk, jk, jk, jk, jk, jk, jk, jk, jk, jk, jk, jk, jk, jk, jk, jk, jk, jk, jk, jk, jk, jk, jk, jk, jk, jk, jk, jk, jk, jk, jk, jk, jk, jk, jk, jk, jk, jk, jk, jk, jk, jk, jk, jk, jk, jk, jk, jk, jk, jk, jk, jk, jk, jk, jk, jk, jk, jk, jk, jk, jk, jk, jk, jk, jk, jk, jk, jk] [Blk.mem (CV.pure (Ty.arr (8 : Nat) (Ty.int IntKind.u32)) p1), Blk.mem (CV.pure (Ty.arr (8 : Nat) (Ty.int IntKind.u32)) p2), Blk.mem (CV.pure (Ty.arr (64 : Nat) (Ty.int IntKind.u32)) p3), Blk.mem (CV.pure (Ty.arr (64 : Nat) (Ty.int IntKind.u32)) p4), Blk.mem (CV.pure (Ty.arr (8 : Nat) (Ty.int IntKind.u32)) p5)] (0 : Nat)
def X_36_2_0 (p1 : List Int) (p2 : List Int) (p5 : List Int) : St := St.mk [jk, jk, CV.ptr (0 : Nat) [], jk, CV.ptr (1 : Nat) [], jk, jk, jk, jk, jk, jk, CV.ptr (2 : Nat) [], jk, jk, jk, jk, jk, jk, jk, jk, jk, jk, jk, jk, jk, jk, jk, jk, jk, jk, jk, jk, jk, jk, jk, jk, jk, jk, jk, jk, jk, jk, jk, jk, jk, jk, jk, jk, jk, jk, jk, jk, jk, jk, jk, jk, jk, jk, jk, jk, jk, jk, jk, jk, jk, jk, jk, jk, jk, jk, jk, jk, jk, jk, jk, jk, jk, jk, jk, jk, jk, jk, jk, jk, jk, jk, jk, jk, jk, jk, jk, jk, jk, jk, jk, jk, jk, jk, jk, jk, jk, jk, jk, jk, jk, jk, jk, jk, jk, jk, jk, jk, jk, jk, jk, jk, jk, jk, jk, jk, jk, jk, jk, jk, jk, jk, jk, jk, jk, jk, jk, jk, jk, jk, jk, jk, jk, jk, jk, jk, jk, jk, jk, jk, jk, jk, jk, jk, jk, jk, jk, jk, jk, jk, jk, jk, jk, jk, jk, jk, jk, jk, jk, jk, jk, jk, jk, jk, jk, jk, jk, jk, jk, jk, jk, jk, jk, jk, jk, jk, jk, jk, jk, jk, jk, jk, jk, jk, jk, jk, jk, jk, jk, jk, jk, jk] [Blk.mem (CV.pure (Ty.arr (8 : Nat) (Ty.int IntKind.u32)) p1), Blk.mem (CV.pure (Ty.arr (8 : Nat) (Ty.int IntKind.u32)) p2), Blk.mem (CV.pure (Ty.arr (8 : Nat) (Ty.int IntKind.u32)) p5)] (0 : Nat)
inductive Sp.E_36_2 where
  | e0 (p1 : List Int) (p2 : List Int) (p5 : List Int)
def Sp.B_36_2 {R : Type} (r : Option Sp.E_36_2) (k0 : (List Int) → (List Int) → (List Int) → Option R) : Option R := match r with
  | none => none
  | some (.e0 p1 p2 p5) => k0 p1 p2 p5
def Sp.L_36_2 : Nat → (Int) → (List Int) → (List Int) → (List Int) → (List Int) → (List Int) → Option Sp.E_36_2
  | 0, _, _, _, _, _, _ => none
  | m + 1, p0, p1, p2, p3, p4, p5 => bif decide (p0 < (64 : Int)) then gd (Sp.p_50 (List.getD p5 (4 : Nat) (0 : Int)) (6 : Int)) (gd (Sp.p_50 (List.getD p5 (4 : Nat) (0 : Int)) (11 : Int)) (gd (Sp.p_50 (List.getD p5 (4 : Nat) (0 : Int)) (25 : Int)) (gd (inB p0 (64 : Nat)) (gd (decide (Int.toNat p0 < (64 : Nat)) && true) (gd (inB p0 (64 : Nat)) (gd (decide (Int.toNat p0 < (64 : Nat)) && true) (gd (Sp.p_50 (List.getD p5 (0 : Nat) (0 : Int)) (2 : Int)) (gd (Sp.p_50 (List.getD p5 (0 : Nat) (0 : Int)) (13 : Int)) (gd (Sp.p_50 (List.getD p5 (0 : Nat) (0 : Int)) (22 : Int)) (Sp.L_36_2 m (IntKind.wrap IntKind.i64 (p0 + (1 : Int))) p1 p2 p3 p4 [IntKind.wrap IntKind.u32 (IntKind.wrap IntKind.u32 (IntKind.wrap IntKind.u32 (IntKind.wrap IntKind.u32 (IntKind.wrap IntKind.u32 (List.getD p5 (7 : Nat) (0 : Int) + Sp.xorI IntKind.u32 (Sp.xorI IntKind.u32 (Prod.fst (Sp.v_50 (List.getD p5 (4 : Nat) (0 : Int)) (6 : Int))) (Prod.fst (Sp.v_50 (List.getD p5 (4 : Nat) (0 : Int)) (11 : Int)))) (Prod.fst (Sp.v_50 (List.getD p5 (4 : Nat) (0 : Int)) (25 : Int)))) + Sp.xorI IntKind.u32 (Sp.andI IntKind.u32 (List.getD p5 (4 : Nat) (0 : Int)) (List.getD p5 (5 : Nat) (0 : Int))) (Sp.andI IntKind.u32 (Sp.xorI IntKind.u32 (4294967295 : Int) (List.getD p5 (4 : Nat) (0 : Int))) (List.getD p5 (6 : Nat) (0 : Int)))) + List.getD p4 (Int.toNat p0) (0 : Int)) + List.getD p3 (Int.toNat p0) (0 : Int)) + IntKind.wrap IntKind.u32 (Sp.xorI IntKind.u32 (Sp.xorI IntKind.u32 (Prod.fst (Sp.v_50 (List.getD p5 (0 : Nat) (0 : Int)) (2 : Int))) (Prod.fst (Sp.v_50 (List.getD p5 (0 : Nat) (0 : Int)) (13 : Int)))) (Prod.fst (Sp.v_50 (List.getD p5 (0 : Nat) (0 : Int)) (22 : Int))) + Sp.xorI IntKind.u32 (Sp.xorI IntKind.u32 (Sp.andI IntKind.u32 (List.getD p5 (0 : Nat) (0 : Int)) (List.getD p5 (1 : Nat) (0 : Int))) (Sp.andI IntKind.u32 (List.getD p5 (0 : Nat) (0 : Int)) (List.getD p5 (2 : Nat) (0 : Int)))) (Sp.andI IntKind.u32 (List.getD p5 (1 : Nat) (0 : Int)) (List.getD p5 (2 : Nat) (0 : Int))))), List.getD p5 (0 : Nat) (0 : Int), List.getD p5 (1 : Nat) (0 : Int), List.getD p5 (2 : Nat) (0 : Int), IntKind.wrap IntKind.u32 (List.getD p5 (3 : Nat) (0 : Int) + IntKind.wrap IntKind.u32 (IntKind.wrap IntKind.u32 (IntKind.wrap IntKind.u32 (IntKind.wrap IntKind.u32 (List.getD p5 (7 : Nat) (0 : Int) + Sp.xorI IntKind.u32 (Sp.xorI IntKind.u32 (Prod.fst (Sp.v_50 (List.getD p5 (4 : Nat) (0 : Int)) (6 : Int))) (Prod.fst (Sp.v_50 (List.getD p5 (4 : Nat) (0 : Int)) (11 : Int)))) (Prod.fst (Sp.v_50 (List.getD p5 (4 : Nat) (0 : Int)) (25 : Int)))) + Sp.xorI IntKind.u32 (Sp.andI IntKind.u32 (List.getD p5 (4 : Nat) (0 : Int)) (List.getD p5 (5 : Nat) (0 : Int))) (Sp.andI IntKind.u32 (Sp.xorI IntKind.u32 (4294967295 : Int) (List.getD p5 (4 : Nat) (0 : Int))) (List.getD p5 (6 : Nat) (0 : Int)))) + List.getD p4 (Int.toNat p0) (0 : Int)) + List.getD p3 (Int.toNat p0) (0 : Int))), List.getD p5 (4 : Nat) (0 : Int), List.getD p5 (5 : Nat) (0 : Int), List.getD p5 (6 : Nat) (0 : Int)])))))))))) else some (Sp.E_36_2.e0 p1 p2 p5)
def G_36_2 {R : Type} (p0 : Int) (p1 : List Int) (p2 : List Int) (p3 : List Int) (p4 : List Int) (p5 : List Int) (k : Ex → St → Option R) : Option R := Sp.B_36_2 (Sp.L_36_2 FU p0 p1 p2 p3 p4 p5) (fun p1 p2 p5 => k (Ex.exit (4 : Nat)) (X_36_2_0 p1 p2 p5))
def o_36_2 {R : Type} (G : (Int) → (List Int) → (List Int) → (List Int) → (List Int) → (List Int) → (Ex → St → Option R) → Option R) : St → (Ex → St → Option R) → Option R := fun T k => match T.sl.getD 2 .junk, T.sl.getD 4 .junk, T.sl.getD 5 .junk, T.sl.getD 10 .junk, T.sl.getD 11 .junk, T.sl.getD 12 .junk, T.hp with
  | CV.ptr (0 : Nat) [], CV.ptr (1 : Nat) [], CV.ptr (2 : Nat) [], CV.ptr (3 : Nat) [], CV.ptr (4 : Nat) [], CV.int IntKind.i64 p0, ((Blk.mem (CV.pure (Ty.arr (8 : Nat) (Ty.int IntKind.u32)) p1)) :: (Blk.mem (CV.pure (Ty.arr (8 : Nat) (Ty.int IntKind.u32)) p2)) :: (Blk.mem (CV.pure (Ty.arr (64 : Nat) (Ty.int IntKind.u32)) p3)) :: (Blk.mem (CV.pure (Ty.arr (64 : Nat) (Ty.int IntKind.u32)) p4)) :: (Blk.mem (CV.pure (Ty.arr (8 : Nat) (Ty.int IntKind.u32)) p5)) :: []) => gd (shapeOK T 196 [2, 4, 5, 10, 11, 12] (0 : Nat)) (G p0 p1 p2 p3 p4 p5 k)
  | _, _, _, _, _, _, _ => none
theorem o_36_2_inv {R : Type} {G : (Int) → (List Int) → (List Int) → (List Int) → (List Int) → (List Int) → (Ex → St → Option R) → Option R} {T : St} {k : Ex → St → Option R} {r : R} (h : o_36_2 G T k = some r) : ∃ p0 p1 p2 p3 p4 p5, T = T_36_2 p0 p1 p2 p3 p4 p5 ∧ G p0 p1 p2 p3 p4 p5 k = some r := by
  unfold o_36_2 at h
  split at h
  · obtain ⟨hs, h'⟩ := gd_some h
    refine ⟨_, _, _, _, _, _, (st_of (asg := [(2, _), (4, _), (5, _), (10, _), (11, _), (12, _)]) hs ⟨by assumption, by assumption, by assumption, by assumption, by assumption, by assumption, trivial⟩ (by assumption)).trans ?_, h'⟩
    kernel_rfl
  · cases h
def T_36_3 (p0 : Int) (p1 : List Int) (p2 : List Int) (p3 : List Int) : St := St.mk [jk, jk, CV.ptr (0 : Nat) [], jk, CV.ptr (1 : Nat) [], jk, jk, jk, jk, jk, jk, CV.ptr (2 : Nat) [], jk, jk, jk, jk, jk, jk, jk, jk, jk, CV.int IntKind.i64 p0, jk, jk, jk, jk, jk, jk, jk, jk, jk, jk, jk, jk, jk, jk, jk, jk, jk, jk, jk, jk, jk, jk, jk, jk, jk, jk, jk, jk, jk, jk, jk, jk, jk, jk, jk, jk, jk, jk, jk, jk, jk, jk, jk, jk, jk, jk, jk, jk, jk, jk, jk, jk, jk, jk, jk, jk, jk, jk, jk, jk, jk, jk, jk, jk, jk, jk, jk, jk, jk, jk, jk, jk, jk, jk, jk, jk, jk, jk, jk, jk, jk, jk, jk, jk, jk, jk, jk, jk, jk, jk, jk, jk, jk, jk, jk, jk, jk, jk, jk, jk, jk, jk, jk, jk, jk, jk, jk, jk, jk, jk, jk, jk, jk, jk, jk, jk, jk, jk, jk, jk, jk, jk, jk, jk, jk, jk, jk, jk, jk, jk, jk, jk, jk, jk, jk, jk, jk, jk, jk, jk, jk, jk, jk, jk, jk, jk, jk, jk, jk, jk, jk, jk, jk, jk, jk, jk, jk, jk, jk, jk, jk, jk, jk, jk, jk, jk, jk, jk, jk, jk, jk, jk, jk, jk] [Blk.mem (CV.pure (Ty.arr (8 : Nat) (Ty.int IntKind.u32)) p1), Blk.mem (CV.pure (Ty.arr (8 : Nat) (Ty.int IntKind.u32)) p2), Blk.mem (CV.pure (Ty.arr (8 : Nat) (Ty.int IntKind.u32)) p3)] (0 : Nat)
def X_36_3_0 (p1 : List Int) (p2 : List Int) : St := St.mk [jk, jk, CV.ptr (0 : Nat) [], jk, CV.ptr (1 : Nat) [], jk, jk, jk, jk, jk, jk, jk, jk, jk, jk, jk, jk, jk, jk, jk, jk, jk, jk, jk, jk, jk, jk, jk, jk, jk, jk, jk, jk, jk, jk, jk, jk, jk, jk, jk, jk, jk, jk, jk, jk, jk, jk, jk, jk, jk, jk, jk, jk, jk, jk, jk, jk, jk, jk, jk, jk, jk, jk, jk, jk, jk, jk, jk, jk, jk, jk, jk, jk, jk, jk, jk, jk, jk, jk, jk, jk, jk, jk, jk, jk, jk, jk, jk, jk, jk, jk, jk, jk, jk, jk, jk, jk, jk, jk, jk, jk, jk, jk, jk, jk, jk, jk, jk, jk, jk, jk, jk, jk, jk, jk, jk, jk, jk, jk, jk, jk, jk, jk, jk, jk, jk, jk, jk, jk, jk, jk, jk, jk, jk, jk, jk, jk, jk, jk, jk, jk, jk, jk, jk, jk, jk, jk, jk, jk, jk, jk, jk, jk, jk, jk, jk, jk, jk, jk, jk, jk, jk, jk, jk, jk, jk, jk, jk, jk, jk, jk, jk, jk, jk, jk, jk, jk, jk, jk, jk, jk, jk, jk, jk, jk, jk, jk, jk, jk, jk, jk, jk, jk, jk, jk, jk] [Blk.mem (CV.pure (Ty.arr (8 : Nat) (Ty.int IntKind.u32)) p1), Blk.mem (CV.pure (Ty.arr (8 : Nat) (Ty.int IntKind.u32)) p2)] (0 : Nat)
inductive Sp.E_36_3 where
  | e0 (p1 : List Int) (p2 : List Int)
def Sp.B_36_3 {R : Type} (r : Option Sp.E_36_3) (k0 : (List Int) → (List Int) → Option R) : Option R := match r with
  | none => none
  | some (.e0 p1 p2) => k0 p1 p2
def Sp.L_36_3 : Nat → (Int) → (List Int) → (List Int) → (List Int) → Option Sp.E_36_3
  | 0, _, _, _, _ => none
  | m + 1, p0, p1, p2, p3 => bif decide (p0 < (8 : Int)) then gd (inB p0 (8 : Nat)) (gd (decide (Int.toNat p0 < (8 : Nat)) && true) (gd (inB p0 (8 : Nat)) (gd (decide (Int.toNat p0 < (8 : Nat)) && true) (gd (inB p0 (8 : Nat)) (gd (decide (Int.toNat p0 < (8 : Nat)) && true) (Sp.L_36_3 m (IntKind.wrap IntKind.i64 (p0 + (1 : Int))) (List.set p1 (Int.toNat p0) (IntKind.wrap IntKind.u32 (List.getD p1 (Int.toNat p0) (0 : Int) + List.getD p3 (Int.toNat p0) (0 : Int)))) p2 p3)))))) else some (Sp.E_36_3.e0 p1 p2)
def G_36_3 {R : Type} (p0 : Int) (p1 : List Int) (p2 : List Int) (p3 : List Int) (k : Ex → St → Option R) : Option R := Sp.B_36_3 (Sp.L_36_3 FU p0 p1 p2 p3) (fun p1 p2 => k (Ex.exit (6 : Nat)) (X_36_3_0 p1 p2))
def o_36_3 {R : Type} (G : (Int) → (List Int) → (List Int) → (List Int) → (Ex → St → Option R) → Option R) : St → (Ex → St → Option R) → Option R := fun T k => match T.sl.getD 2 .junk, T.sl.getD 4 .junk, T.sl.getD 11 .junk, T.sl.getD 21 .junk, T.hp with
  | CV.ptr (0 : Nat) [], CV.ptr (1 : Nat) [], CV.ptr (2 : Nat) [], CV.int IntKind.i64 p0, ((Blk.mem (CV.pure (Ty.arr (8 : Nat) (Ty.int IntKind.u32)) p1)) :: (Blk.mem (CV.pure (Ty.arr (8 : Nat) (Ty.int IntKind.u32)) p2)) :: (Blk.mem (CV.pure (Ty.arr (8 : Nat) (Ty.int IntKind.u32)) p3)) :: []) => gd (shapeOK T 196 [2, 4, 11, 21] (0 : Nat)) (G p0 p1 p2 p3 k)
  | _, _, _, _, _ => none
theorem o_36_3_inv {R : Type} {G : (Int) → (List Int) → (List Int) → (List Int) → (Ex → St → Option R) → Option R} {T : St} {k : Ex → St → Option R} {r : R} (h : o_36_3 G T k = some r) : ∃ p0 p1 p2 p3, T = T_36_3 p0 p1 p2 p3 ∧ G p0 p1 p2 p3 k = some r := by
  unfold o_36_3 at h
  split at h
  · obtain ⟨hs, h'⟩ := gd_some h
    refine ⟨_, _, _, _, (st_of (asg := [(2, _), (4, _), (11, _), (21, _)]) hs ⟨by assumption, by assumption, by assumption, by assumption, trivial⟩ (by assumption)).trans ?_, h'⟩
    kernel_rfl
  · cases h
def O_36_36_0 {R : Type} : St → (Ex → St → Option R) → Option R := fun T k => o_36_0 G_36_0 T k
def O_36_36_1 {R : Type} : St → (Ex → St → Option R) → Option R := fun T k => o_36_1 G_36_1 T k
def O_36_36_2 {R : Type} : St → (Ex → St → Option R) → Option R := fun T k => o_36_2 G_36_2 T k
def O_36_36_3 {R : Type} : St → (Ex → St → Option R) → Option R := fun T k => o_36_3 G_36_3 T k
theorem body_36_0 {R : Type} (K0 : St → Option R) (K1 : Ex → St → Option R) (p0 : List Int) (p1 : Int) (p2 : List Int) (p3 : List Int) (p4 : List Int) : evLB (evCodeL sm_36 FU (ovr noO (evFn sm_36 fns FU 0)) .nil ir36_b0) (St.norm ir36_v0) (T_36_0 p0 p1 p2 p3 p4) K0 K1 =
  bif decide (p1 < (16 : Int)) then gd (inB (IntKind.wrap IntKind.i64 ((4 : Int) * p1)) (List.length p0)) (gd (inB (IntKind.wrap IntKind.i64 (IntKind.wrap IntKind.i64 ((4 : Int) * p1) + (1 : Int))) (List.length p0)) (gd (inB (IntKind.wrap IntKind.i64 (IntKind.wrap IntKind.i64 ((4 : Int) * p1) + (2 : Int))) (List.length p0)) (gd (inB (IntKind.wrap IntKind.i64 (IntKind.wrap IntKind.i64 ((4 : Int) * p1) + (3 : Int))) (List.length p0)) (gd (inB p1 (64 : Nat)) (gd (decide (Int.toNat p1 < (64 : Nat)) && true) (K0 (T_36_0 p0 (IntKind.wrap IntKind.i64 (p1 + (1 : Int))) p2 p3 (List.set p4 (Int.toNat p1) (Sp.orI IntKind.u32 (Sp.orI IntKind.u32 (Sp.orI IntKind.u32 (IntKind.wrap IntKind.u32 (IntKind.wrap IntKind.u32 (List.getD p0 (Int.toNat (IntKind.wrap IntKind.i64 ((4 : Int) * p1))) (0 : Int)) * (16777216 : Int))) (IntKind.wrap IntKind.u32 (IntKind.wrap IntKind.u32 (List.getD p0 (Int.toNat (IntKind.wrap IntKind.i64 (IntKind.wrap IntKind.i64 ((4 : Int) * p1) + (1 : Int)))) (0 : Int)) * (65536 : Int)))) (IntKind.wrap IntKind.u32 (IntKind.wrap IntKind.u32 (List.getD p0 (Int.toNat (IntKind.wrap IntKind.i64 (IntKind.wrap IntKind.i64 ((4 : Int) * p1) + (2 : Int)))) (0 : Int)) * (256 : Int)))) (IntKind.wrap IntKind.u32 (List.getD p0 (Int.toNat (IntKind.wrap IntKind.i64 (IntKind.wrap IntKind.i64 ((4 : Int) * p1) + (3 : Int)))) (0 : Int)))))))))))) else K1 (Ex.exit (0 : Nat)) (X_36_0_0 p2 p3 p4) := by kernel_rfl
theorem Bgd_36_0 {R : Type} {c : Bool} {x : Option R} {y : Option Sp.E_36_0} {k0 : (List Int) → (List Int) → (List Int) → Option R} (h : x = Sp.B_36_0 y k0) : gd c x = Sp.B_36_0 (gd c y) k0 := by cases c; rfl; exact h
theorem Bcond_36_0 {R : Type} {c : Bool} {x x' : Option R} {y y' : Option Sp.E_36_0} {k0 : (List Int) → (List Int) → (List Int) → Option R} (h : x = Sp.B_36_0 y k0) (h' : x' = Sp.B_36_0 y' k0) : (bif c then x else x') = Sp.B_36_0 (bif c then y else y') k0 := by cases c; exact h'; exact h
theorem loop_36_0 {R : Type} (k : Ex → St → Option R) : ∀ (m : Nat) (p0 : List Int) (p1 : Int) (p2 : List Int) (p3 : List Int) (p4 : List Int), evLoopN (evCodeL sm_36 FU (ovr noO (evFn sm_36 fns FU 0)) .nil ir36_b0) (St.norm ir36_v0) m (T_36_0 p0 p1 p2 p3 p4) k = Sp.B_36_0 (Sp.L_36_0 m p0 p1 p2 p3 p4) (fun p2 p3 p4 => k (Ex.exit (0 : Nat)) (X_36_0_0 p2 p3 p4))
  | 0, _, _, _, _, _ => rfl
  | m + 1, p0, p1, p2, p3, p4 => by
    rw [evLoopN_succ, body_36_0, Sp.L_36_0]
    repeat' first | apply Bgd_36_0 | apply Bcond_36_0 | exact loop_36_0 k m _ _ _ _ _ | rfl
theorem ok_36_0 {R : Type} (T : St) (k : Ex → St → Option R) (r : R) (h0 : o_36_0 G_36_0 T k = some r) : evLoopN (evCode sm_36 FU (evFn sm_36 fns FU 0) ir36_b0) (St.norm ir36_v0) FU T k = some r := by
  obtain ⟨p0, p1, p2, p3, p4, rfl, h⟩ := o_36_0_inv h0
  refine evLoopN_L (t := .nil) noO_ok trivial _ _ _ _ ?_
  rw [loop_36_0]
  exact h
theorem OK_36_36_0 {R : Type} (T : St) (k : Ex → St → Option R) (r : R) (h : O_36_36_0 T k = some r) : evLoopN (evCode sm_36 FU (evFn sm_36 fns FU 0) ir36_b0) (St.norm ir36_v0) FU T k = some r := ok_36_0 T k r h
theorem body_36_1 {R : Type} (K0 : St → Option R) (K1 : Ex → St → Option R) (p0 : Int) (p1 : List Int) (p2 : List Int) (p3 : List Int) : evLB (evCodeL sm_36 FU (ovr noO (evFn sm_36 fns FU 0)) .nil ir36_b1) (St.norm ir36_v1) (T_36_1 p0 p1 p2 p3) K0 K1 =
  bif decide (p0 < (64 : Int)) then gd (inB (IntKind.wrap IntKind.i64 (p0 - (15 : Int))) (64 : Nat)) (gd (decide (Int.toNat (IntKind.wrap IntKind.i64 (p0 - (15 : Int))) < (64 : Nat)) && true) (gd (inB (IntKind.wrap IntKind.i64 (p0 - (2 : Int))) (64 : Nat)) (gd (decide (Int.toNat (IntKind.wrap IntKind.i64 (p0 - (2 : Int))) < (64 : Nat)) && true) (gd (Sp.p_50 (List.getD p3 (Int.toNat (IntKind.wrap IntKind.i64 (p0 - (2 : Int)))) (0 : Int)) (17 : Int)) (gd (Sp.p_50 (List.getD p3 (Int.toNat (IntKind.wrap IntKind.i64 (p0 - (2 : Int)))) (0 : Int)) (19 : Int)) (gd (inB (IntKind.wrap IntKind.i64 (p0 - (7 : Int))) (64 : Nat)) (gd (decide (Int.toNat (IntKind.wrap IntKind.i64 (p0 - (7 : Int))) < (64 : Nat)) && true) (gd (Sp.p_50 (List.getD p3 (Int.toNat (IntKind.wrap IntKind.i64 (p0 - (15 : Int)))) (0 : Int)) (7 : Int)) (gd (Sp.p_50 (List.getD p3 (Int.toNat (IntKind.wrap IntKind.i64 (p0 - (15 : Int)))) (0 : Int)) (18 : Int)) (gd (inB (IntKind.wrap IntKind.i64 (p0 - (16 : Int))) (64 : Nat)) (gd (decide (Int.toNat (IntKind.wrap IntKind.i64 (p0 - (16 : Int))) < (64 : Nat)) && true) (gd (inB p0 (64 : Nat)) (gd (decide (Int.toNat p0 < (64 : Nat)) && true) (K0 (T_36_1 (IntKind.wrap IntKind.i64 (p0 + (1 : Int))) p1 p2 (List.set p3 (Int.toNat p0) (IntKind.wrap IntKind.u32 (IntKind.wrap IntKind.u32 (IntKind.wrap IntKind.u32 (Sp.xorI IntKind.u32 (Sp.xorI IntKind.u32 (Prod.fst (Sp.v_50 (List.getD p3 (Int.toNat (IntKind.wrap IntKind.i64 (p0 - (2 : Int)))) (0 : Int)) (17 : Int))) (Prod.fst (Sp.v_50 (List.getD p3 (Int.toNat (IntKind.wrap IntKind.i64 (p0 - (2 : Int)))) (0 : Int)) (19 : Int)))) (Int.fdiv (List.getD p3 (Int.toNat (IntKind.wrap IntKind.i64 (p0 - (2 : Int)))) (0 : Int)) (1024 : Int)) + List.getD p3 (Int.toNat (IntKind.wrap IntKind.i64 (p0 - (7 : Int)))) (0 : Int)) + Sp.xorI IntKind.u32 (Sp.xorI IntKind.u32 (Prod.fst (Sp.v_50 (List.getD p3 (Int.toNat (IntKind.wrap IntKind.i64 (p0 - (15 : Int)))) (0 : Int)) (7 : Int))) (Prod.fst (Sp.v_50 (List.getD p3 (Int.toNat (IntKind.wrap IntKind.i64 (p0 - (15 : Int)))) (0 : Int)) (18 : Int)))) (Int.fdiv (List.getD p3 (Int.toNat (IntKind.wrap IntKind.i64 (p0 - (15 : Int)))) (0 : Int)) (8 : Int))) + List.getD p3 (Int.toNat (IntKind.wrap IntKind.i64 (p0 - (16 : Int)))) (0 : Int))))))))))))))))))) else K1 (Ex.exit (2 : Nat)) (X_36_1_0 p1 p2 p3) := by kernel_rfl
theorem Bgd_36_1 {R : Type} {c : Bool} {x : Option R} {y : Option Sp.E_36_1} {k0 : (List Int) → (List Int) → (List Int) → Option R} (h : x = Sp.B_36_1 y k0) : gd c x = Sp.B_36_1 (gd c y) k0 := by cases c; rfl; exact h
theorem Bcond_36_1 {R : Type} {c : Bool} {x x' : Option R} {y y' : Option Sp.E_36_1} {k0 : (List Int) → (List Int) → (List Int) → Option R} (h : x = Sp.B_36_1 y k0) (h' : x' = Sp.B_36_1 y' k0) : (bif c then x else x') = Sp.B_36_1 (bif c then y else y') k0 := by cases c; exact h'; exact h
theorem loop_36_1 {R : Type} (k : Ex → St → Option R) : ∀ (m : Nat) (p0 : Int) (p1 : List Int) (p2 : List Int) (p3 : List Int), evLoopN (evCodeL sm_36 FU (ovr noO (evFn sm_36 fns FU 0)) .nil ir36_b1) (St.norm ir36_v1) m (T_36_1 p0 p1 p2 p3) k = Sp.B_36_1 (Sp.L_36_1 m p0 p1 p2 p3) (fun p1 p2 p3 => k (Ex.exit (2 : Nat)) (X_36_1_0 p1 p2 p3))
  | 0, _, _, _, _ => rfl
  | m + 1, p0, p1, p2, p3 => by
    rw [evLoopN_succ, body_36_1, Sp.L_36_1]
    repeat' first | apply Bgd_36_1 | apply Bcond_36_1 | exact loop_36_1 k m _ _ _ _ | rfl
theorem ok_36_1 {R : Type} (T : St) (k : Ex → St → Option R) (r : R) (h0 : o_36_1 G_36_1 T k = some r) : evLoopN (evCode sm_36 FU (evFn sm_36 fns FU 0) ir36_b1) (St.norm ir36_v1) FU T k = some r := by
  obtain ⟨p0, p1, p2, p3, rfl, h⟩ := o_36_1_inv h0
  refine evLoopN_L (t := .nil) noO_ok trivial _ _ _ _ ?_
  rw [loop_36_1]
  exact h
theorem OK_36_36_1 {R : Type} (T : St) (k : Ex → St → Option R) (r : R) (h : O_36_36_1 T k = some r) : evLoopN (evCode sm_36 FU (evFn sm_36 fns FU 0) ir36_b1) (St.norm ir36_v1) FU T k = some r := ok_36_1 T k r h
theorem body_36_2 {R : Type} (K0 : St → Option R) (K1 : Ex → St → Option R) (p0 : Int) (p1 : List Int) (p2 : List Int) (p3 : List Int) (p4 : List Int) (p5 : List Int) : evLB (evCodeL sm_36 FU (ovr noO (evFn sm_36 fns FU 0)) .nil ir36_b2) (St.norm ir36_v2) (T_36_2 p0 p1 p2 p3 p4 p5) K0 K1 =
  bif decide (p0 < (64 : Int)) then gd (Sp.p_50 (List.getD p5 (4 : Nat) (0 : Int)) (6 : Int)) (gd (Sp.p_50 (List.getD p5 (4 : Nat) (0 : Int)) (11 : Int)) (gd (Sp.p_50 (List.getD p5 (4 : Nat) (0 : Int)) (25 : Int)) (gd (inB p0 (64 : Nat)) (gd (decide (Int.toNat p0 < (64 : Nat)) && true) (gd (inB p0 (64 : Nat)) (gd (decide (Int.toNat p0 < (64 : Nat)) && true) (gd (Sp.p_50 (List.getD p5 (0 : Nat) (0 : Int)) (2 : Int)) (gd (Sp.p_50 (List.getD p5 (0 : Nat) (0 : Int)) (13 : Int)) (gd (Sp.p_50 (List.getD p5 (0 : Nat) (0 : Int)) (22 : Int)) (K0 (T_36_2 (IntKind.wrap IntKind.i64 (p0 + (1 : Int))) p1 p2 p3 p4 [IntKind.wrap IntKind.u32 (IntKind.wrap IntKind.u32 (IntKind.wrap IntKind.u32 (IntKind.wrap IntKind.u32 (IntKind.wrap IntKind.u32 (List.getD p5 (7 : Nat) (0 : Int) + Sp.xorI IntKind.u32 (Sp.xorI IntKind.u32 (Prod.fst (Sp.v_50 (List.getD p5 (4 : Nat) (0 : Int)) (6 : Int))) (Prod.fst (Sp.v_50 (List.getD p5 (4 : Nat) (0 : Int)) (11 : Int)))) (Prod.fst (Sp.v_50 (List.getD p5 (4 : Nat) (0 : Int)) (25 : Int)))) + Sp.xorI IntKind.u32 (Sp.andI IntKind.u32 (List.getD p5 (4 : Nat) (0 : Int)) (List.getD p5 (5 : Nat) (0 : Int))) (Sp.andI IntKind.u32 (Sp.xorI IntKind.u32 (4294967295 : Int) (List.getD p5 (4 : Nat) (0 : Int))) (List.getD p5 (6 : Nat) (0 : Int)))) + List.getD p4 (Int.toNat p0) (0 : Int)) + List.getD p3 (Int.toNat p0) (0 : Int)) + IntKind.wrap IntKind.u32 (Sp.xorI IntKind.u32 (Sp.xorI IntKind.u32 (Prod.fst (Sp.v_50 (List.getD p5 (0 : Nat) (0 : Int)) (2 : Int))) (Prod.fst (Sp.v_50 (List.getD p5 (0 : Nat) (0 : Int)) (13 : Int)))) (Prod.fst (Sp.v_50 (List.getD p5 (0 : Nat) (0 : Int)) (22 : Int))) + Sp.xorI IntKind.u32 (Sp.xorI IntKind.u32 (Sp.andI IntKind.u32 (List.getD p5 (0 : Nat) (0 : Int)) (List.getD p5 (1 : Nat) (0 : Int))) (Sp.andI IntKind.u32 (List.getD p5 (0 : Nat) (0 : Int)) (List.getD p5 (2 : Nat) (0 : Int)))) (Sp.andI IntKind.u32 (List.getD p5 (1 : Nat) (0 : Int)) (List.getD p5 (2 : Nat) (0 : Int))))), List.getD p5 (0 : Nat) (0 : Int), List.getD p5 (1 : Nat) (0 : Int), List.getD p5 (2 : Nat) (0 : Int), IntKind.wrap IntKind.u32 (List.getD p5 (3 : Nat) (0 : Int) + IntKind.wrap IntKind.u32 (IntKind.wrap IntKind.u32 (IntKind.wrap IntKind.u32 (IntKind.wrap IntKind.u32 (List.getD p5 (7 : Nat) (0 : Int) + Sp.xorI IntKind.u32 (Sp.xorI IntKind.u32 (Prod.fst (Sp.v_50 (List.getD p5 (4 : Nat) (0 : Int)) (6 : Int))) (Prod.fst (Sp.v_50 (List.getD p5 (4 : Nat) (0 : Int)) (11 : Int)))) (Prod.fst (Sp.v_50 (List.getD p5 (4 : Nat) (0 : Int)) (25 : Int)))) + Sp.xorI IntKind.u32 (Sp.andI IntKind.u32 (List.getD p5 (4 : Nat) (0 : Int)) (List.getD p5 (5 : Nat) (0 : Int))) (Sp.andI IntKind.u32 (Sp.xorI IntKind.u32 (4294967295 : Int) (List.getD p5 (4 : Nat) (0 : Int))) (List.getD p5 (6 : Nat) (0 : Int)))) + List.getD p4 (Int.toNat p0) (0 : Int)) + List.getD p3 (Int.toNat p0) (0 : Int))), List.getD p5 (4 : Nat) (0 : Int), List.getD p5 (5 : Nat) (0 : Int), List.getD p5 (6 : Nat) (0 : Int)]))))))))))) else K1 (Ex.exit (4 : Nat)) (X_36_2_0 p1 p2 p5) := by kernel_rfl
theorem Bgd_36_2 {R : Type} {c : Bool} {x : Option R} {y : Option Sp.E_36_2} {k0 : (List Int) → (List Int) → (List Int) → Option R} (h : x = Sp.B_36_2 y k0) : gd c x = Sp.B_36_2 (gd c y) k0 := by cases c; rfl; exact h
theorem Bcond_36_2 {R : Type} {c : Bool} {x x' : Option R} {y y' : Option Sp.E_36_2} {k0 : (List Int) → (List Int) → (List Int) → Option R} (h : x = Sp.B_36_2 y k0) (h' : x' = Sp.B_36_2 y' k0) : (bif c then x else x') = Sp.B_36_2 (bif c then y else y') k0 := by cases c; exact h'; exact h
theorem loop_36_2 {R : Type} (k : Ex → St → Option R) : ∀ (m : Nat) (p0 : Int) (p1 : List Int) (p2 : List Int) (p3 : List Int) (p4 : List Int) (p5 : List Int), evLoopN (evCodeL sm_36 FU (ovr noO (evFn sm_36 fns FU 0)) .nil ir36_b2) (St.norm ir36_v2) m (T_36_2 p0 p1 p2 p3 p4 p5) k = Sp.B_36_2 (Sp.L_36_2 m p0 p1 p2 p3 p4 p5) (fun p1 p2 p5 => k (Ex.exit (4 : Nat)) (X_36_2_0 p1 p2 p5))
  | 0, _, _, _, _, _, _ => rfl
  | m + 1, p0, p1, p2, p3, p4, p5 => by
    rw [evLoopN_succ, body_36_2, Sp.L_36_2]
    repeat' first | apply Bgd_36_2 | apply Bcond_36_2 | exact loop_36_2 k m _ _ _ _ _ _ | rfl
theorem ok_36_2 {R : Type} (T : St) (k : Ex → St → Option R) (r : R) (h0 : o_36_2 G_36_2 T k = some r) : evLoopN (evCode sm_36 FU (evFn sm_36 fns FU 0) ir36_b2) (St.norm ir36_v2) FU T k = some r := by
  obtain ⟨p0, p1, p2, p3, p4, p5, rfl, h⟩ := o_36_2_inv h0
  refine evLoopN_L (t := .nil) noO_ok trivial _ _ _ _ ?_
  rw [loop_36_2]
  exact h
theorem OK_36_36_2 {R : Type} (T : St) (k : Ex → St → Option R) (r : R) (h : O_36_36_2 T k = some r) : evLoopN (evCode sm_36 FU (evFn sm_36 fns FU 0) ir36_b2) (St.norm ir36_v2) FU T k = some r := ok_36_2 T k r h
theorem body_36_3 {R : Type} (K0 : St → Option R) (K1 : Ex → St → Option R) (p0 : Int) (p1 : List Int) (p2 : List Int) (p3 : List Int) : evLB (evCodeL sm_36 FU (ovr noO (evFn sm_36 fns FU 0)) .nil ir36_b3) (St.norm ir36_v3) (T_36_3 p0 p1 p2 p3) K0 K1 =
  bif decide (p0 < (8 : Int)) then gd (inB p0 (8 : Nat)) (gd (decide (Int.toNat p0 < (8 : Nat)) && true) (gd (inB p0 (8 : Nat)) (gd (decide (Int.toNat p0 < (8 : Nat)) && true) (gd (inB p0 (8 : Nat)) (gd (decide (Int.toNat p0 < (8 : Nat)) && true) (K0 (T_36_3 (IntKind.wrap IntKind.i64 (p0 + (1 : Int))) (List.set p1 (Int.toNat p0) (IntKind.wrap IntKind.u32 (List.getD p1 (Int.toNat p0) (0 : Int) + List.getD p3 (Int.toNat p0) (0 : Int)))) p2 p3))))))) else K1 (Ex.exit (6 : Nat)) (X_36_3_0 p1 p2) := by kernel_rfl
theorem Bgd_36_3 {R : Type} {c : Bool} {x : Option R} {y : Option Sp.E_36_3} {k0 : (List Int) → (List Int) → Option R} (h : x = Sp.B_36_3 y k0) : gd c x = Sp.B_36_3 (gd c y) k0 := by cases c; rfl; exact h
theorem Bcond_36_3 {R : Type} {c : Bool} {x x' : Option R} {y y' : Option Sp.E_36_3} {k0 : (List Int) → (List Int) → Option R} (h : x = Sp.B_36_3 y k0) (h' : x' = Sp.B_36_3 y' k0) : (bif c then x else x') = Sp.B_36_3 (bif c then y else y') k0 := by cases c; exact h'; exact h
theorem loop_36_3 {R : Type} (k : Ex → St → Option R) : ∀ (m : Nat) (p0 : Int) (p1 : List Int) (p2 : List Int) (p3 : List Int), evLoopN (evCodeL sm_36 FU (ovr noO (evFn sm_36 fns FU 0)) .nil ir36_b3) (St.norm ir36_v3) m (T_36_3 p0 p1 p2 p3) k = Sp.B_36_3 (Sp.L_36_3 m p0 p1 p2 p3) (fun p1 p2 => k (Ex.exit (6 : Nat)) (X_36_3_0 p1 p2))
  | 0, _, _, _, _ => rfl
  | m + 1, p0, p1, p2, p3 => by
    rw [evLoopN_succ, body_36_3, Sp.L_36_3]
    repeat' first | apply Bgd_36_3 | apply Bcond_36_3 | exact loop_36_3 k m _ _ _ _ | rfl
theorem ok_36_3 {R : Type} (T : St) (k : Ex → St → Option R) (r : R) (h0 : o_36_3 G_36_3 T k = some r) : evLoopN (evCode sm_36 FU (evFn sm_36 fns FU 0) ir36_b3) (St.norm ir36_v3) FU T k = some r := by
  obtain ⟨p0, p1, p2, p3, rfl, h⟩ := o_36_3_inv h0
  refine evLoopN_L (t := .nil) noO_ok trivial _ _ _ _ ?_
  rw [loop_36_3]
  exact h
theorem OK_36_36_3 {R : Type} (T : St) (k : Ex → St → Option R) (r : R) (h : O_36_36_3 T k = some r) : evLoopN (evCode sm_36 FU (evFn sm_36 fns FU 0) ir36_b3) (St.norm ir36_v3) FU T k = some r := ok_36_3 T k r h
def F_36 (a0 : (List Int)) (a1 : (List Int)) : Option ((List Int) × Unit) :=
  Sp.B_36_0 (Sp.L_36_0 (4611686018427387904 : Nat) a1 (0 : Int) a0 (List.replicate (8 : Nat) (0 : Int)) (List.replicate (64 : Nat) (0 : Int))) fun (y11 y12 y13 : List Int) => Sp.B_36_1 (Sp.L_36_1 (4611686018427387904 : Nat) (16 : Int) y11 y12 y13) fun (y14 y15 y16 : List Int) => gd Sp.p_51 (Sp.B_36_2 (Sp.L_36_2 (4611686018427387904 : Nat) (0 : Int) y14 y15 y16 (Prod.fst Sp.v_51) y14) fun (y17 y18 y19 : List Int) => Sp.B_36_3 (Sp.L_36_3 (4611686018427387904 : Nat) (0 : Int) y17 y18 y19) fun (y20 y21 : List Int) => some (y20, PUnit.unit))
theorem fn_36 (a0 : (List Int)) (a1 : (List Int)) : evFnL sm_36 FU (ovr noO (evFn sm_36 fns FU 0)) (ir36_t O_36_36_0 O_36_36_1 O_36_36_2 O_36_36_3) ir36 (ofH [(.arr 8 (.int .u32)), (.slice (.int .u8))] (a0, a1, ())) [] (pureK [(.arr 8 (.int .u32))]) = F_36 a0 a1 := by kernel_rfl
def Sp.p_36 (a0 : (List Int)) (a1 : (List Int)) : Bool := (F_36 a0 a1).isSome
def Sp.v_36 (a0 : (List Int)) (a1 : (List Int)) : (List Int) × Unit := (F_36 a0 a1).getD (dfH [(.arr 8 (.int .u32))])
def s_36 : Summ := shN [(.arr 8 (.int .u32)), (.slice (.int .u8))] [(.arr 8 (.int .u32))] (fun x => Sp.p_36 x.1 x.2.1) (fun x => Sp.v_36 x.1 x.2.1)
theorem pv_36 (a0 : (List Int)) (a1 : (List Int)) {y : (List Int) × Unit} (h : F_36 a0 a1 = some y) : Sp.p_36 a0 a1 = true ∧ Sp.v_36 a0 a1 = y := ⟨by rw [Sp.p_36, h]; rfl, by rw [Sp.v_36, h]; rfl⟩
theorem run_36 (x : HDen [(.arr 8 (.int .u32)), (.slice (.int .u8))]) (y : HDen [(.arr 8 (.int .u32))]) (h : F_36 x.1 x.2.1 = some y) : evFn sm_36 fns FU 1 36 (ofH [(.arr 8 (.int .u32)), (.slice (.int .u8))] x) [] (pureK [(.arr 8 (.int .u32))]) = some y :=
  evFnL_sound (fn := ir36) (t := (ir36_t O_36_36_0 O_36_36_1 O_36_36_2 O_36_36_3)) (o := noO) rfl noO_ok (ir36_tok (fun T k r => OK_36_36_0 T k r) (fun T k r => OK_36_36_1 T k r) (fun T k r => OK_36_36_2 T k r) (fun T k r => OK_36_36_3 T k r)) ((fn_36 _ _).trans h)
end
end Go.Ev
namespace Go.Ev
open Go
set_option maxRecDepth 100000
set_option maxHeartbeats 4000000
set_option linter.unusedVariables false
noncomputable section

def sm_12 : Nat → Option Summ := fun f => bif Nat.beq f 35 then some s_35 else bif Nat.beq f 36 then some s_36 else none
def T_12_0 (p0 : List Int) (p1 : Int) (p2 : List Int) (p3 : List Int) : St := St.mk [jk, jk, CV.ptr (0 : Nat) [], CV.ptr (1 : Nat) [], CV.pure (Ty.slice (Ty.int IntKind.u8)) p0, CV.int IntKind.i64 p1, jk, jk, jk, jk, jk, jk, jk, jk, jk, jk, jk, jk, jk, jk, jk, jk, jk, jk, jk, jk, jk, jk, jk, jk, jk, jk, jk, jk, jk, jk, jk, jk, jk, jk, jk, jk] [Blk.mem (CV.pure (Ty.arr (32 : Nat) (Ty.int IntKind.u8)) p2), Blk.mem (CV.pure (Ty.arr (8 : Nat) (Ty.int IntKind.u32)) p3)] (0 : Nat)
def X_12_0_0 (p2 : List Int) (p3 : List Int) : St := St.mk [jk, jk, CV.ptr (0 : Nat) [], CV.ptr (1 : Nat) [], jk, jk, jk, jk, jk, jk, jk, jk, jk, jk, jk, jk, jk, jk, jk, jk, jk, jk, jk, jk, jk, jk, jk, jk, jk, jk, jk, jk, jk, jk, jk, jk, jk, jk, jk, jk, jk, jk] [Blk.mem (CV.pure (Ty.arr (32 : Nat) (Ty.int IntKind.u8)) p2), Blk.mem (CV.pure (Ty.arr (8 : Nat) (Ty.int IntKind.u32)) p3)] (0 : Nat)
inductive Sp.E_12_0 where
  | e0 (p2 : List Int) (p3 : List Int)
def Sp.B_12_0 {R : Type} (r : Option Sp.E_12_0) (k0 : (List Int) → (List Int) → Option R) : Option R := match r with
  | none => none
  | some (.e0 p2 p3) => k0 p2 p3
def Sp.L_12_0 : Nat → (List Int) → (Int) → (List Int) → (List Int) → Option Sp.E_12_0
  | 0, _, _, _, _ => none
  | m + 1, p0, p1, p2, p3 => bif decide (p1 < (↑(List.length p0) : Int)) then gd (sl3 p1 (IntKind.wrap IntKind.i64 (p1 + (64 : Int))) (↑(List.length p0) : Int)) (gd (Sp.p_36 p3 (List.take (Int.toNat (IntKind.wrap IntKind.i64 (p1 + (64 : Int))) - Int.toNat p1) (List.drop (Int.toNat p1) p0))) (Sp.L_12_0 m p0 (IntKind.wrap IntKind.i64 (p1 + (64 : Int))) p2 (Prod.fst (Sp.v_36 p3 (List.take (Int.toNat (IntKind.wrap IntKind.i64 (p1 + (64 : Int))) - Int.toNat p1) (List.drop (Int.toNat p1) p0)))))) else some (Sp.E_12_0.e0 p2 p3)
def G_12_0 {R : Type} (p0 : List Int) (p1 : Int) (p2 : List Int) (p3 : List Int) (k : Ex → St → Option R) : Option R := Sp.B_12_0 (Sp.L_12_0 FU p0 p1 p2 p3) (fun p2 p3 => k (Ex.exit (0 : Nat)) (X_12_0_0 p2 p3))
def o_12_0 {R : Type} (G : (List Int) → (Int) → (List Int) → (List Int) → (Ex → St → Option R) → Option R) : St → (Ex → St → Option R) → Option R := fun T k => match T.sl.getD 2 .junk, T.sl.getD 3 .junk, T.sl.getD 4 .junk, T.sl.getD 5 .junk, T.hp with
  | CV.ptr (0 : Nat) [], CV.ptr (1 : Nat) [], CV.pure (Ty.slice (Ty.int IntKind.u8)) p0, CV.int IntKind.i64 p1, ((Blk.mem (CV.pure (Ty.arr (32 : Nat) (Ty.int IntKind.u8)) p2)) :: (Blk.mem (CV.pure (Ty.arr (8 : Nat) (Ty.int IntKind.u32)) p3)) :: []) => gd (shapeOK T 42 [2, 3, 4, 5] (0 : Nat)) (G p0 p1 p2 p3 k)
  | _, _, _, _, _ => none
theorem o_12_0_inv {R : Type} {G : (List Int) → (Int) → (List Int) → (List Int) → (Ex → St → Option R) → Option R} {T : St} {k : Ex → St → Option R} {r : R} (h : o_12_0 G T k = some r) : ∃ p0 p1 p2 p3, T = T_12_0 p0 p1 p2 p3 ∧ G p0 p1 p2 p3 k = some r := by
  unfold o_12_0 at h
  split at h
  · obtain ⟨hs, h'⟩ := gd_some h
    refine ⟨_, _, _, _, (st_of (asg := [(2, _), (3, _), (4, _), (5, _)]) hs ⟨by assumption, by assumption, by assumption, by assumption, trivial⟩ (by assumption)).trans ?_, h'⟩
    kernel_rfl
  · cases h
def T_12_1 (p0 : Int) (p1 : List Int) (p2 : List Int) (p3 : List Int) : St := St.mk [jk, jk, CV.ptr (0 : Nat) [], CV.ptr (1 : Nat) [], jk, jk, CV.ptr (2 : Nat) [], CV.int IntKind.i64 p0, jk, jk, jk, jk, jk, jk, jk, jk, jk, jk, jk, jk, jk, jk, jk, jk, jk, jk, jk, jk, jk, jk, jk, jk, jk, jk, jk, jk, jk, jk, jk, jk, jk, jk] [Blk.mem (CV.pure (Ty.arr (32 : Nat) (Ty.int IntKind.u8)) p1), Blk.mem (CV.pure (Ty.arr (8 : Nat) (Ty.int IntKind.u32)) p2), Blk.mem (CV.pure (Ty.arr (32 : Nat) (Ty.int IntKind.u8)) p3)] (0 : Nat)
def X_12_1_0 (p1 : List Int) (p3 : List Int) : St := St.mk [jk, jk, CV.ptr (0 : Nat) [], jk, jk, jk, CV.ptr (1 : Nat) [], jk, jk, jk, jk, jk, jk, jk, jk, jk, jk, jk, jk, jk, jk, jk, jk, jk, jk, jk, jk, jk, jk, jk, jk, jk, jk, jk, jk, jk, jk, jk, jk, jk, jk, jk] [Blk.mem (CV.pure (Ty.arr (32 : Nat) (Ty.int IntKind.u8)) p1), Blk.mem (CV.pure (Ty.arr (32 : Nat) (Ty.int IntKind.u8)) p3)] (0 : Nat)
inductive Sp.E_12_1 where
  | e0 (p1 : List Int) (p3 : List Int)
def Sp.B_12_1 {R : Type} (r : Option Sp.E_12_1) (k0 : (List Int) → (List Int) → Option R) : Option R := match r with
  | none => none
  | some (.e0 p1 p3) => k0 p1 p3
def Sp.L_12_1 : Nat → (Int) → (List Int) → (List Int) → (List Int) → Option Sp.E_12_1
  | 0, _, _, _, _ => none
  | m + 1, p0, p1, p2, p3 => bif decide (p0 < (32 : Int)) then gd (inB (IntKind.wrap IntKind.i64 (Int.tdiv p0 (4 : Int))) (8 : Nat)) (gd (decide (Int.toNat (IntKind.wrap IntKind.i64 (Int.tdiv p0 (4 : Int))) < (8 : Nat)) && true) (gd (decide ((0 : Int) ≤ IntKind.wrap IntKind.u64 (IntKind.wrap IntKind.i64 ((24 : Int) - IntKind.wrap IntKind.i64 (Int.tmod p0 (4 : Int) * (8 : Int)))))) (gd (inB p0 (32 : Nat)) (gd (decide (Int.toNat p0 < (32 : Nat)) && true) (Sp.L_12_1 m (IntKind.wrap IntKind.i64 (p0 + (1 : Int))) p1 p2 (List.set p3 (Int.toNat p0) (IntKind.wrap IntKind.u8 (Int.fdiv (List.getD p2 (Int.toNat (IntKind.wrap IntKind.i64 (Int.tdiv p0 (4 : Int)))) (0 : Int)) ((2 : Int) ^ Nat.min (Int.toNat (IntKind.wrap IntKind.u64 (IntKind.wrap IntKind.i64 ((24 : Int) - IntKind.wrap IntKind.i64 (Int.tmod p0 (4 : Int) * (8 : Int)))))) (32 : Nat)))))))))) else some (Sp.E_12_1.e0 p1 p3)
def G_12_1 {R : Type} (p0 : Int) (p1 : List Int) (p2 : List Int) (p3 : List Int) (k : Ex → St → Option R) : Option R := Sp.B_12_1 (Sp.L_12_1 FU p0 p1 p2 p3) (fun p1 p3 => k (Ex.exit (2 : Nat)) (X_12_1_0 p1 p3))
def o_12_1 {R : Type} (G : (Int) → (List Int) → (List Int) → (List Int) → (Ex → St → Option R) → Option R) : St → (Ex → St → Option R) → Option R := fun T k => match T.sl.getD 2 .junk, T.sl.getD 3 .junk, T.sl.getD 6 .junk, T.sl.getD 7 .junk, T.hp with
  | CV.ptr (0 : Nat) [], CV.ptr (1 : Nat) [], CV.ptr (2 : Nat) [], CV.int IntKind.i64 p0, ((Blk.mem (CV.pure (Ty.arr (32 : Nat) (Ty.int IntKind.u8)) p1)) :: (Blk.mem (CV.pure (Ty.arr (8 : Nat) (Ty.int IntKind.u32)) p2)) :: (Blk.mem (CV.pure (Ty.arr (32 : Nat) (Ty.int IntKind.u8)) p3)) :: []) => gd (shapeOK T 42 [2, 3, 6, 7] (0 : Nat)) (G p0 p1 p2 p3 k)
  | _, _, _, _, _ => none
theorem o_12_1_inv {R : Type} {G : (Int) → (List Int) → (List Int) → (List Int) → (Ex → St → Option R) → Option R} {T : St} {k : Ex → St → Option R} {r : R} (h : o_12_1 G T k = some r) : ∃ p0 p1 p2 p3, T = T_12_1 p0 p1 p2 p3 ∧ G p0 p1 p2 p3 k = some r := by
  unfold o_12_1 at h
  split at h
  · obtain ⟨hs, h'⟩ := gd_some h
    refine ⟨_, _, _, _, (st_of (asg := [(2, _), (3, _), (6, _), (7, _)]) hs ⟨by assumption, by assumption, by assumption, by assumption, trivial⟩ (by assumption)).trans ?_, h'⟩
    kernel_rfl
  · cases h
def O_12_12_0 {R : Type} : St → (Ex → St → Option R) → Option R := fun T k => o_12_0 G_12_0 T k
def O_12_12_1 {R : Type} : St → (Ex → St → Option R) → Option R := fun T k => o_12_1 G_12_1 T k
theorem body_12_0 {R : Type} (K0 : St → Option R) (K1 : Ex → St → Option R) (p0 : List Int) (p1 : Int) (p2 : List Int) (p3 : List Int) : evLB (evCodeL sm_12 FU (ovr noO (evFn sm_12 fns FU 0)) .nil ir12_b0) (St.norm ir12_v0) (T_12_0 p0 p1 p2 p3) K0 K1 =
  bif decide (p1 < (↑(List.length p0) : Int)) then gd (sl3 p1 (IntKind.wrap IntKind.i64 (p1 + (64 : Int))) (↑(List.length p0) : Int)) (gd (Sp.p_36 p3 (List.take (Int.toNat (IntKind.wrap IntKind.i64 (p1 + (64 : Int))) - Int.toNat p1) (List.drop (Int.toNat p1) p0))) (K0 (T_12_0 p0 (IntKind.wrap IntKind.i64 (p1 + (64 : Int))) p2 (Prod.fst (Sp.v_36 p3 (List.take (Int.toNat (IntKind.wrap IntKind.i64 (p1 + (64 : Int))) - Int.toNat p1) (List.drop (Int.toNat p1) p0))))))) else K1 (Ex.exit (0 : Nat)) (X_12_0_0 p2 p3) := by kernel_rfl
theorem Bgd_12_0 {R : Type} {c : Bool} {x : Option R} {y : Option Sp.E_12_0} {k0 : (List Int) → (List Int) → Option R} (h : x = Sp.B_12_0 y k0) : gd c x = Sp.B_12_0 (gd c y) k0 := by cases c; rfl; exact h
theorem Bcond_12_0 {R : Type} {c : Bool} {x x' : Option R} {y y' : Option Sp.E_12_0} {k0 : (List Int) → (List Int) → Option R} (h : x = Sp.B_12_0 y k0) (h' : x' = Sp.B_12_0 y' k0) : (bif c then x else x') = Sp.B_12_0 (bif c then y else y') k0 := by cases c; exact h'; exact h
theorem loop_12_0 {R : Type} (k : Ex → St → Option R) : ∀ (m : Nat) (p0 : List Int) (p1 : Int) (p2 : List Int) (p3 : List Int), evLoopN (evCodeL sm_12 FU (ovr noO (evFn sm_12 fns FU 0)) .nil ir12_b0) (St.norm ir12_v0) m (T_12_0 p0 p1 p2 p3) k = Sp.B_12_0 (Sp.L_12_0 m p0 p1 p2 p3) (fun p2 p3 => k (Ex.exit (0 : Nat)) (X_12_0_0 p2 p3))
  | 0, _, _, _, _ => rfl
  | m + 1, p0, p1, p2, p3 => by
    rw [evLoopN_succ, body_12_0, Sp.L_12_0]
    repeat' first | apply Bgd_12_0 | apply Bcond_12_0 | exact loop_12_0 k m _ _ _ _ | rfl
theorem ok_12_0 {R : Type} (T : St) (k : Ex → St → Option R) (r : R) (h0 : o_12_0 G_12_0 T k = some r) : evLoopN (evCode sm_12 FU (evFn sm_12 fns FU 0) ir12_b0) (St.norm ir12_v0) FU T k = some r := by
  obtain ⟨p0, p1, p2, p3, rfl, h⟩ := o_12_0_inv h0
  refine evLoopN_L (t := .nil) noO_ok trivial _ _ _ _ ?_
  rw [loop_12_0]
  exact h
theorem OK_12_12_0 {R : Type} (T : St) (k : Ex → St → Option R) (r : R) (h : O_12_12_0 T k = some r) : evLoopN (evCode sm_12 FU (evFn sm_12 fns FU 0) ir12_b0) (St.norm ir12_v0) FU T k = some r := ok_12_0 T k r h
theorem body_12_1 {R : Type} (K0 : St → Option R) (K1 : Ex → St → Option R) (p0 : Int) (p1 : List Int) (p2 : List Int) (p3 : List Int) : evLB (evCodeL sm_12 FU (ovr noO (evFn sm_12 fns FU 0)) .nil ir12_b1) (St.norm ir12_v1) (T_12_1 p0 p1 p2 p3) K0 K1 =
  bif decide (p0 < (32 : Int)) then gd (inB (IntKind.wrap IntKind.i64 (Int.tdiv p0 (4 : Int))) (8 : Nat)) (gd (decide (Int.toNat (IntKind.wrap IntKind.i64 (Int.tdiv p0 (4 : Int))) < (8 : Nat)) && true) (gd (decide ((0 : Int) ≤ IntKind.wrap IntKind.u64 (IntKind.wrap IntKind.i64 ((24 : Int) - IntKind.wrap IntKind.i64 (Int.tmod p0 (4 : Int) * (8 : Int)))))) (gd (inB p0 (32 : Nat)) (gd (decide (Int.toNat p0 < (32 : Nat)) && true) (K0 (T_12_1 (IntKind.wrap IntKind.i64 (p0 + (1 : Int))) p1 p2 (List.set p3 (Int.toNat p0) (IntKind.wrap IntKind.u8 (Int.fdiv (List.getD p2 (Int.toNat (IntKind.wrap IntKind.i64 (Int.tdiv p0 (4 : Int)))) (0 : Int)) ((2 : Int) ^ Nat.min (Int.toNat (IntKind.wrap IntKind.u64 (IntKind.wrap IntKind.i64 ((24 : Int) - IntKind.wrap IntKind.i64 (Int.tmod p0 (4 : Int) * (8 : Int)))))) (32 : Nat))))))))))) else K1 (Ex.exit (2 : Nat)) (X_12_1_0 p1 p3) := by kernel_rfl
theorem Bgd_12_1 {R : Type} {c : Bool} {x : Option R} {y : Option Sp.E_12_1} {k0 : (List Int) → (List Int) → Option R} (h : x = Sp.B_12_1 y k0) : gd c x = Sp.B_12_1 (gd c y) k0 := by cases c; rfl; exact h
theorem Bcond_12_1 {R : Type} {c : Bool} {x x' : Option R} {y y' : Option Sp.E_12_1} {k0 : (List Int) → (List Int) → Option R} (h : x = Sp.B_12_1 y k0) (h' : x' = Sp.B_12_1 y' k0) : (bif c then x else x') = Sp.B_12_1 (bif c then y else y') k0 := by cases c; exact h'; exact h
theorem loop_12_1 {R : Type} (k : Ex → St → Option R) : ∀ (m : Nat) (p0 : Int) (p1 : List Int) (p2 : List Int) (p3 : List Int), evLoopN (evCodeL sm_12 FU (ovr noO (evFn sm_12 fns FU 0)) .nil ir12_b1) (St.norm ir12_v1) m (T_12_1 p0 p1 p2 p3) k = Sp.B_12_1 (Sp.L_12_1 m p0 p1 p2 p3) (fun p1 p3 => k (Ex.exit (2 : Nat)) (X_12_1_0 p1 p3))
  | 0, _, _, _, _ => rfl
  | m + 1, p0, p1, p2, p3 => by
    rw [evLoopN_succ, body_12_1, Sp.L_12_1]
    repeat' first | apply Bgd_12_1 | apply Bcond_12_1 | exact loop_12_1 k m _ _ _ _ | rfl
theorem ok_12_1 {R : Type} (T : St) (k : Ex → St → Option R) (r : R) (h0 : o_12_1 G_12_1 T k = some r) : evLoopN (evCode sm_12 FU (evFn sm_12 fns FU 0) ir12_b1) (St.norm ir12_v1) FU T k = some r := by
  obtain ⟨p0, p1, p2, p3, rfl, h⟩ := o_12_1_inv h0
  refine evLoopN_L (t := .nil) noO_ok trivial _ _ _ _ ?_
  rw [loop_12_1]
  exact h
theorem OK_12_12_1 {R : Type} (T : St) (k : Ex → St → Option R) (r : R) (h : O_12_12_1 T k = some r) : evLoopN (evCode sm_12 FU (evFn sm_12 fns FU 0) ir12_b1) (St.norm ir12_v1) FU T k = some r := ok_12_1 T k r h
def F_12 (a0 : (List Int)) : Option ((List Int) × Unit) :=
  gd (Sp.p_35 a0) (Sp.B_12_0 (Sp.L_12_0 (4611686018427387904 : Nat) (Prod.fst (Sp.v_35 a0)) (0 : Int) (List.replicate (32 : Nat) (0 : Int)) [(1779033703 : Int), (3144134277 : Int), (1013904242 : Int), (2773480762 : Int), (1359893119 : Int), (2600822924 : Int), (528734635 : Int), (1541459225 : Int)]) fun (y4 y5 : List Int) => Sp.B_12_1 (Sp.L_12_1 (4611686018427387904 : Nat) (0 : Int) y4 y5 (List.replicate (32 : Nat) (0 : Int))) fun (y6 y7 : List Int) => some (y7, PUnit.unit))
theorem fn_12 (a0 : (List Int)) : evFnL sm_12 FU (ovr noO (evFn sm_12 fns FU 0)) (ir12_t O_12_12_0 O_12_12_1) ir12 (ofH [(.slice (.int .u8))] (a0, ())) [] (pureK [(.arr 32 (.int .u8))]) = F_12 a0 := by kernel_rfl
def Sp.p_12 (a0 : (List Int)) : Bool := (F_12 a0).isSome
def Sp.v_12 (a0 : (List Int)) : (List Int) × Unit := (F_12 a0).getD (dfH [(.arr 32 (.int .u8))])
def s_12 : Summ := shN [(.slice (.int .u8))] [(.arr 32 (.int .u8))] (fun x => Sp.p_12 x.1) (fun x => Sp.v_12 x.1)
theorem pv_12 (a0 : (List Int)) {y : (List Int) × Unit} (h : F_12 a0 = some y) : Sp.p_12 a0 = true ∧ Sp.v_12 a0 = y := ⟨by rw [Sp.p_12, h]; rfl, by rw [Sp.v_12, h]; rfl⟩
theorem run_12 (x : HDen [(.slice (.int .u8))]) (y : HDen [(.arr 32 (.int .u8))]) (h : F_12 x.1 = some y) : evFn sm_12 fns FU 1 12 (ofH [(.slice (.int .u8))] x) [] (pureK [(.arr 32 (.int .u8))]) = some y :=
  evFnL_sound (fn := ir12) (t := (ir12_t O_12_12_0 O_12_12_1)) (o := noO) rfl noO_ok (ir12_tok (fun T k r => OK_12_12_0 T k r) (fun T k r => OK_12_12_1 T k r)) ((fn_12 _).trans h)
end
end Go.Ev
set_option linter.unusedSimpArgs false
set_option linter.unusedVariables false
namespace Go.Ev
open Go
set_option maxRecDepth 100000
set_option maxHeartbeats 4000000
namespace Sp
def rotr (x : Int) (n : Nat) : Int := orI .u32 (x.fdiv (2 ^ n)) (IntKind.wrap .u32 (x * 2 ^ (32 - n)))
/-- The word at a place. -/
def wat (b : List Int) (i : Nat) : Int := orI .u32 (orI .u32 (orI .u32 (IntKind.wrap .u32 (IntKind.wrap .u32 (b.getD i 0) * 16777216)) (IntKind.wrap .u32 (IntKind.wrap .u32 (b.getD (i + 1) 0) * 65536))) (IntKind.wrap .u32 (IntKind.wrap .u32 (b.getD (i + 2) 0) * 256))) (IntKind.wrap .u32 (b.getD (i + 3) 0))
end Sp
theorem orI_comm (k : IntKind) (a b : Int) : Sp.orI k a b = Sp.orI k b a := by unfold Sp.orI; rw [BitVec.or_comm]
theorem word_ok (b : List Int) (h : 4 ≤ b.length) : F_47 b = some (Sp.wat b 0, ()) := by
  unfold F_47
  simp (disch := first | omega | (simp only [List.length_drop, List.length_take, List.length_set, List.length_append, List.length_replicate, List.length_cons, List.length_nil]; omega)) only [gd_and, gd_tt, gd_dec, gd_beq, gd_inB, gd_sl3, gd_room, cond_dtt, cond_dff, cond_ett, cond_eff, cond_ntt, cond_nff, cond_t, cond_f, wi64, Int.toNat_natCast]
  rfl
theorem word_pv (b : List Int) (h : 4 ≤ b.length) : Sp.p_47 b = true ∧ Sp.v_47 b = (Sp.wat b 0, ()) := pv_47 b (word_ok b h)
theorem p_word (b : List Int) (h : 4 ≤ b.length) : Sp.p_47 b = true := (word_pv b h).1
theorem v_word (b : List Int) (h : 4 ≤ b.length) : Sp.v_47 b = (Sp.wat b 0, ()) := (word_pv b h).2
theorem wat_drop (b : List Int) (i j : Nat) : Sp.wat (b.drop i) j = Sp.wat b (i + j) := by
  unfold Sp.wat
  simp only [List.getD_eq_getElem?_getD, List.getElem?_drop, Nat.add_assoc]
theorem wat_take (b : List Int) (n j : Nat) (h : j + 4 ≤ n) : Sp.wat (b.take n) j = Sp.wat b j := by
  unfold Sp.wat
  simp only [List.getD_eq_getElem?_getD, List.getElem?_take]
  simp only [show j < n by omega, show j + 1 < n by omega, show j + 2 < n by omega, show j + 3 < n by omega, if_true]
theorem turn_pv (x : Int) (n : Nat) (h0 : n ≤ 32) : Sp.p_50 x n = true ∧ Sp.v_50 x n = (Sp.rotr x n, ()) := by
  refine pv_50 x n ?_
  unfold F_50 Sp.rotr
  rw [wu64 (by omega) (by omega)]
  simp (disch := first | omega | (simp only [List.length_drop, List.length_take, List.length_set, List.length_append, List.length_replicate, List.length_cons, List.length_nil]; omega)) only [gd_and, gd_tt, gd_dec, gd_beq, gd_inB, gd_sl3, gd_room, cond_dtt, cond_dff, cond_ett, cond_eff, cond_ntt, cond_nff, cond_t, cond_f, wi64, Int.toNat_natCast]
  rw [show (32 - (n : Int)).toNat = 32 - n by omega, nmin_l (by omega), nmin_l (by omega)]
theorem rot_aux (x : Int) (n : Int) (m : Nat) (h : (Sp.andI .u64 (IntKind.wrap .u64 (IntKind.wrap .i64 (0 - n))) 31) = ((32 - m : Nat) : Int)) (h1 : m ≤ 32) : Sp.p_49 x n = true ∧ Sp.v_49 x n = (Sp.rotr x m, ()) := by
  have h2 : Sp.p_52 x (IntKind.wrap .i64 (0 - n)) = true ∧ Sp.v_52 x (IntKind.wrap .i64 (0 - n)) = (Sp.rotr x m, ()) := by
    refine pv_52 _ _ ?_
    unfold F_52 Sp.rotr
    rw [h, wu64 (by omega) (by omega)]
    simp (disch := first | omega | (simp only [List.length_drop, List.length_take, List.length_set, List.length_append, List.length_replicate, List.length_cons, List.length_nil]; omega)) only [gd_and, gd_tt, gd_dec, gd_beq, gd_inB, gd_sl3, gd_room, cond_dtt, cond_dff, cond_ett, cond_eff, cond_ntt, cond_nff, cond_t, cond_f, wi64, Int.toNat_natCast]
    rw [show (32 - (((32 - m : Nat)) : Int)).toNat = m by omega, nmin_l (by omega), nmin_l (by omega), orI_comm]
  refine pv_49 x n ?_
  unfold F_49
  rw [h2.1, h2.2]; rfl
theorem right7 (x : Int) : Sp.p_49 x 7 = true ∧ Sp.v_49 x 7 = (Sp.rotr x 7, ()) := rot_aux x 7 7 (by kernel_rfl) (by decide)
theorem right18 (x : Int) : Sp.p_49 x 18 = true ∧ Sp.v_49 x 18 = (Sp.rotr x 18, ()) := rot_aux x 18 18 (by kernel_rfl) (by decide)
theorem right17 (x : Int) : Sp.p_49 x 17 = true ∧ Sp.v_49 x 17 = (Sp.rotr x 17, ()) := rot_aux x 17 17 (by kernel_rfl) (by decide)
theorem right19 (x : Int) : Sp.p_49 x 19 = true ∧ Sp.v_49 x 19 = (Sp.rotr x 19, ()) := rot_aux x 19 19 (by kernel_rfl) (by decide)
theorem right6 (x : Int) : Sp.p_49 x 6 = true ∧ Sp.v_49 x 6 = (Sp.rotr x 6, ()) := rot_aux x 6 6 (by kernel_rfl) (by decide)
theorem right11 (x : Int) : Sp.p_49 x 11 = true ∧ Sp.v_49 x 11 = (Sp.rotr x 11, ()) := rot_aux x 11 11 (by kernel_rfl) (by decide)
theorem right25 (x : Int) : Sp.p_49 x 25 = true ∧ Sp.v_49 x 25 = (Sp.rotr x 25, ()) := rot_aux x 25 25 (by kernel_rfl) (by decide)
theorem right2 (x : Int) : Sp.p_49 x 2 = true ∧ Sp.v_49 x 2 = (Sp.rotr x 2, ()) := rot_aux x 2 2 (by kernel_rfl) (by decide)
theorem right13 (x : Int) : Sp.p_49 x 13 = true ∧ Sp.v_49 x 13 = (Sp.rotr x 13, ()) := rot_aux x 13 13 (by kernel_rfl) (by decide)
theorem right22 (x : Int) : Sp.p_49 x 22 = true ∧ Sp.v_49 x 22 = (Sp.rotr x 22, ()) := rot_aux x 22 22 (by kernel_rfl) (by decide)
theorem turn7 (x : Int) : Sp.p_50 x 7 = true ∧ Sp.v_50 x 7 = (Sp.rotr x 7, ()) := turn_pv x 7 (by decide)
theorem turn18 (x : Int) : Sp.p_50 x 18 = true ∧ Sp.v_50 x 18 = (Sp.rotr x 18, ()) := turn_pv x 18 (by decide)
theorem turn17 (x : Int) : Sp.p_50 x 17 = true ∧ Sp.v_50 x 17 = (Sp.rotr x 17, ()) := turn_pv x 17 (by decide)
theorem turn19 (x : Int) : Sp.p_50 x 19 = true ∧ Sp.v_50 x 19 = (Sp.rotr x 19, ()) := turn_pv x 19 (by decide)
theorem turn6 (x : Int) : Sp.p_50 x 6 = true ∧ Sp.v_50 x 6 = (Sp.rotr x 6, ()) := turn_pv x 6 (by decide)
theorem turn11 (x : Int) : Sp.p_50 x 11 = true ∧ Sp.v_50 x 11 = (Sp.rotr x 11, ()) := turn_pv x 11 (by decide)
theorem turn25 (x : Int) : Sp.p_50 x 25 = true ∧ Sp.v_50 x 25 = (Sp.rotr x 25, ()) := turn_pv x 25 (by decide)
theorem turn2 (x : Int) : Sp.p_50 x 2 = true ∧ Sp.v_50 x 2 = (Sp.rotr x 2, ()) := turn_pv x 2 (by decide)
theorem turn13 (x : Int) : Sp.p_50 x 13 = true ∧ Sp.v_50 x 13 = (Sp.rotr x 13, ()) := turn_pv x 13 (by decide)
theorem turn22 (x : Int) : Sp.p_50 x 22 = true ∧ Sp.v_50 x 22 = (Sp.rotr x 22, ()) := turn_pv x 22 (by decide)
end Go.Ev
set_option linter.unusedSimpArgs false
set_option linter.unusedVariables false
namespace Go.Ev
open Go
set_option maxRecDepth 100000
set_option maxHeartbeats 4000000
namespace Sp
def w0 (b : List Int) : List Int := foldB (fun j a => a.set j (wat b (4 * j))) 0 16 (List.replicate 64 0)
def stW (j : Nat) (a : List Int) : List Int := a.set j (IntKind.wrap .u32 (IntKind.wrap .u32 (IntKind.wrap .u32 (xorI .u32 (xorI .u32 (rotr (a.getD (j - 2) 0) 17) (rotr (a.getD (j - 2) 0) 19)) (Int.fdiv (a.getD (j - 2) 0) 1024) + a.getD (j - 7) 0) + xorI .u32 (xorI .u32 (rotr (a.getD (j - 15) 0) 7) (rotr (a.getD (j - 15) 0) 18)) (Int.fdiv (a.getD (j - 15) 0) 8)) + a.getD (j - 16) 0))
def w1 (b : List Int) : List Int := foldB stW 16 48 (w0 b)
def t1 (k w : List Int) (j : Nat) (s : List Int) : Int := IntKind.wrap .u32 (IntKind.wrap .u32 (IntKind.wrap .u32 (IntKind.wrap .u32 (s.getD 7 0 + xorI .u32 (xorI .u32 (rotr (s.getD 4 0) 6) (rotr (s.getD 4 0) 11)) (rotr (s.getD 4 0) 25)) + xorI .u32 (andI .u32 (s.getD 4 0) (s.getD 5 0)) (andI .u32 (xorI .u32 4294967295 (s.getD 4 0)) (s.getD 6 0))) + k.getD j 0) + w.getD j 0)
def t2 (s : List Int) : Int := IntKind.wrap .u32 (xorI .u32 (xorI .u32 (rotr (s.getD 0 0) 2) (rotr (s.getD 0 0) 13)) (rotr (s.getD 0 0) 22) + xorI .u32 (xorI .u32 (andI .u32 (s.getD 0 0) (s.getD 1 0)) (andI .u32 (s.getD 0 0) (s.getD 2 0))) (andI .u32 (s.getD 1 0) (s.getD 2 0)))
def stR (k w : List Int) (j : Nat) (s : List Int) : List Int := [IntKind.wrap .u32 (t1 k w j s + t2 s), s.getD 0 0, s.getD 1 0, s.getD 2 0, IntKind.wrap .u32 (s.getD 3 0 + t1 k w j s), s.getD 4 0, s.getD 5 0, s.getD 6 0]
def rnds (k w s : List Int) : List Int := foldB (stR k w) 0 64 s
def addS (s v : List Int) : List Int := foldB (fun j s => s.set j (IntKind.wrap .u32 (s.getD j 0 + v.getD j 0))) 0 8 s
/-- The state after a block. -/
def blk (k s b : List Int) : List Int := addS s (rnds k (w1 b) s)
end Sp
theorem foldB_len {f : Nat → List Int → List Int} (h : ∀ j a, (f j a).length = a.length) : ∀ d j a, (foldB f j d a).length = a.length
  | 0, _, _ => rfl
  | d + 1, j, a => by rw [foldB, foldB_len h d, h]
theorem w0_len (b : List Int) : (Sp.w0 b).length = 64 := by unfold Sp.w0; rw [foldB_len (fun j a => by simp)]; simp
theorem w1_len (b : List Int) : (Sp.w1 b).length = 64 := by unfold Sp.w1; rw [foldB_len (fun j a => by simp [Sp.stW]), w0_len]
theorem addS_len (s v : List Int) : (Sp.addS s v).length = s.length := by unfold Sp.addS; rw [foldB_len (fun j a => by simp)]
theorem blk_len (k s b : List Int) : (Sp.blk k s b).length = s.length := addS_len _ _
/-! sign.block, in the loop over what is whole -/
theorem i_w0 (m : Nat) (hm : 16 < m) (b p2 p3 p4 : List Int) (hb : b.length = 64) : Sp.L_11_33_0_0 m b 0 p2 p3 p4 (List.replicate 64 0) = some (.e0 p2 p3 p4 (Sp.w0 b)) := by
  refine (cnt0 (fun m j a => Sp.L_11_33_0_0 m b j p2 p3 p4 a) (n := 16) (inv := fun _ a => a.length = 64) (step := fun j a => a.set j (Sp.wat b (4 * j))) (ex := fun a => some (.e0 p2 p3 p4 a)) (m := m) (by simp) hm ?_ ?_ ?_)
  · intro m j a hj ha
    show Sp.L_11_33_0_0 (m + 1) b j p2 p3 p4 a = _
    rw [Sp.L_11_33_0_0]
    have h1 : (4 * (j : Int)).toNat = 4 * j := by omega
    simp (disch := first | omega | (simp only [List.length_drop, List.length_take, List.length_set, List.length_append, List.length_replicate, List.length_cons, List.length_nil]; omega)) only [gd_and, gd_tt, gd_dec, gd_beq, gd_inB, gd_sl3, gd_room, cond_dtt, cond_dff, cond_ett, cond_eff, cond_ntt, cond_nff, cond_t, cond_f, wi64, Int.toNat_natCast, h1, p_word, v_word, wat_drop, Nat.add_zero]
    rfl
  · intro j a hj ha; simpa using ha
  · intro m a ha
    show Sp.L_11_33_0_0 (m + 1) b 16 p2 p3 p4 a = _
    rw [Sp.L_11_33_0_0, cond_dff (by decide)]
theorem i_w1 (m : Nat) (hm : 48 < m) (b p1 p2 p3 : List Int) : Sp.L_11_33_1_0 m 16 p1 p2 p3 (Sp.w0 b) = some (.e0 p1 p2 p3 (Sp.w1 b)) := by
  refine (cnt_loop (fun m j a => Sp.L_11_33_1_0 m j p1 p2 p3 a) (n := 64) (inv := fun j a => a.length = 64 ∧ 16 ≤ j) (step := Sp.stW) (ex := fun a => some (.e0 p1 p2 p3 a)) ?_ ?_ ?_ 48 m 16 (Sp.w0 b) (by omega) ⟨w0_len b, by omega⟩ hm)
  · intro m j a hj ⟨ha, hj16⟩
    show Sp.L_11_33_1_0 (m + 1) j p1 p2 p3 a = _
    rw [Sp.L_11_33_1_0]
    have h1 : ((j : Int) - 15).toNat = j - 15 := by omega
    have h2 : ((j : Int) - 2).toNat = j - 2 := by omega
    have h3 : ((j : Int) - 7).toNat = j - 7 := by omega
    have h4 : ((j : Int) - 16).toNat = j - 16 := by omega
    simp (disch := first | omega | (simp only [List.length_drop, List.length_take, List.length_set, List.length_append, List.length_replicate, List.length_cons, List.length_nil]; omega)) only [gd_and, gd_tt, gd_dec, gd_beq, gd_inB, gd_sl3, gd_room, cond_dtt, cond_dff, cond_ett, cond_eff, cond_ntt, cond_nff, cond_t, cond_f, wi64, Int.toNat_natCast, h1, h2, h3, h4, right7, right18, right17, right19]
    rfl
  · intro j a hj ⟨ha, hj16⟩; exact ⟨by simpa [Sp.stW] using ha, by omega⟩
  · intro m a ⟨ha, _⟩
    show Sp.L_11_33_1_0 (m + 1) 64 p1 p2 p3 a = _
    rw [Sp.L_11_33_1_0, cond_dff (by decide)]
theorem i_rn (m : Nat) (hm : 64 < m) (p1 p2 k w s : List Int) : Sp.L_11_33_2_0 m 0 p1 p2 k w s = some (.e0 p1 p2 k (Sp.rnds k w s)) := by
  refine (cnt0 (fun m j a => Sp.L_11_33_2_0 m j p1 p2 k w a) (n := 64) (inv := fun _ _ => True) (step := Sp.stR k w) (ex := fun a => some (.e0 p1 p2 k a)) (m := m) trivial hm ?_ ?_ ?_)
  · intro m j a hj _
    show Sp.L_11_33_2_0 (m + 1) j p1 p2 k w a = _
    rw [Sp.L_11_33_2_0]
    simp (disch := first | omega | (simp only [List.length_drop, List.length_take, List.length_set, List.length_append, List.length_replicate, List.length_cons, List.length_nil]; omega)) only [gd_and, gd_tt, gd_dec, gd_beq, gd_inB, gd_sl3, gd_room, cond_dtt, cond_dff, cond_ett, cond_eff, cond_ntt, cond_nff, cond_t, cond_f, wi64, Int.toNat_natCast, right6, right11, right25, right2, right13, right22]
    rfl
  · intro j a hj _; trivial
  · intro m a _
    show Sp.L_11_33_2_0 (m + 1) 64 p1 p2 k w a = _
    rw [Sp.L_11_33_2_0, cond_dff (by decide)]
theorem i_ad (m : Nat) (hm : 8 < m) (p1 s k v : List Int) : Sp.L_11_33_3_0 m 0 p1 s k v = some (.e0 p1 (Sp.addS s v) k) := by
  refine (cnt0 (fun m j a => Sp.L_11_33_3_0 m j p1 a k v) (n := 8) (inv := fun _ _ => True) (step := fun j s => s.set j (IntKind.wrap .u32 (s.getD j 0 + v.getD j 0))) (ex := fun a => some (.e0 p1 a k)) (m := m) trivial hm ?_ ?_ ?_)
  · intro m j a hj _
    show Sp.L_11_33_3_0 (m + 1) j p1 a k v = _
    rw [Sp.L_11_33_3_0]
    simp (disch := first | omega | (simp only [List.length_drop, List.length_take, List.length_set, List.length_append, List.length_replicate, List.length_cons, List.length_nil]; omega)) only [gd_and, gd_tt, gd_dec, gd_beq, gd_inB, gd_sl3, gd_room, cond_dtt, cond_dff, cond_ett, cond_eff, cond_ntt, cond_nff, cond_t, cond_f, wi64, Int.toNat_natCast]
    rfl
  · intro j a hj _; trivial
  · intro m a _
    show Sp.L_11_33_3_0 (m + 1) 8 p1 a k v = _
    rw [Sp.L_11_33_3_0, cond_dff (by decide)]
end Go.Ev
set_option linter.unusedSimpArgs false
set_option linter.unusedVariables false
namespace Go.Ev
open Go
set_option maxRecDepth 100000
set_option maxHeartbeats 4000000
/-! sign.block, in the loop over what is left -/
theorem j_w0 (m : Nat) (hm : 16 < m) (o : Nat) (z : Nat) (p4 p5 p6 l : List Int) (ho : o + 64 ≤ 128) (hl : l.length = 128) : Sp.L_11_33_0_1 m o 64 z 0 p4 p5 p6 l (List.replicate 64 0) = some (.e0 p4 p5 p6 l (Sp.w0 ((l.drop o).take 64))) := by
  refine (cnt0 (fun m j a => Sp.L_11_33_0_1 m o 64 z j p4 p5 p6 l a) (n := 16) (inv := fun _ a => a.length = 64) (step := fun j a => a.set j (Sp.wat ((l.drop o).take 64) (4 * j))) (ex := fun a => some (.e0 p4 p5 p6 l a)) (m := m) (by simp) hm ?_ ?_ ?_)
  · intro m j a hj ha
    show Sp.L_11_33_0_1 (m + 1) o 64 z j p4 p5 p6 l a = _
    rw [Sp.L_11_33_0_1]
    have h1 : (4 * (j : Int)).toNat = 4 * j := by omega
    have h2 : ((64 : Nat) : Int).toNat = 64 := rfl
    simp (disch := first | omega | (simp only [List.length_drop, List.length_take, List.length_set, List.length_append, List.length_replicate, List.length_cons, List.length_nil]; omega)) only [gd_and, gd_tt, gd_dec, gd_beq, gd_inB, gd_sl3, gd_room, cond_dtt, cond_dff, cond_ett, cond_eff, cond_ntt, cond_nff, cond_t, cond_f, wi64, Int.toNat_natCast, h1, h2, p_word, v_word, wat_take, wat_drop, Nat.add_zero]
    rfl
  · intro j a hj ha; simpa using ha
  · intro m a ha
    show Sp.L_11_33_0_1 (m + 1) o 64 z 16 p4 p5 p6 l a = _
    rw [Sp.L_11_33_0_1, cond_dff (by decide)]
theorem j_w1 (m : Nat) (hm : 48 < m) (b p1 p2 p3 l : List Int) : Sp.L_11_33_1_1 m 16 p1 p2 p3 l (Sp.w0 b) = some (.e0 p1 p2 p3 l (Sp.w1 b)) := by
  refine (cnt_loop (fun m j a => Sp.L_11_33_1_1 m j p1 p2 p3 l a) (n := 64) (inv := fun j a => a.length = 64 ∧ 16 ≤ j) (step := Sp.stW) (ex := fun a => some (.e0 p1 p2 p3 l a)) ?_ ?_ ?_ 48 m 16 (Sp.w0 b) (by omega) ⟨w0_len b, by omega⟩ hm)
  · intro m j a hj ⟨ha, hj16⟩
    show Sp.L_11_33_1_1 (m + 1) j p1 p2 p3 l a = _
    rw [Sp.L_11_33_1_1]
    have h1 : ((j : Int) - 15).toNat = j - 15 := by omega
    have h2 : ((j : Int) - 2).toNat = j - 2 := by omega
    have h3 : ((j : Int) - 7).toNat = j - 7 := by omega
    have h4 : ((j : Int) - 16).toNat = j - 16 := by omega
    simp (disch := first | omega | (simp only [List.length_drop, List.length_take, List.length_set, List.length_append, List.length_replicate, List.length_cons, List.length_nil]; omega)) only [gd_and, gd_tt, gd_dec, gd_beq, gd_inB, gd_sl3, gd_room, cond_dtt, cond_dff, cond_ett, cond_eff, cond_ntt, cond_nff, cond_t, cond_f, wi64, Int.toNat_natCast, h1, h2, h3, h4, right7, right18, right17, right19]
    rfl
  · intro j a hj ⟨ha, hj16⟩; exact ⟨by simpa [Sp.stW] using ha, by omega⟩
  · intro m a ⟨ha, _⟩
    show Sp.L_11_33_1_1 (m + 1) 64 p1 p2 p3 l a = _
    rw [Sp.L_11_33_1_1, cond_dff (by decide)]
theorem j_rn (m : Nat) (hm : 64 < m) (p1 p2 k l w s : List Int) : Sp.L_11_33_2_1 m 0 p1 p2 k l w s = some (.e0 p1 p2 k l (Sp.rnds k w s)) := by
  refine (cnt0 (fun m j a => Sp.L_11_33_2_1 m j p1 p2 k l w a) (n := 64) (inv := fun _ _ => True) (step := Sp.stR k w) (ex := fun a => some (.e0 p1 p2 k l a)) (m := m) trivial hm ?_ ?_ ?_)
  · intro m j a hj _
    show Sp.L_11_33_2_1 (m + 1) j p1 p2 k l w a = _
    rw [Sp.L_11_33_2_1]
    simp (disch := first | omega | (simp only [List.length_drop, List.length_take, List.length_set, List.length_append, List.length_replicate, List.length_cons, List.length_nil]; omega)) only [gd_and, gd_tt, gd_dec, gd_beq, gd_inB, gd_sl3, gd_room, cond_dtt, cond_dff, cond_ett, cond_eff, cond_ntt, cond_nff, cond_t, cond_f, wi64, Int.toNat_natCast, right6, right11, right25, right2, right13, right22]
    rfl
  · intro j a hj _; trivial
  · intro m a _
    show Sp.L_11_33_2_1 (m + 1) 64 p1 p2 k l w a = _
    rw [Sp.L_11_33_2_1, cond_dff (by decide)]
theorem j_ad (m : Nat) (hm : 8 < m) (p1 s k l v : List Int) : Sp.L_11_33_3_1 m 0 p1 s k l v = some (.e0 p1 (Sp.addS s v) k l) := by
  refine (cnt0 (fun m j a => Sp.L_11_33_3_1 m j p1 a k l v) (n := 8) (inv := fun _ _ => True) (step := fun j s => s.set j (IntKind.wrap .u32 (s.getD j 0 + v.getD j 0))) (ex := fun a => some (.e0 p1 a k l)) (m := m) trivial hm ?_ ?_ ?_)
  · intro m j a hj _
    show Sp.L_11_33_3_1 (m + 1) j p1 a k l v = _
    rw [Sp.L_11_33_3_1]
    simp (disch := first | omega | (simp only [List.length_drop, List.length_take, List.length_set, List.length_append, List.length_replicate, List.length_cons, List.length_nil]; omega)) only [gd_and, gd_tt, gd_dec, gd_beq, gd_inB, gd_sl3, gd_room, cond_dtt, cond_dff, cond_ett, cond_eff, cond_ntt, cond_nff, cond_t, cond_f, wi64, Int.toNat_natCast]
    rfl
  · intro j a hj _; trivial
  · intro m a _
    show Sp.L_11_33_3_1 (m + 1) 8 p1 a k l v = _
    rw [Sp.L_11_33_3_1, cond_dff (by decide)]
/-! magnetoref53.block -/
theorem r_w0 (m : Nat) (hm : 16 < m) (b p2 p3 : List Int) (hb : b.length = 64) : Sp.L_36_0 m b 0 p2 p3 (List.replicate 64 0) = some (.e0 p2 p3 (Sp.w0 b)) := by
  refine (cnt0 (fun m j a => Sp.L_36_0 m b j p2 p3 a) (n := 16) (inv := fun _ a => a.length = 64) (step := fun j a => a.set j (Sp.wat b (4 * j))) (ex := fun a => some (.e0 p2 p3 a)) (m := m) (by simp) hm ?_ ?_ ?_)
  · intro m j a hj ha
    show Sp.L_36_0 (m + 1) b j p2 p3 a = _
    rw [Sp.L_36_0]
    have h1 : (4 * (j : Int)).toNat = 4 * j := by omega
    have h2 : (4 * (j : Int) + 1).toNat = 4 * j + 1 := by omega
    have h3 : (4 * (j : Int) + 2).toNat = 4 * j + 2 := by omega
    have h4 : (4 * (j : Int) + 3).toNat = 4 * j + 3 := by omega
    simp (disch := first | omega | (simp only [List.length_drop, List.length_take, List.length_set, List.length_append, List.length_replicate, List.length_cons, List.length_nil]; omega)) only [gd_and, gd_tt, gd_dec, gd_beq, gd_inB, gd_sl3, gd_room, cond_dtt, cond_dff, cond_ett, cond_eff, cond_ntt, cond_nff, cond_t, cond_f, wi64, Int.toNat_natCast, h1, h2, h3, h4]
    rfl
  · intro j a hj ha; simpa using ha
  · intro m a ha
    show Sp.L_36_0 (m + 1) b 16 p2 p3 a = _
    rw [Sp.L_36_0, cond_dff (by decide)]
theorem r_w1 (m : Nat) (hm : 48 < m) (b p1 p2 : List Int) : Sp.L_36_1 m 16 p1 p2 (Sp.w0 b) = some (.e0 p1 p2 (Sp.w1 b)) := by
  refine (cnt_loop (fun m j a => Sp.L_36_1 m j p1 p2 a) (n := 64) (inv := fun j a => a.length = 64 ∧ 16 ≤ j) (step := Sp.stW) (ex := fun a => some (.e0 p1 p2 a)) ?_ ?_ ?_ 48 m 16 (Sp.w0 b) (by omega) ⟨w0_len b, by omega⟩ hm)
  · intro m j a hj ⟨ha, hj16⟩
    show Sp.L_36_1 (m + 1) j p1 p2 a = _
    rw [Sp.L_36_1]
    have h1 : ((j : Int) - 15).toNat = j - 15 := by omega
    have h2 : ((j : Int) - 2).toNat = j - 2 := by omega
    have h3 : ((j : Int) - 7).toNat = j - 7 := by omega
    have h4 : ((j : Int) - 16).toNat = j - 16 := by omega
    simp (disch := first | omega | (simp only [List.length_drop, List.length_take, List.length_set, List.length_append, List.length_replicate, List.length_cons, List.length_nil]; omega)) only [gd_and, gd_tt, gd_dec, gd_beq, gd_inB, gd_sl3, gd_room, cond_dtt, cond_dff, cond_ett, cond_eff, cond_ntt, cond_nff, cond_t, cond_f, wi64, Int.toNat_natCast, h1, h2, h3, h4, turn7, turn18, turn17, turn19]
    rfl
  · intro j a hj ⟨ha, hj16⟩; exact ⟨by simpa [Sp.stW] using ha, by omega⟩
  · intro m a ⟨ha, _⟩
    show Sp.L_36_1 (m + 1) 64 p1 p2 a = _
    rw [Sp.L_36_1, cond_dff (by decide)]
theorem r_rn (m : Nat) (hm : 64 < m) (p1 p2 w k s : List Int) : Sp.L_36_2 m 0 p1 p2 w k s = some (.e0 p1 p2 (Sp.rnds k w s)) := by
  refine (cnt0 (fun m j a => Sp.L_36_2 m j p1 p2 w k a) (n := 64) (inv := fun _ _ => True) (step := Sp.stR k w) (ex := fun a => some (.e0 p1 p2 a)) (m := m) trivial hm ?_ ?_ ?_)
  · intro m j a hj _
    show Sp.L_36_2 (m + 1) j p1 p2 w k a = _
    rw [Sp.L_36_2]
    simp (disch := first | omega | (simp only [List.length_drop, List.length_take, List.length_set, List.length_append, List.length_replicate, List.length_cons, List.length_nil]; omega)) only [gd_and, gd_tt, gd_dec, gd_beq, gd_inB, gd_sl3, gd_room, cond_dtt, cond_dff, cond_ett, cond_eff, cond_ntt, cond_nff, cond_t, cond_f, wi64, Int.toNat_natCast, turn6, turn11, turn25, turn2, turn13, turn22]
    rfl
  · intro j a hj _; trivial
  · intro m a _
    show Sp.L_36_2 (m + 1) 64 p1 p2 w k a = _
    rw [Sp.L_36_2, cond_dff (by decide)]
theorem r_ad (m : Nat) (hm : 8 < m) (s p2 v : List Int) : Sp.L_36_3 m 0 s p2 v = some (.e0 (Sp.addS s v) p2) := by
  refine (cnt0 (fun m j a => Sp.L_36_3 m j a p2 v) (n := 8) (inv := fun _ _ => True) (step := fun j s => s.set j (IntKind.wrap .u32 (s.getD j 0 + v.getD j 0))) (ex := fun a => some (.e0 a p2)) (m := m) trivial hm ?_ ?_ ?_)
  · intro m j a hj _
    show Sp.L_36_3 (m + 1) j a p2 v = _
    rw [Sp.L_36_3]
    simp (disch := first | omega | (simp only [List.length_drop, List.length_take, List.length_set, List.length_append, List.length_replicate, List.length_cons, List.length_nil]; omega)) only [gd_and, gd_tt, gd_dec, gd_beq, gd_inB, gd_sl3, gd_room, cond_dtt, cond_dff, cond_ett, cond_eff, cond_ntt, cond_nff, cond_t, cond_f, wi64, Int.toNat_natCast]
    rfl
  · intro j a hj _; trivial
  · intro m a _
    show Sp.L_36_3 (m + 1) 8 a p2 v = _
    rw [Sp.L_36_3, cond_dff (by decide)]
theorem F_51_ok : F_51 = F_32 := by kernel_rfl
def Sp.K64 : List Int := (Sp.v_32).1
theorem p_32 : Sp.p_32 = true := by kernel_rfl
theorem p_51 : Sp.p_51 = true := by kernel_rfl
theorem v_51 : (Sp.v_51).1 = Sp.K64 := by kernel_rfl
theorem r_block (s b : List Int) (hb : b.length = 64) : F_36 s b = some (Sp.blk Sp.K64 s b, ()) := by
  unfold F_36
  rw [r_w0 _ (by omega) b s _ hb]
  simp only [Sp.B_36_0]
  rw [r_w1 _ (by omega)]
  simp only [Sp.B_36_1]
  rw [p_51, gd_tt, v_51, r_rn _ (by omega)]
  simp only [Sp.B_36_2]
  rw [r_ad _ (by omega)]
  rfl
end Go.Ev
set_option linter.unusedSimpArgs false
set_option linter.unusedVariables false
namespace Go.Ev
open Go
set_option maxRecDepth 100000
set_option maxHeartbeats 4000000
namespace Sp
/-- The state after n blocks. -/
def shaS : Nat → List Int → List Int → List Int
  | 0, _, s => s
  | n + 1, l, s => shaS n (l.drop 64) (blk K64 s (l.take 64))
end Sp
theorem shaS_len : ∀ (n : Nat) (l s : List Int), (Sp.shaS n l s).length = s.length
  | 0, _, _ => rfl
  | n + 1, l, s => by rw [Sp.shaS, shaS_len n, blk_len]
theorem shaS_app : ∀ (n m : Nat) (l s : List Int), Sp.shaS (n + m) l s = Sp.shaS m (l.drop (64 * n)) (Sp.shaS n l s)
  | 0, m, l, s => by simp [Sp.shaS]
  | n + 1, m, l, s => by
    rw [show n + 1 + m = (n + m) + 1 by omega, Sp.shaS, Sp.shaS, shaS_app n m, List.drop_drop]
    rw [show 64 + 64 * n = 64 * (n + 1) by omega]
theorem shaS_congr : ∀ (n : Nat) (l l' s : List Int), l.take (64 * n) = l'.take (64 * n) → Sp.shaS n l s = Sp.shaS n l' s
  | 0, _, _, _, _ => rfl
  | n + 1, l, l', s, h => by
    have h1 : l.take 64 = l'.take 64 := by
      have := congrArg (List.take 64) h
      simpa [List.take_take, show min 64 (64 * (n + 1)) = 64 by omega] using this
    have h2 : (l.drop 64).take (64 * n) = (l'.drop 64).take (64 * n) := by
      have := congrArg (List.drop 64) h
      simpa [List.drop_take, show 64 * (n + 1) - 64 = 64 * n by omega] using this
    rw [Sp.shaS, Sp.shaS, h1, shaS_congr n _ _ _ h2]
theorem i_main : ∀ (q m : Nat) (b l o s : List Int), 64 * q ≤ l.length → l.length < 64 * q + 64 → q < m → l.length < 4611686018427387904 → Sp.L_11_0 m b l o s Sp.K64 = some (.e0 b (l.drop (64 * q)) o (Sp.shaS q l s) Sp.K64)
  | 0, m + 1, b, l, o, s, h1, h2, _, h4 => by
    rw [Sp.L_11_0, cond_dff (by omega)]
    simp [Sp.shaS]
  | q + 1, m + 1, b, l, o, s, h1, h2, h3, h4 => by
    rw [Sp.L_11_0, cond_dtt (by omega), gd_sl3 (by omega) (by omega) (by omega), List.drop_zero, i_w0 _ (by omega) _ _ _ _ (by simp; omega)]
    simp only [Sp.B_11_33_0_0]
    rw [i_w1 _ (by omega)]
    simp only [Sp.B_11_33_1_0]
    rw [i_rn _ (by omega)]
    simp only [Sp.B_11_33_2_0]
    rw [i_ad _ (by omega)]
    simp only [Sp.B_11_33_3_0]
    rw [gd_sl3 (by omega) (by omega) (by omega), i_main q m b (l.drop 64) o _ (by simp; omega) (by simp; omega) (by omega) (by simp; omega), List.drop_drop, Sp.shaS]
    rw [show 64 + 64 * q = 64 * (q + 1) by omega]
    rfl
theorem r_main : ∀ (q m j : Nat) (l o s : List Int), l.length = 64 * (j + q) → q < m → l.length < 4611686018427387904 → Sp.L_12_0 m l ((64 * j : Nat) : Int) o s = some (.e0 o (Sp.shaS q (l.drop (64 * j)) s))
  | 0, m + 1, j, l, o, s, h1, _, h4 => by
    rw [Sp.L_12_0, cond_dff (by omega)]
    rfl
  | q + 1, m + 1, j, l, o, s, h1, h3, h4 => by
    have e1 : (((64 * j : Nat) : Int) + 64) = ((64 * (j + 1) : Nat) : Int) := by omega
    have e2 : 64 * (j + 1) - 64 * j = 64 := by omega
    rw [Sp.L_12_0, cond_dtt (by omega), wi64 (by omega) (by omega), gd_sl3 (by omega) (by omega) (by omega), e1, Int.toNat_natCast, Int.toNat_natCast, e2]
    have hb := pv_36 _ _ (r_block s ((l.drop (64 * j)).take 64) (by simp; omega))
    rw [hb.1, hb.2, gd_tt, r_main q m (j + 1) l o _ (by omega) (by omega) h4, Sp.shaS, List.drop_drop]
    rfl
end Go.Ev
set_option linter.unusedSimpArgs false
set_option linter.unusedVariables false
namespace Go.Ev
open Go
set_option maxRecDepth 100000
set_option maxHeartbeats 4000000
theorem j_main : ∀ (q m j : Nat) (o s l : List Int), j + q ≤ 2 → l.length = 128 → q < m → Sp.L_11_2 m ((64 * (j + q) : Nat) : Int) ((64 * j : Nat) : Int) o s Sp.K64 l = some (.e0 o (Sp.shaS q (l.drop (64 * j)) s))
  | 0, m + 1, j, o, s, l, h1, h2, _ => by
    rw [Sp.L_11_2, cond_dff (by omega)]
    rfl
  | q + 1, m + 1, j, o, s, l, h1, h2, h3 => by
    have e1 : (((64 * j : Nat) : Int) + 64) = ((64 * (j + 1) : Nat) : Int) := by omega
    have e2 : 64 * (j + 1) - 64 * j = 64 := by omega
    rw [Sp.L_11_2, cond_dtt (by omega), wi64 (by omega) (by omega), gd_sl3 (by omega) (by omega) (by omega), e1, Int.toNat_natCast, Int.toNat_natCast, e2, j_w0 _ (by omega) _ _ _ _ _ _ (by omega) h2]
    simp only [Sp.B_11_33_0_1]
    rw [j_w1 _ (by omega)]
    simp only [Sp.B_11_33_1_1]
    rw [j_rn _ (by omega)]
    simp only [Sp.B_11_33_2_1]
    rw [j_ad _ (by omega)]
    simp only [Sp.B_11_33_3_1]
    have := j_main q m (j + 1) o (Sp.addS s (Sp.rnds Sp.K64 (Sp.w1 ((l.drop (64 * j)).take 64)) s)) l (by omega) h2 (by omega)
    rw [show j + 1 + q = j + (q + 1) by omega] at this
    rw [this, Sp.shaS, List.drop_drop]
    rfl
theorem pad0 : ∀ (c m : Nat) (b p : List Int), (p.length + c) % 64 = 56 → c < 64 → c < m → p.length + c < 140737488300000 → Sp.L_35_0 m b p = some (.e0 b (p ++ List.replicate c 0))
  | 0, m + 1, b, p, h1, _, _, _ => by
    have e : Int.tmod (p.length : Int) 64 = ((p.length % 64 : Nat) : Int) := (Int.ofNat_tmod p.length 64).symm
    rw [Sp.L_35_0, e, cond_nff (by omega)]
    simp
  | c + 1, m + 1, b, p, h1, h2, h3, h4 => by
    have e : Int.tmod (p.length : Int) 64 = ((p.length % 64 : Nat) : Int) := (Int.ofNat_tmod p.length 64).symm
    rw [Sp.L_35_0, e, cond_ntt (by omega), gd_room (by omega) (by omega), pad0 c m b (p ++ [0]) (by simp; omega) (by omega) (by omega) (by simp; omega), List.append_assoc]
    rfl
namespace Sp
/-- The bytes of a length. -/
def szB (n : Int) : List Int := [IntKind.wrap .u8 (Int.fdiv n (2 ^ 56)), IntKind.wrap .u8 (Int.fdiv n (2 ^ 48)), IntKind.wrap .u8 (Int.fdiv n (2 ^ 40)), IntKind.wrap .u8 (Int.fdiv n (2 ^ 32)), IntKind.wrap .u8 (Int.fdiv n (2 ^ 24)), IntKind.wrap .u8 (Int.fdiv n (2 ^ 16)), IntKind.wrap .u8 (Int.fdiv n (2 ^ 8)), IntKind.wrap .u8 (Int.fdiv n (2 ^ 0))]
def padB (b : List Int) (c : Nat) : List Int := b ++ [128] ++ List.replicate c 0 ++ szB (b.length * 8)
end Sp
theorem pad_step (m : Nat) (n : Int) (i : Nat) (hi : i ≤ 56) (p : List Int) (hp : p.length < 140737488300000) : Sp.L_35_1 (m + 1) n (i : Nat) p = Sp.L_35_1 m n ((i : Int) - 8) (p ++ [IntKind.wrap .u8 (Int.fdiv n (2 ^ i))]) := by
  rw [Sp.L_35_1, cond_dtt (by omega), wu64 (by omega) (by omega), gd_dec (by omega), gd_room (by omega) (by omega), wi64 (by omega) (by omega), Int.toNat_natCast, nmin_l (by omega)]
theorem pad1 (m : Nat) (hm : 9 < m) (n : Int) (p : List Int) (hp : p.length < 140737488200000) : Sp.L_35_1 m n 56 p = some (.e0 (p ++ Sp.szB n)) := by
  obtain ⟨m, rfl⟩ : ∃ k, m = k + 9 := ⟨m - 9, by omega⟩
  have h := pad_step (m + 8) n 56 (by omega) p (by omega)
  have h2 := pad_step (m + 7) n 48 (by omega) (p ++ [IntKind.wrap .u8 (Int.fdiv n (2 ^ 56))]) (by simp; omega)
  have h3 := pad_step (m + 6) n 40 (by omega) (p ++ [IntKind.wrap .u8 (Int.fdiv n (2 ^ 56))] ++ [IntKind.wrap .u8 (Int.fdiv n (2 ^ 48))]) (by simp; omega)
  have h4 := pad_step (m + 5) n 32 (by omega) (p ++ [IntKind.wrap .u8 (Int.fdiv n (2 ^ 56))] ++ [IntKind.wrap .u8 (Int.fdiv n (2 ^ 48))] ++ [IntKind.wrap .u8 (Int.fdiv n (2 ^ 40))]) (by simp; omega)
  have h5 := pad_step (m + 4) n 24 (by omega) (p ++ [IntKind.wrap .u8 (Int.fdiv n (2 ^ 56))] ++ [IntKind.wrap .u8 (Int.fdiv n (2 ^ 48))] ++ [IntKind.wrap .u8 (Int.fdiv n (2 ^ 40))] ++ [IntKind.wrap .u8 (Int.fdiv n (2 ^ 32))]) (by simp; omega)
  have h6 := pad_step (m + 3) n 16 (by omega) (p ++ [IntKind.wrap .u8 (Int.fdiv n (2 ^ 56))] ++ [IntKind.wrap .u8 (Int.fdiv n (2 ^ 48))] ++ [IntKind.wrap .u8 (Int.fdiv n (2 ^ 40))] ++ [IntKind.wrap .u8 (Int.fdiv n (2 ^ 32))] ++ [IntKind.wrap .u8 (Int.fdiv n (2 ^ 24))]) (by simp; omega)
  have h7 := pad_step (m + 2) n 8 (by omega) (p ++ [IntKind.wrap .u8 (Int.fdiv n (2 ^ 56))] ++ [IntKind.wrap .u8 (Int.fdiv n (2 ^ 48))] ++ [IntKind.wrap .u8 (Int.fdiv n (2 ^ 40))] ++ [IntKind.wrap .u8 (Int.fdiv n (2 ^ 32))] ++ [IntKind.wrap .u8 (Int.fdiv n (2 ^ 24))] ++ [IntKind.wrap .u8 (Int.fdiv n (2 ^ 16))]) (by simp; omega)
  have h8 := pad_step (m + 1) n 0 (by omega) (p ++ [IntKind.wrap .u8 (Int.fdiv n (2 ^ 56))] ++ [IntKind.wrap .u8 (Int.fdiv n (2 ^ 48))] ++ [IntKind.wrap .u8 (Int.fdiv n (2 ^ 40))] ++ [IntKind.wrap .u8 (Int.fdiv n (2 ^ 32))] ++ [IntKind.wrap .u8 (Int.fdiv n (2 ^ 24))] ++ [IntKind.wrap .u8 (Int.fdiv n (2 ^ 16))] ++ [IntKind.wrap .u8 (Int.fdiv n (2 ^ 8))]) (by simp; omega)
  refine h.trans (h2.trans (h3.trans (h4.trans (h5.trans (h6.trans (h7.trans (h8.trans ?_)))))))
  show Sp.L_35_1 (m + 1) n (-8) _ = _
  rw [Sp.L_35_1, cond_dff (by decide)]
  simp [Sp.szB]
theorem pad_ok (b : List Int) (c : Nat) (h1 : (b.length + 1 + c) % 64 = 56) (h2 : c < 64) (h3 : b.length < 100000000000) : F_35 b = some (Sp.padB b c, ()) := by
  unfold F_35
  rw [gd_room (by omega) (by omega), List.nil_append, gd_room (by omega) (by omega), pad0 c _ b (b ++ [128]) (by simp; omega) h2 (by omega) (by simp; omega)]
  simp only [Sp.B_35_0]
  rw [wu64 (n := (b.length : Int)) (by omega) (by omega), wu64 (n := (b.length : Int) * 8) (by omega) (by omega), pad1 _ (by omega) _ _ (by simp; omega)]
  rfl
end Go.Ev
set_option linter.unusedSimpArgs false
set_option linter.unusedVariables false
namespace Go.Ev
open Go
set_option maxRecDepth 100000
set_option maxHeartbeats 4000000
namespace Sp
def H0 : List Int := [1779033703, 3144134277, 1013904242, 2773480762, 1359893119, 2600822924, 528734635, 1541459225]
/-- The bytes of the state. -/
def outB (s : List Int) : List Int := foldB (fun i o => (((o.set (4 * i) (IntKind.wrap .u8 (Int.fdiv (s.getD i 0) 16777216))).set (4 * i + 1) (IntKind.wrap .u8 (Int.fdiv (s.getD i 0) 65536))).set (4 * i + 2) (IntKind.wrap .u8 (Int.fdiv (s.getD i 0) 256))).set (4 * i + 3) (IntKind.wrap .u8 (s.getD i 0))) 0 8 (List.replicate 32 0)
/-- SHA-256. -/
def sha (b : List Int) : List Int := outB (shaS ((b.length + 72) / 64) (padB b ((119 - b.length % 64) % 64)) H0)
end Sp
theorem i_out (m : Nat) (hm : 8 < m) (s p2 : List Int) : Sp.L_11_3 m s 0 p2 (List.replicate 32 0) = some (.e0 p2 (Sp.outB s)) := by
  refine (cnt0 (fun m j a => Sp.L_11_3 m s j p2 a) (n := 8) (inv := fun _ a => True) (step := fun i o => (((o.set (4 * i) (IntKind.wrap .u8 (Int.fdiv (s.getD i 0) 16777216))).set (4 * i + 1) (IntKind.wrap .u8 (Int.fdiv (s.getD i 0) 65536))).set (4 * i + 2) (IntKind.wrap .u8 (Int.fdiv (s.getD i 0) 256))).set (4 * i + 3) (IntKind.wrap .u8 (s.getD i 0))) (ex := fun a => some (.e0 p2 a)) (m := m) trivial hm ?_ ?_ ?_)
  · intro m j a hj _
    show Sp.L_11_3 (m + 1) s j p2 a = _
    rw [Sp.L_11_3]
    have h1 : (4 * (j : Int)).toNat = 4 * j := by omega
    simp (disch := first | omega | (simp only [List.length_drop, List.length_take, List.length_set, List.length_append, List.length_replicate, List.length_cons, List.length_nil]; omega)) only [gd_and, gd_tt, gd_dec, gd_beq, gd_inB, gd_sl3, gd_room, cond_dtt, cond_dff, cond_ett, cond_eff, cond_ntt, cond_nff, cond_t, cond_f, wi64, Int.toNat_natCast, h1, Nat.add_zero]
    rfl
  · intro j a hj _; trivial
  · intro m a _
    show Sp.L_11_3 (m + 1) s 8 p2 a = _
    rw [Sp.L_11_3, cond_dff (by decide)]
namespace Sp
def stO (s : List Int) (j : Nat) (o : List Int) : List Int := o.set j (IntKind.wrap .u8 (Int.fdiv (s.getD (j / 4) 0) (2 ^ (24 - j % 4 * 8))))
end Sp
theorem r_out (m : Nat) (hm : 32 < m) (s p1 : List Int) : Sp.L_12_1 m 0 p1 s (List.replicate 32 0) = some (.e0 p1 (foldB (Sp.stO s) 0 32 (List.replicate 32 0))) := by
  refine (cnt0 (fun m j a => Sp.L_12_1 m j p1 s a) (n := 32) (inv := fun _ a => True) (step := Sp.stO s) (ex := fun a => some (.e0 p1 a)) (m := m) trivial hm ?_ ?_ ?_)
  · intro m j a hj _
    show Sp.L_12_1 (m + 1) j p1 s a = _
    have e : Int.tmod (j : Int) 4 = ((j % 4 : Nat) : Int) := (Int.ofNat_tmod j 4).symm
    have e2 : Int.tdiv (j : Int) 4 = ((j / 4 : Nat) : Int) := (Int.ofNat_tdiv j 4).symm
    have e3 : ((24 : Int) - ((j % 4 : Nat) : Int) * 8) = ((24 - j % 4 * 8 : Nat) : Int) := by omega
    rw [Sp.L_12_1, e, e2]
    simp (disch := first | omega | (simp only [List.length_drop, List.length_take, List.length_set, List.length_append, List.length_replicate, List.length_cons, List.length_nil]; omega)) only [gd_and, gd_tt, gd_dec, gd_beq, gd_inB, gd_sl3, gd_room, cond_dtt, cond_dff, cond_ett, cond_eff, cond_ntt, cond_nff, cond_t, cond_f, wi64, Int.toNat_natCast]
    rw [e3, wu64 (by omega) (by omega), gd_dec (by omega), Int.toNat_natCast, nmin_l (by omega)]
    rfl
  · intro j a hj _; trivial
  · intro m a _
    show Sp.L_12_1 (m + 1) 32 p1 s a = _
    rw [Sp.L_12_1, cond_dff (by decide)]
theorem fdiv1 (x : Int) : Int.fdiv x (2 ^ 0) = x := by simp
theorem out_eq (s : List Int) : foldB (Sp.stO s) 0 32 (List.replicate 32 0) = Sp.outB s := by
  simp only [foldB, Sp.outB, Sp.stO, fdiv1, Nat.reduceMul, Nat.reduceAdd, Nat.reduceDiv, Nat.reduceMod, Nat.reduceSub]
  rfl
end Go.Ev
set_option linter.unusedSimpArgs false
set_option linter.unusedVariables false
namespace Go.Ev
open Go
set_option maxRecDepth 100000
set_option maxHeartbeats 4000000
theorem r_sum (b : List Int) (h3 : b.length < 100000000000) : F_12 b = some (Sp.sha b, ()) := by
  have hp := pv_35 _ (pad_ok b ((119 - b.length % 64) % 64) (by omega) (by omega) h3)
  have hl : (Sp.padB b ((119 - b.length % 64) % 64)).length = 64 * (0 + (b.length + 72) / 64) := by
    simp [Sp.padB, Sp.szB]; omega
  unfold F_12
  rw [hp.1, hp.2, gd_tt]
  have := r_main ((b.length + 72) / 64) 4611686018427387904 0 _ (List.replicate 32 0) Sp.H0 hl (by omega) (by omega)
  rw [show ((64 * 0 : Nat) : Int) = 0 from rfl] at this
  show Sp.B_12_0 (Sp.L_12_0 _ _ 0 (List.replicate 32 0) Sp.H0) _ = _
  rw [this]
  simp only [Sp.B_12_0]
  rw [r_out _ (by omega), out_eq]
  rfl
theorem set8 (A C : List Int) (c0 c1 c2 c3 c4 c5 c6 c7 x0 x1 x2 x3 x4 x5 x6 x7 : Int) (n : Nat) (hn : A.length = n) :
    ((((((((A ++ c0 :: c1 :: c2 :: c3 :: c4 :: c5 :: c6 :: c7 :: C).set (n + 0) x0).set (n + 1) x1).set (n + 2) x2).set (n + 3) x3).set (n + 4) x4).set (n + 5) x5).set (n + 6) x6).set (n + 7) x7 = A ++ x0 :: x1 :: x2 :: x3 :: x4 :: x5 :: x6 :: x7 :: C := by
  subst hn
  simp only [List.set_append, Nat.lt_irrefl, Nat.add_sub_cancel_left, if_false, show ∀ k, ¬ (A.length + k < A.length) from fun k => by omega, List.set_cons_zero, List.set_cons_succ]
theorem size_eq (n : Int) (h0 : 0 ≤ n) (h1 : n < 18446744073709551616) : [IntKind.wrap .u8 (Int.fdiv (IntKind.wrap .u32 (Int.fdiv n 4294967296)) 16777216), IntKind.wrap .u8 (Int.fdiv (IntKind.wrap .u32 (Int.fdiv n 4294967296)) 65536), IntKind.wrap .u8 (Int.fdiv (IntKind.wrap .u32 (Int.fdiv n 4294967296)) 256), IntKind.wrap .u8 (IntKind.wrap .u32 (Int.fdiv n 4294967296)), IntKind.wrap .u8 (Int.fdiv (IntKind.wrap .u32 n) 16777216), IntKind.wrap .u8 (Int.fdiv (IntKind.wrap .u32 n) 65536), IntKind.wrap .u8 (Int.fdiv (IntKind.wrap .u32 n) 256), IntKind.wrap .u8 (IntKind.wrap .u32 n)] = Sp.szB n := by
  unfold Sp.szB
  simp only [u8_mod, u32_mod, Int.fdiv_eq_ediv_of_nonneg _ (show (0 : Int) ≤ 4294967296 by decide), Int.fdiv_eq_ediv_of_nonneg _ (show (0 : Int) ≤ 16777216 by decide), Int.fdiv_eq_ediv_of_nonneg _ (show (0 : Int) ≤ 65536 by decide), Int.fdiv_eq_ediv_of_nonneg _ (show (0 : Int) ≤ 256 by decide),
    Int.fdiv_eq_ediv_of_nonneg _ (show (0 : Int) ≤ 2 ^ 56 by decide), Int.fdiv_eq_ediv_of_nonneg _ (show (0 : Int) ≤ 2 ^ 48 by decide), Int.fdiv_eq_ediv_of_nonneg _ (show (0 : Int) ≤ 2 ^ 40 by decide), Int.fdiv_eq_ediv_of_nonneg _ (show (0 : Int) ≤ 2 ^ 32 by decide), Int.fdiv_eq_ediv_of_nonneg _ (show (0 : Int) ≤ 2 ^ 24 by decide), Int.fdiv_eq_ediv_of_nonneg _ (show (0 : Int) ≤ 2 ^ 16 by decide), Int.fdiv_eq_ediv_of_nonneg _ (show (0 : Int) ≤ 2 ^ 8 by decide), fdiv1]
  simp only [List.cons.injEq, and_true]
  refine ⟨?_, ?_, ?_, ?_, ?_, ?_, ?_, ?_⟩ <;> omega
theorem last_eq (rest : List Int) (e : Nat) (he : e = 64 ∨ e = 128) (hn : rest.length + 9 ≤ e) : (over (List.replicate 128 0) 0 (rest.take 128)).set rest.length 128 = (rest ++ [128] ++ List.replicate (e - 9 - rest.length) 0) ++ (0 : Int) :: 0 :: 0 :: 0 :: 0 :: 0 :: 0 :: 0 :: List.replicate (128 - e) 0 := by
  have h1 : rest.take 128 = rest := List.take_of_length_le (by omega)
  have h2 : over (List.replicate 128 (0 : Int)) 0 rest = rest ++ 0 :: List.replicate (127 - rest.length) 0 := by
    unfold over
    simp only [List.take_zero, List.nil_append, List.drop_replicate]
    rw [show 128 - (0 + rest.length) = (127 - rest.length) + 1 by omega, List.replicate_succ]
  rw [h1, h2, List.set_append, if_neg (by omega), Nat.sub_self, List.set_cons_zero]
  rw [show 127 - rest.length = (e - 9 - rest.length) + (8 + (128 - e)) by omega, ← List.replicate_append_replicate, ← List.replicate_append_replicate]
  simp [List.replicate]
end Go.Ev
set_option linter.unusedSimpArgs false
set_option linter.unusedVariables false
namespace Go.Ev
open Go
set_option maxRecDepth 100000
set_option maxHeartbeats 4000000
theorem J_ok (b o st rest : List Int) (e : Nat) (he : e = 64 ∨ e = 128) (hn : rest.length + 9 ≤ e) (hb : b.length < 100000000000) :
    Sp.J_11_1 b e (List.replicate 32 0) st Sp.K64 ((over (List.replicate 128 0) 0 (rest.take 128)).set rest.length 128) = some (.e0 (Sp.outB (Sp.shaS (e / 64) (rest ++ [128] ++ List.replicate (e - 9 - rest.length) 0 ++ Sp.szB (b.length * 8)) st))) := by
  have e8 : ((e : Int) - 8).toNat = e - 8 := by omega
  have e4 : ((e : Int) - 4).toNat = e - 4 := by omega
  rw [last_eq rest e he hn]
  unfold Sp.J_11_1
  simp (disch := first | omega | (simp only [List.length_drop, List.length_take, List.length_set, List.length_append, List.length_replicate, List.length_cons, List.length_nil]; omega)) only [gd_and, gd_tt, gd_dec, gd_beq, gd_inB, gd_sl3, gd_room, cond_dtt, cond_dff, cond_ett, cond_eff, cond_ntt, cond_nff, cond_t, cond_f, wi64, Int.toNat_natCast, e8, e4]
  rw [wu64 (n := (b.length : Int)) (by omega) (by omega), wu64 (n := (b.length : Int) * 8) (by omega) (by omega)]
  rw [show e - 4 + 0 = e - 8 + 4 by omega, show e - 4 + 1 = e - 8 + 5 by omega, show e - 4 + 2 = e - 8 + 6 by omega, show e - 4 + 3 = e - 8 + 7 by omega]
  rw [set8 _ _ _ _ _ _ _ _ _ _ _ _ _ _ _ _ _ _ (e - 8) (by simp; omega)]
  have hsz := size_eq ((b.length : Int) * 8) (by omega) (by omega)
  generalize hA : rest ++ [128] ++ List.replicate (e - 9 - rest.length) (0 : Int) = A
  have hAl : A.length = e - 8 := by rw [← hA]; simp; omega
  generalize hx : (IntKind.wrap .u8 (Int.fdiv (IntKind.wrap .u32 (Int.fdiv ((b.length : Int) * 8) 4294967296)) 16777216)) = x0 at hsz ⊢
  generalize (IntKind.wrap .u8 (Int.fdiv (IntKind.wrap .u32 (Int.fdiv ((b.length : Int) * 8) 4294967296)) 65536)) = x1 at hsz ⊢
  generalize (IntKind.wrap .u8 (Int.fdiv (IntKind.wrap .u32 (Int.fdiv ((b.length : Int) * 8) 4294967296)) 256)) = x2 at hsz ⊢
  generalize (IntKind.wrap .u8 (IntKind.wrap .u32 (Int.fdiv ((b.length : Int) * 8) 4294967296))) = x3 at hsz ⊢
  generalize (IntKind.wrap .u8 (Int.fdiv (IntKind.wrap .u32 ((b.length : Int) * 8)) 16777216)) = x4 at hsz ⊢
  generalize (IntKind.wrap .u8 (Int.fdiv (IntKind.wrap .u32 ((b.length : Int) * 8)) 65536)) = x5 at hsz ⊢
  generalize (IntKind.wrap .u8 (Int.fdiv (IntKind.wrap .u32 ((b.length : Int) * 8)) 256)) = x6 at hsz ⊢
  generalize (IntKind.wrap .u8 (IntKind.wrap .u32 ((b.length : Int) * 8))) = x7 at hsz ⊢
  have hl : (A ++ x0 :: x1 :: x2 :: x3 :: x4 :: x5 :: x6 :: x7 :: List.replicate (128 - e) 0).length = 128 := by simp [hAl]; omega
  have hm := j_main (e / 64) 4611686018427387904 0 (List.replicate 32 0) st _ (by omega) hl (by omega)
  rw [show 64 * (0 + e / 64) = e by omega, show ((64 * 0 : Nat) : Int) = 0 from rfl] at hm
  rw [hm]
  simp only [Sp.B_11_2]
  rw [List.drop_zero, i_out _ (by omega)]
  simp only [Sp.B_11_3]
  rw [← hsz, shaS_congr (e / 64) _ (A ++ [x0, x1, x2, x3, x4, x5, x6, x7])]
  rw [show 64 * (e / 64) = (A ++ [x0, x1, x2, x3, x4, x5, x6, x7]).length by simp [hAl]; omega, List.take_length,
    show A ++ x0 :: x1 :: x2 :: x3 :: x4 :: x5 :: x6 :: x7 :: List.replicate (128 - e) 0 = (A ++ [x0, x1, x2, x3, x4, x5, x6, x7]) ++ List.replicate (128 - e) 0 by simp, List.take_left]
theorem i_sum (b : List Int) (h3 : b.length < 100000000000) : F_11 b = some (Sp.sha b, ()) := by
  unfold F_11
  rw [p_32, gd_tt]
  have hq := i_main (b.length / 64) 4611686018427387904 b b (List.replicate 32 0) Sp.H0 (by omega) (by omega) (by omega) (by omega)
  show Sp.B_11_0 (Sp.L_11_0 _ b b (List.replicate 32 0) Sp.H0 Sp.K64) _ = _
  rw [hq]
  simp only [Sp.B_11_0]
  have hrl : (b.drop (64 * (b.length / 64))).length = b.length % 64 := by simp; omega
  generalize hr : b.drop (64 * (b.length / 64)) = rest at hrl ⊢
  rw [nmin_l (by omega), gd_inB (by omega) (by omega), Int.toNat_natCast, gd_and, gd_dec (by omega), gd_tt, wi64 (by omega) (by omega)]
  have hN : (b.length + 72) / 64 = b.length / 64 + ((if rest.length ≤ 55 then 64 else 128) / 64) := by split <;> omega
  have hfin : ∀ e : Nat, e = (if rest.length ≤ 55 then 64 else 128) → Sp.outB (Sp.shaS (e / 64) (rest ++ [128] ++ List.replicate (e - 9 - rest.length) 0 ++ Sp.szB (b.length * 8)) (Sp.shaS (b.length / 64) b Sp.H0)) = Sp.sha b := by
    intro e he
    unfold Sp.sha
    rw [hN, ← he, shaS_app]
    have hc : (119 - b.length % 64) % 64 = e - 9 - rest.length := by rw [hrl] at he ⊢; split at he <;> omega
    have e1 : (Sp.padB b ((119 - b.length % 64) % 64)).drop (64 * (b.length / 64)) = rest ++ [128] ++ List.replicate (e - 9 - rest.length) 0 ++ Sp.szB (b.length * 8) := by
      rw [hc, Sp.padB]
      simp only [List.append_assoc]
      rw [List.drop_append_of_le_length (by omega), hr]
    have e2 : Sp.shaS (b.length / 64) (Sp.padB b ((119 - b.length % 64) % 64)) Sp.H0 = Sp.shaS (b.length / 64) b Sp.H0 := by
      refine shaS_congr _ _ _ _ ?_
      rw [Sp.padB]
      simp only [List.append_assoc]
      rw [List.take_append_of_le_length (by omega)]
    rw [e1, e2]
  by_cases h : rest.length ≤ 55
  · rw [cond_dff (by omega)]
    have := J_ok b (List.replicate 32 0) (Sp.shaS (b.length / 64) b Sp.H0) rest 64 (.inl rfl) (by omega) h3
    rw [show ((64 : Nat) : Int) = 64 from rfl] at this
    rw [this]
    simp only [Sp.B_11_1]
    rw [hfin 64 (by rw [if_pos h])]
  · rw [cond_dtt (by omega)]
    have := J_ok b (List.replicate 32 0) (Sp.shaS (b.length / 64) b Sp.H0) rest 128 (.inr rfl) (by omega) h3
    rw [show ((128 : Nat) : Int) = 128 from rfl] at this
    rw [this]
    simp only [Sp.B_11_1]
    rw [hfin 128 (by rw [if_neg h])]
end Go.Ev
namespace Go.Ev
open Go
set_option maxRecDepth 100000
set_option maxHeartbeats 4000000
set_option linter.unusedVariables false
noncomputable section

def sm_15 : Nat → Option Summ := fun f => none
def T_15_0 (p0 : Int) (p1 : Int) (p2 : List Int) (p3 : List Int) : St := St.mk [jk, CV.ptr (0 : Nat) [], jk, CV.whole (1 : Nat), CV.int IntKind.i64 p0, CV.int IntKind.i64 p1, jk, jk, jk, jk, jk, jk, jk, jk, jk, jk, jk, jk, jk, jk, jk, jk, jk, jk, jk, jk, jk, jk, jk, jk, jk, jk, jk, jk, jk, jk, jk, jk, jk, jk, jk, jk, jk, jk] [Blk.mem (CV.pure (Ty.arr (32 : Nat) (Ty.int IntKind.u8)) p2), Blk.vec (3 : Nat) (Ty.int IntKind.i64) p3] (0 : Nat)
def X_15_0_0 (p0 : Int) (p3 : List Int) : St := St.mk [jk, jk, jk, CV.whole (0 : Nat), CV.int IntKind.i64 p0, jk, jk, jk, jk, jk, jk, jk, jk, jk, jk, jk, jk, jk, jk, jk, jk, jk, jk, jk, jk, jk, jk, jk, jk, jk, jk, jk, jk, jk, jk, jk, jk, jk, jk, jk, jk, jk, jk, jk] [Blk.vec (3 : Nat) (Ty.int IntKind.i64) p3] (0 : Nat)
inductive Sp.E_15_0 where
  | e0 (p0 : Int) (p3 : List Int)
def Sp.B_15_0 {R : Type} (r : Option Sp.E_15_0) (k0 : (Int) → (List Int) → Option R) : Option R := match r with
  | none => none
  | some (.e0 p0 p3) => k0 p0 p3
def Sp.L_15_0 : Nat → (Int) → (Int) → (List Int) → (List Int) → Option Sp.E_15_0
  | 0, _, _, _, _ => none
  | m + 1, p0, p1, p2, p3 => bif decide (p1 < (64 : Int)) then gd (inB (IntKind.wrap IntKind.i64 (Int.tdiv p1 (2 : Int))) (32 : Nat)) (gd (decide (Int.toNat (IntKind.wrap IntKind.i64 (Int.tdiv p1 (2 : Int))) < (32 : Nat)) && true) (bif Int.tmod p1 (2 : Int) == (1 : Int) then gd (inB (IntKind.wrap IntKind.i64 (Int.tdiv p1 (2 : Int))) (32 : Nat)) (gd (decide (Int.toNat (IntKind.wrap IntKind.i64 (Int.tdiv p1 (2 : Int))) < (32 : Nat)) && true) (gd (room (List.length p3 + (1 : Nat)) (8 : Nat)) (Sp.L_15_0 m (IntKind.wrap IntKind.i64 (IntKind.wrap IntKind.i64 (p0 + (15 : Int)) - IntKind.wrap IntKind.i64 (Sp.andI IntKind.u8 (List.getD p2 (Int.toNat (IntKind.wrap IntKind.i64 (Int.tdiv p1 (2 : Int)))) (0 : Int)) (15 : Int)))) (IntKind.wrap IntKind.i64 (p1 + (1 : Int))) p2 (p3 ++ [IntKind.wrap IntKind.i64 (Sp.andI IntKind.u8 (List.getD p2 (Int.toNat (IntKind.wrap IntKind.i64 (Int.tdiv p1 (2 : Int)))) (0 : Int)) (15 : Int))])))) else gd (room (List.length p3 + (1 : Nat)) (8 : Nat)) (Sp.L_15_0 m (IntKind.wrap IntKind.i64 (IntKind.wrap IntKind.i64 (p0 + (15 : Int)) - IntKind.wrap IntKind.i64 (Int.fdiv (List.getD p2 (Int.toNat (IntKind.wrap IntKind.i64 (Int.tdiv p1 (2 : Int)))) (0 : Int)) (16 : Int)))) (IntKind.wrap IntKind.i64 (p1 + (1 : Int))) p2 (p3 ++ [IntKind.wrap IntKind.i64 (Int.fdiv (List.getD p2 (Int.toNat (IntKind.wrap IntKind.i64 (Int.tdiv p1 (2 : Int)))) (0 : Int)) (16 : Int))])))) else some (Sp.E_15_0.e0 p0 p3)
def G_15_0 {R : Type} (p0 : Int) (p1 : Int) (p2 : List Int) (p3 : List Int) (k : Ex → St → Option R) : Option R := Sp.B_15_0 (Sp.L_15_0 FU p0 p1 p2 p3) (fun p0 p3 => k (Ex.exit (0 : Nat)) (X_15_0_0 p0 p3))
def o_15_0 {R : Type} (G : (Int) → (Int) → (List Int) → (List Int) → (Ex → St → Option R) → Option R) : St → (Ex → St → Option R) → Option R := fun T k => match T.sl.getD 1 .junk, T.sl.getD 3 .junk, T.sl.getD 4 .junk, T.sl.getD 5 .junk, T.hp with
  | CV.ptr (0 : Nat) [], CV.whole (1 : Nat), CV.int IntKind.i64 p0, CV.int IntKind.i64 p1, ((Blk.mem (CV.pure (Ty.arr (32 : Nat) (Ty.int IntKind.u8)) p2)) :: (Blk.vec (3 : Nat) (Ty.int IntKind.i64) p3) :: []) => gd (shapeOK T 44 [1, 3, 4, 5] (0 : Nat)) (G p0 p1 p2 p3 k)
  | _, _, _, _, _ => none
theorem o_15_0_inv {R : Type} {G : (Int) → (Int) → (List Int) → (List Int) → (Ex → St → Option R) → Option R} {T : St} {k : Ex → St → Option R} {r : R} (h : o_15_0 G T k = some r) : ∃ p0 p1 p2 p3, T = T_15_0 p0 p1 p2 p3 ∧ G p0 p1 p2 p3 k = some r := by
  unfold o_15_0 at h
  split at h
  · obtain ⟨hs, h'⟩ := gd_some h
    refine ⟨_, _, _, _, (st_of (asg := [(1, _), (3, _), (4, _), (5, _)]) hs ⟨by assumption, by assumption, by assumption, by assumption, trivial⟩ (by assumption)).trans ?_, h'⟩
    kernel_rfl
  · cases h
def O_15_15_0 {R : Type} : St → (Ex → St → Option R) → Option R := fun T k => o_15_0 G_15_0 T k
theorem body_15_0 {R : Type} (K0 : St → Option R) (K1 : Ex → St → Option R) (p0 : Int) (p1 : Int) (p2 : List Int) (p3 : List Int) : evLB (evCodeL sm_15 FU (ovr noO (evFn sm_15 fns FU 0)) .nil ir15_b0) (St.norm ir15_v0) (T_15_0 p0 p1 p2 p3) K0 K1 =
  bif decide (p1 < (64 : Int)) then gd (inB (IntKind.wrap IntKind.i64 (Int.tdiv p1 (2 : Int))) (32 : Nat)) (gd (decide (Int.toNat (IntKind.wrap IntKind.i64 (Int.tdiv p1 (2 : Int))) < (32 : Nat)) && true) (bif Int.tmod p1 (2 : Int) == (1 : Int) then gd (inB (IntKind.wrap IntKind.i64 (Int.tdiv p1 (2 : Int))) (32 : Nat)) (gd (decide (Int.toNat (IntKind.wrap IntKind.i64 (Int.tdiv p1 (2 : Int))) < (32 : Nat)) && true) (gd (room (List.length p3 + (1 : Nat)) (8 : Nat)) (K0 (T_15_0 (IntKind.wrap IntKind.i64 (IntKind.wrap IntKind.i64 (p0 + (15 : Int)) - IntKind.wrap IntKind.i64 (Sp.andI IntKind.u8 (List.getD p2 (Int.toNat (IntKind.wrap IntKind.i64 (Int.tdiv p1 (2 : Int)))) (0 : Int)) (15 : Int)))) (IntKind.wrap IntKind.i64 (p1 + (1 : Int))) p2 (p3 ++ [IntKind.wrap IntKind.i64 (Sp.andI IntKind.u8 (List.getD p2 (Int.toNat (IntKind.wrap IntKind.i64 (Int.tdiv p1 (2 : Int)))) (0 : Int)) (15 : Int))]))))) else gd (room (List.length p3 + (1 : Nat)) (8 : Nat)) (K0 (T_15_0 (IntKind.wrap IntKind.i64 (IntKind.wrap IntKind.i64 (p0 + (15 : Int)) - IntKind.wrap IntKind.i64 (Int.fdiv (List.getD p2 (Int.toNat (IntKind.wrap IntKind.i64 (Int.tdiv p1 (2 : Int)))) (0 : Int)) (16 : Int)))) (IntKind.wrap IntKind.i64 (p1 + (1 : Int))) p2 (p3 ++ [IntKind.wrap IntKind.i64 (Int.fdiv (List.getD p2 (Int.toNat (IntKind.wrap IntKind.i64 (Int.tdiv p1 (2 : Int)))) (0 : Int)) (16 : Int))]))))) else K1 (Ex.exit (0 : Nat)) (X_15_0_0 p0 p3) := by kernel_rfl
theorem Bgd_15_0 {R : Type} {c : Bool} {x : Option R} {y : Option Sp.E_15_0} {k0 : (Int) → (List Int) → Option R} (h : x = Sp.B_15_0 y k0) : gd c x = Sp.B_15_0 (gd c y) k0 := by cases c; rfl; exact h
theorem Bcond_15_0 {R : Type} {c : Bool} {x x' : Option R} {y y' : Option Sp.E_15_0} {k0 : (Int) → (List Int) → Option R} (h : x = Sp.B_15_0 y k0) (h' : x' = Sp.B_15_0 y' k0) : (bif c then x else x') = Sp.B_15_0 (bif c then y else y') k0 := by cases c; exact h'; exact h
theorem loop_15_0 {R : Type} (k : Ex → St → Option R) : ∀ (m : Nat) (p0 : Int) (p1 : Int) (p2 : List Int) (p3 : List Int), evLoopN (evCodeL sm_15 FU (ovr noO (evFn sm_15 fns FU 0)) .nil ir15_b0) (St.norm ir15_v0) m (T_15_0 p0 p1 p2 p3) k = Sp.B_15_0 (Sp.L_15_0 m p0 p1 p2 p3) (fun p0 p3 => k (Ex.exit (0 : Nat)) (X_15_0_0 p0 p3))
  | 0, _, _, _, _ => rfl
  | m + 1, p0, p1, p2, p3 => by
    rw [evLoopN_succ, body_15_0, Sp.L_15_0]
    repeat' first | apply Bgd_15_0 | apply Bcond_15_0 | exact loop_15_0 k m _ _ _ _ | rfl
theorem ok_15_0 {R : Type} (T : St) (k : Ex → St → Option R) (r : R) (h0 : o_15_0 G_15_0 T k = some r) : evLoopN (evCode sm_15 FU (evFn sm_15 fns FU 0) ir15_b0) (St.norm ir15_v0) FU T k = some r := by
  obtain ⟨p0, p1, p2, p3, rfl, h⟩ := o_15_0_inv h0
  refine evLoopN_L (t := .nil) noO_ok trivial _ _ _ _ ?_
  rw [loop_15_0]
  exact h
theorem OK_15_15_0 {R : Type} (T : St) (k : Ex → St → Option R) (r : R) (h : O_15_15_0 T k = some r) : evLoopN (evCode sm_15 FU (evFn sm_15 fns FU 0) ir15_b0) (St.norm ir15_v0) FU T k = some r := ok_15_0 T k r h
def F_15 (a0 : (List Int)) : Option ((List Int) × Unit) :=
  Sp.B_15_0 (Sp.L_15_0 (4611686018427387904 : Nat) (0 : Int) (0 : Int) a0 []) fun (y2 : Int) (y3 : List Int) => gd (room (List.length y3 + (3 : Nat)) (8 : Nat)) (some (y3 ++ [IntKind.wrap IntKind.i64 (Int.tdiv y2 (256 : Int)), Int.tmod (IntKind.wrap IntKind.i64 (Int.tdiv y2 (16 : Int))) (16 : Int), Int.tmod y2 (16 : Int)], PUnit.unit))
theorem fn_15 (a0 : (List Int)) : evFnL sm_15 FU (ovr noO (evFn sm_15 fns FU 0)) (ir15_t O_15_15_0) ir15 (ofH [(.arr 32 (.int .u8))] (a0, ())) [] (pureK [(.slice (.int .i64))]) = F_15 a0 := by kernel_rfl
def Sp.p_15 (a0 : (List Int)) : Bool := (F_15 a0).isSome
def Sp.v_15 (a0 : (List Int)) : (List Int) × Unit := (F_15 a0).getD (dfH [(.slice (.int .i64))])
def s_15 : Summ := shS [(.arr 32 (.int .u8))] [(.slice (.int .i64))] (fun x => Sp.p_15 x.1) (fun x => Sp.v_15 x.1)
theorem pv_15 (a0 : (List Int)) {y : (List Int) × Unit} (h : F_15 a0 = some y) : Sp.p_15 a0 = true ∧ Sp.v_15 a0 = y := ⟨by rw [Sp.p_15, h]; rfl, by rw [Sp.v_15, h]; rfl⟩
theorem run_15 (x : HDen [(.arr 32 (.int .u8))]) (y : HDen [(.slice (.int .i64))]) (h : F_15 x.1 = some y) : evFn sm_15 fns FU 1 15 (ofH [(.arr 32 (.int .u8))] x) [] (pureK [(.slice (.int .i64))]) = some y :=
  evFnL_sound (fn := ir15) (t := (ir15_t O_15_15_0)) (o := noO) rfl noO_ok (ir15_tok (fun T k r => OK_15_15_0 T k r)) ((fn_15 _).trans h)
end
end Go.Ev
namespace Go.Ev
open Go
set_option maxRecDepth 100000
set_option maxHeartbeats 4000000
set_option linter.unusedVariables false
noncomputable section

def sm_37 : Nat → Option Summ := fun f => bif Nat.beq f 11 then some s_11 else none
def T_37_0 (p0 : Int) (p1 : Int) (p2 : List Int) (p3 : List Int) : St := St.mk [jk, jk, CV.int IntKind.i64 p0, CV.ptr (0 : Nat) [], jk, jk, CV.ptr (1 : Nat) [], CV.int IntKind.i64 p1, jk, jk, jk, jk, jk, jk, jk, jk, jk, jk, jk, jk, jk] [Blk.mem (CV.pure (Ty.arr (32 : Nat) (Ty.int IntKind.u8)) p2), Blk.mem (CV.pure (Ty.arr (32 : Nat) (Ty.int IntKind.u8)) p3)] (0 : Nat)
def X_37_0_0 (p2 : List Int) (p3 : List Int) : St := St.mk [jk, jk, jk, CV.ptr (0 : Nat) [], jk, jk, CV.ptr (1 : Nat) [], jk, jk, jk, jk, jk, jk, jk, jk, jk, jk, jk, jk, jk, jk] [Blk.mem (CV.pure (Ty.arr (32 : Nat) (Ty.int IntKind.u8)) p2), Blk.mem (CV.pure (Ty.arr (32 : Nat) (Ty.int IntKind.u8)) p3)] (0 : Nat)
inductive Sp.E_37_0 where
  | e0 (p2 : List Int) (p3 : List Int)
def Sp.B_37_0 {R : Type} (r : Option Sp.E_37_0) (k0 : (List Int) → (List Int) → Option R) : Option R := match r with
  | none => none
  | some (.e0 p2 p3) => k0 p2 p3
def Sp.L_37_0 : Nat → (Int) → (Int) → (List Int) → (List Int) → Option Sp.E_37_0
  | 0, _, _, _, _ => none
  | m + 1, p0, p1, p2, p3 => bif decide (p1 < p0) then gd (room ((1 : Nat) + List.length (List.take (32 : Nat) (List.drop (0 : Nat) p2))) (1 : Nat)) (gd (Sp.p_11 ([IntKind.wrap IntKind.u8 p1] ++ List.take (32 : Nat) (List.drop (0 : Nat) p2))) (Sp.L_37_0 m p0 (IntKind.wrap IntKind.i64 (p1 + (1 : Int))) (Prod.fst (Sp.v_11 ([IntKind.wrap IntKind.u8 p1] ++ List.take (32 : Nat) (List.drop (0 : Nat) p2)))) p3)) else some (Sp.E_37_0.e0 p2 p3)
def G_37_0 {R : Type} (p0 : Int) (p1 : Int) (p2 : List Int) (p3 : List Int) (k : Ex → St → Option R) : Option R := Sp.B_37_0 (Sp.L_37_0 FU p0 p1 p2 p3) (fun p2 p3 => k (Ex.exit (0 : Nat)) (X_37_0_0 p2 p3))
def o_37_0 {R : Type} (G : (Int) → (Int) → (List Int) → (List Int) → (Ex → St → Option R) → Option R) : St → (Ex → St → Option R) → Option R := fun T k => match T.sl.getD 2 .junk, T.sl.getD 3 .junk, T.sl.getD 6 .junk, T.sl.getD 7 .junk, T.hp with
  | CV.int IntKind.i64 p0, CV.ptr (0 : Nat) [], CV.ptr (1 : Nat) [], CV.int IntKind.i64 p1, ((Blk.mem (CV.pure (Ty.arr (32 : Nat) (Ty.int IntKind.u8)) p2)) :: (Blk.mem (CV.pure (Ty.arr (32 : Nat) (Ty.int IntKind.u8)) p3)) :: []) => gd (shapeOK T 21 [2, 3, 6, 7] (0 : Nat)) (G p0 p1 p2 p3 k)
  | _, _, _, _, _ => none
theorem o_37_0_inv {R : Type} {G : (Int) → (Int) → (List Int) → (List Int) → (Ex → St → Option R) → Option R} {T : St} {k : Ex → St → Option R} {r : R} (h : o_37_0 G T k = some r) : ∃ p0 p1 p2 p3, T = T_37_0 p0 p1 p2 p3 ∧ G p0 p1 p2 p3 k = some r := by
  unfold o_37_0 at h
  split at h
  · obtain ⟨hs, h'⟩ := gd_some h
    refine ⟨_, _, _, _, (st_of (asg := [(2, _), (3, _), (6, _), (7, _)]) hs ⟨by assumption, by assumption, by assumption, by assumption, trivial⟩ (by assumption)).trans ?_, h'⟩
    kernel_rfl
  · cases h
def O_37_37_0 {R : Type} : St → (Ex → St → Option R) → Option R := fun T k => o_37_0 G_37_0 T k
theorem body_37_0 {R : Type} (K0 : St → Option R) (K1 : Ex → St → Option R) (p0 : Int) (p1 : Int) (p2 : List Int) (p3 : List Int) : evLB (evCodeL sm_37 FU (ovr noO (evFn sm_37 fns FU 0)) .nil ir37_b0) (St.norm ir37_v0) (T_37_0 p0 p1 p2 p3) K0 K1 =
  bif decide (p1 < p0) then gd (room ((1 : Nat) + List.length (List.take (32 : Nat) (List.drop (0 : Nat) p2))) (1 : Nat)) (gd (Sp.p_11 ([IntKind.wrap IntKind.u8 p1] ++ List.take (32 : Nat) (List.drop (0 : Nat) p2))) (K0 (T_37_0 p0 (IntKind.wrap IntKind.i64 (p1 + (1 : Int))) (Prod.fst (Sp.v_11 ([IntKind.wrap IntKind.u8 p1] ++ List.take (32 : Nat) (List.drop (0 : Nat) p2)))) p3))) else K1 (Ex.exit (0 : Nat)) (X_37_0_0 p2 p3) := by kernel_rfl
theorem Bgd_37_0 {R : Type} {c : Bool} {x : Option R} {y : Option Sp.E_37_0} {k0 : (List Int) → (List Int) → Option R} (h : x = Sp.B_37_0 y k0) : gd c x = Sp.B_37_0 (gd c y) k0 := by cases c; rfl; exact h
theorem Bcond_37_0 {R : Type} {c : Bool} {x x' : Option R} {y y' : Option Sp.E_37_0} {k0 : (List Int) → (List Int) → Option R} (h : x = Sp.B_37_0 y k0) (h' : x' = Sp.B_37_0 y' k0) : (bif c then x else x') = Sp.B_37_0 (bif c then y else y') k0 := by cases c; exact h'; exact h
theorem loop_37_0 {R : Type} (k : Ex → St → Option R) : ∀ (m : Nat) (p0 : Int) (p1 : Int) (p2 : List Int) (p3 : List Int), evLoopN (evCodeL sm_37 FU (ovr noO (evFn sm_37 fns FU 0)) .nil ir37_b0) (St.norm ir37_v0) m (T_37_0 p0 p1 p2 p3) k = Sp.B_37_0 (Sp.L_37_0 m p0 p1 p2 p3) (fun p2 p3 => k (Ex.exit (0 : Nat)) (X_37_0_0 p2 p3))
  | 0, _, _, _, _ => rfl
  | m + 1, p0, p1, p2, p3 => by
    rw [evLoopN_succ, body_37_0, Sp.L_37_0]
    repeat' first | apply Bgd_37_0 | apply Bcond_37_0 | exact loop_37_0 k m _ _ _ _ | rfl
theorem ok_37_0 {R : Type} (T : St) (k : Ex → St → Option R) (r : R) (h0 : o_37_0 G_37_0 T k = some r) : evLoopN (evCode sm_37 FU (evFn sm_37 fns FU 0) ir37_b0) (St.norm ir37_v0) FU T k = some r := by
  obtain ⟨p0, p1, p2, p3, rfl, h⟩ := o_37_0_inv h0
  refine evLoopN_L (t := .nil) noO_ok trivial _ _ _ _ ?_
  rw [loop_37_0]
  exact h
theorem OK_37_37_0 {R : Type} (T : St) (k : Ex → St → Option R) (r : R) (h : O_37_37_0 T k = some r) : evLoopN (evCode sm_37 FU (evFn sm_37 fns FU 0) ir37_b0) (St.norm ir37_v0) FU T k = some r := ok_37_0 T k r h
def F_37 (a0 : (List Int)) (a1 : Int) (a2 : Int) : Option ((List Int) × Unit) :=
  Sp.B_37_0 (Sp.L_37_0 (4611686018427387904 : Nat) a2 a1 a0 (List.replicate (32 : Nat) (0 : Int))) fun (y2 y3 : List Int) => some (y2, PUnit.unit)
theorem fn_37 (a0 : (List Int)) (a1 : Int) (a2 : Int) : evFnL sm_37 FU (ovr noO (evFn sm_37 fns FU 0)) (ir37_t O_37_37_0) ir37 (ofH [(.arr 32 (.int .u8)), (.int .i64), (.int .i64)] (a0, a1, a2, ())) [] (pureK [(.arr 32 (.int .u8))]) = F_37 a0 a1 a2 := by kernel_rfl
def Sp.p_37 (a0 : (List Int)) (a1 : Int) (a2 : Int) : Bool := (F_37 a0 a1 a2).isSome
def Sp.v_37 (a0 : (List Int)) (a1 : Int) (a2 : Int) : (List Int) × Unit := (F_37 a0 a1 a2).getD (dfH [(.arr 32 (.int .u8))])
def s_37 : Summ := shN [(.arr 32 (.int .u8)), (.int .i64), (.int .i64)] [(.arr 32 (.int .u8))] (fun x => Sp.p_37 x.1 x.2.1 x.2.2.1) (fun x => Sp.v_37 x.1 x.2.1 x.2.2.1)
theorem pv_37 (a0 : (List Int)) (a1 : Int) (a2 : Int) {y : (List Int) × Unit} (h : F_37 a0 a1 a2 = some y) : Sp.p_37 a0 a1 a2 = true ∧ Sp.v_37 a0 a1 a2 = y := ⟨by rw [Sp.p_37, h]; rfl, by rw [Sp.v_37, h]; rfl⟩
theorem run_37 (x : HDen [(.arr 32 (.int .u8)), (.int .i64), (.int .i64)]) (y : HDen [(.arr 32 (.int .u8))]) (h : F_37 x.1 x.2.1 x.2.2.1 = some y) : evFn sm_37 fns FU 1 37 (ofH [(.arr 32 (.int .u8)), (.int .i64), (.int .i64)] x) [] (pureK [(.arr 32 (.int .u8))]) = some y :=
  evFnL_sound (fn := ir37) (t := (ir37_t O_37_37_0)) (o := noO) rfl noO_ok (ir37_tok (fun T k r => OK_37_37_0 T k r)) ((fn_37 _ _ _).trans h)
end
end Go.Ev
namespace Go.Ev
open Go
set_option maxRecDepth 100000
set_option maxHeartbeats 4000000
set_option linter.unusedVariables false
noncomputable section

def sm_16 : Nat → Option Summ := fun f => bif Nat.beq f 37 then some s_37 else none


def F_16 (a0 : (List Int)) (a1 : Int) (a2 : Int) : Option ((List Int) × Int × Unit) :=
  bif decide (a1 < (0 : Int)) then some (List.replicate (32 : Nat) (0 : Int), (2 : Int), PUnit.unit) else bif decide (a1 > a2) then some (List.replicate (32 : Nat) (0 : Int), (2 : Int), PUnit.unit) else bif decide (a2 > (15 : Int)) then some (List.replicate (32 : Nat) (0 : Int), (2 : Int), PUnit.unit) else gd (Sp.p_37 a0 a1 a2) (some (Prod.fst (Sp.v_37 a0 a1 a2), (0 : Int), PUnit.unit))
theorem fn_16 (a0 : (List Int)) (a1 : Int) (a2 : Int) : evFnL sm_16 FU (ovr noO (evFn sm_16 fns FU 0)) .nil ir16 (ofH [(.arr 32 (.int .u8)), (.int .i64), (.int .i64)] (a0, a1, a2, ())) [] (pureK [(.arr 32 (.int .u8)), (.int .i64)]) = F_16 a0 a1 a2 := by kernel_rfl
def Sp.p_16 (a0 : (List Int)) (a1 : Int) (a2 : Int) : Bool := (F_16 a0 a1 a2).isSome
def Sp.v_16 (a0 : (List Int)) (a1 : Int) (a2 : Int) : (List Int) × Int × Unit := (F_16 a0 a1 a2).getD (dfH [(.arr 32 (.int .u8)), (.int .i64)])
def s_16 : Summ := shN [(.arr 32 (.int .u8)), (.int .i64), (.int .i64)] [(.arr 32 (.int .u8)), (.int .i64)] (fun x => Sp.p_16 x.1 x.2.1 x.2.2.1) (fun x => Sp.v_16 x.1 x.2.1 x.2.2.1)
theorem pv_16 (a0 : (List Int)) (a1 : Int) (a2 : Int) {y : (List Int) × Int × Unit} (h : F_16 a0 a1 a2 = some y) : Sp.p_16 a0 a1 a2 = true ∧ Sp.v_16 a0 a1 a2 = y := ⟨by rw [Sp.p_16, h]; rfl, by rw [Sp.v_16, h]; rfl⟩
theorem run_16 (x : HDen [(.arr 32 (.int .u8)), (.int .i64), (.int .i64)]) (y : HDen [(.arr 32 (.int .u8)), (.int .i64)]) (h : F_16 x.1 x.2.1 x.2.2.1 = some y) : evFn sm_16 fns FU 1 16 (ofH [(.arr 32 (.int .u8)), (.int .i64), (.int .i64)] x) [] (pureK [(.arr 32 (.int .u8)), (.int .i64)]) = some y :=
  evFnL_sound (fn := ir16) (t := .nil) (o := noO) rfl noO_ok trivial ((fn_16 _ _ _).trans h)
end
end Go.Ev
namespace Go.Ev
open Go
set_option maxRecDepth 100000
set_option maxHeartbeats 4000000
set_option linter.unusedVariables false
noncomputable section

def sm_17 : Nat → Option Summ := fun f => bif Nat.beq f 12 then some s_12 else none
def T_17_0 (p0 : Int) (p1 : Int) (p2 : List Int) (p3 : List Int) : St := St.mk [jk, jk, CV.int IntKind.i64 p0, CV.ptr (0 : Nat) [], jk, jk, CV.ptr (1 : Nat) [], CV.int IntKind.i64 p1, jk, jk, jk, jk, jk, jk, jk, jk, jk, jk, jk, jk, jk] [Blk.mem (CV.pure (Ty.arr (32 : Nat) (Ty.int IntKind.u8)) p2), Blk.mem (CV.pure (Ty.arr (32 : Nat) (Ty.int IntKind.u8)) p3)] (0 : Nat)
def X_17_0_0 (p2 : List Int) (p3 : List Int) : St := St.mk [jk, jk, jk, CV.ptr (0 : Nat) [], jk, jk, CV.ptr (1 : Nat) [], jk, jk, jk, jk, jk, jk, jk, jk, jk, jk, jk, jk, jk, jk] [Blk.mem (CV.pure (Ty.arr (32 : Nat) (Ty.int IntKind.u8)) p2), Blk.mem (CV.pure (Ty.arr (32 : Nat) (Ty.int IntKind.u8)) p3)] (0 : Nat)
inductive Sp.E_17_0 where
  | e0 (p2 : List Int) (p3 : List Int)
def Sp.B_17_0 {R : Type} (r : Option Sp.E_17_0) (k0 : (List Int) → (List Int) → Option R) : Option R := match r with
  | none => none
  | some (.e0 p2 p3) => k0 p2 p3
def Sp.L_17_0 : Nat → (Int) → (Int) → (List Int) → (List Int) → Option Sp.E_17_0
  | 0, _, _, _, _ => none
  | m + 1, p0, p1, p2, p3 => bif decide (p1 < p0) then gd (room ((1 : Nat) + List.length (List.take (32 : Nat) (List.drop (0 : Nat) p2))) (1 : Nat)) (gd (Sp.p_12 ([IntKind.wrap IntKind.u8 p1] ++ List.take (32 : Nat) (List.drop (0 : Nat) p2))) (Sp.L_17_0 m p0 (IntKind.wrap IntKind.i64 (p1 + (1 : Int))) (Prod.fst (Sp.v_12 ([IntKind.wrap IntKind.u8 p1] ++ List.take (32 : Nat) (List.drop (0 : Nat) p2)))) p3)) else some (Sp.E_17_0.e0 p2 p3)
def G_17_0 {R : Type} (p0 : Int) (p1 : Int) (p2 : List Int) (p3 : List Int) (k : Ex → St → Option R) : Option R := Sp.B_17_0 (Sp.L_17_0 FU p0 p1 p2 p3) (fun p2 p3 => k (Ex.exit (0 : Nat)) (X_17_0_0 p2 p3))
def o_17_0 {R : Type} (G : (Int) → (Int) → (List Int) → (List Int) → (Ex → St → Option R) → Option R) : St → (Ex → St → Option R) → Option R := fun T k => match T.sl.getD 2 .junk, T.sl.getD 3 .junk, T.sl.getD 6 .junk, T.sl.getD 7 .junk, T.hp with
  | CV.int IntKind.i64 p0, CV.ptr (0 : Nat) [], CV.ptr (1 : Nat) [], CV.int IntKind.i64 p1, ((Blk.mem (CV.pure (Ty.arr (32 : Nat) (Ty.int IntKind.u8)) p2)) :: (Blk.mem (CV.pure (Ty.arr (32 : Nat) (Ty.int IntKind.u8)) p3)) :: []) => gd (shapeOK T 21 [2, 3, 6, 7] (0 : Nat)) (G p0 p1 p2 p3 k)
  | _, _, _, _, _ => none
theorem o_17_0_inv {R : Type} {G : (Int) → (Int) → (List Int) → (List Int) → (Ex → St → Option R) → Option R} {T : St} {k : Ex → St → Option R} {r : R} (h : o_17_0 G T k = some r) : ∃ p0 p1 p2 p3, T = T_17_0 p0 p1 p2 p3 ∧ G p0 p1 p2 p3 k = some r := by
  unfold o_17_0 at h
  split at h
  · obtain ⟨hs, h'⟩ := gd_some h
    refine ⟨_, _, _, _, (st_of (asg := [(2, _), (3, _), (6, _), (7, _)]) hs ⟨by assumption, by assumption, by assumption, by assumption, trivial⟩ (by assumption)).trans ?_, h'⟩
    kernel_rfl
  · cases h
def O_17_17_0 {R : Type} : St → (Ex → St → Option R) → Option R := fun T k => o_17_0 G_17_0 T k
theorem body_17_0 {R : Type} (K0 : St → Option R) (K1 : Ex → St → Option R) (p0 : Int) (p1 : Int) (p2 : List Int) (p3 : List Int) : evLB (evCodeL sm_17 FU (ovr noO (evFn sm_17 fns FU 0)) .nil ir17_b0) (St.norm ir17_v0) (T_17_0 p0 p1 p2 p3) K0 K1 =
  bif decide (p1 < p0) then gd (room ((1 : Nat) + List.length (List.take (32 : Nat) (List.drop (0 : Nat) p2))) (1 : Nat)) (gd (Sp.p_12 ([IntKind.wrap IntKind.u8 p1] ++ List.take (32 : Nat) (List.drop (0 : Nat) p2))) (K0 (T_17_0 p0 (IntKind.wrap IntKind.i64 (p1 + (1 : Int))) (Prod.fst (Sp.v_12 ([IntKind.wrap IntKind.u8 p1] ++ List.take (32 : Nat) (List.drop (0 : Nat) p2)))) p3))) else K1 (Ex.exit (0 : Nat)) (X_17_0_0 p2 p3) := by kernel_rfl
theorem Bgd_17_0 {R : Type} {c : Bool} {x : Option R} {y : Option Sp.E_17_0} {k0 : (List Int) → (List Int) → Option R} (h : x = Sp.B_17_0 y k0) : gd c x = Sp.B_17_0 (gd c y) k0 := by cases c; rfl; exact h
theorem Bcond_17_0 {R : Type} {c : Bool} {x x' : Option R} {y y' : Option Sp.E_17_0} {k0 : (List Int) → (List Int) → Option R} (h : x = Sp.B_17_0 y k0) (h' : x' = Sp.B_17_0 y' k0) : (bif c then x else x') = Sp.B_17_0 (bif c then y else y') k0 := by cases c; exact h'; exact h
theorem loop_17_0 {R : Type} (k : Ex → St → Option R) : ∀ (m : Nat) (p0 : Int) (p1 : Int) (p2 : List Int) (p3 : List Int), evLoopN (evCodeL sm_17 FU (ovr noO (evFn sm_17 fns FU 0)) .nil ir17_b0) (St.norm ir17_v0) m (T_17_0 p0 p1 p2 p3) k = Sp.B_17_0 (Sp.L_17_0 m p0 p1 p2 p3) (fun p2 p3 => k (Ex.exit (0 : Nat)) (X_17_0_0 p2 p3))
  | 0, _, _, _, _ => rfl
  | m + 1, p0, p1, p2, p3 => by
    rw [evLoopN_succ, body_17_0, Sp.L_17_0]
    repeat' first | apply Bgd_17_0 | apply Bcond_17_0 | exact loop_17_0 k m _ _ _ _ | rfl
theorem ok_17_0 {R : Type} (T : St) (k : Ex → St → Option R) (r : R) (h0 : o_17_0 G_17_0 T k = some r) : evLoopN (evCode sm_17 FU (evFn sm_17 fns FU 0) ir17_b0) (St.norm ir17_v0) FU T k = some r := by
  obtain ⟨p0, p1, p2, p3, rfl, h⟩ := o_17_0_inv h0
  refine evLoopN_L (t := .nil) noO_ok trivial _ _ _ _ ?_
  rw [loop_17_0]
  exact h
theorem OK_17_17_0 {R : Type} (T : St) (k : Ex → St → Option R) (r : R) (h : O_17_17_0 T k = some r) : evLoopN (evCode sm_17 FU (evFn sm_17 fns FU 0) ir17_b0) (St.norm ir17_v0) FU T k = some r := ok_17_0 T k r h
def F_17 (a0 : (List Int)) (a1 : Int) (a2 : Int) : Option ((List Int) × Unit) :=
  Sp.B_17_0 (Sp.L_17_0 (4611686018427387904 : Nat) a2 a1 a0 (List.replicate (32 : Nat) (0 : Int))) fun (y2 y3 : List Int) => some (y2, PUnit.unit)
theorem fn_17 (a0 : (List Int)) (a1 : Int) (a2 : Int) : evFnL sm_17 FU (ovr noO (evFn sm_17 fns FU 0)) (ir17_t O_17_17_0) ir17 (ofH [(.arr 32 (.int .u8)), (.int .i64), (.int .i64)] (a0, a1, a2, ())) [] (pureK [(.arr 32 (.int .u8))]) = F_17 a0 a1 a2 := by kernel_rfl
def Sp.p_17 (a0 : (List Int)) (a1 : Int) (a2 : Int) : Bool := (F_17 a0 a1 a2).isSome
def Sp.v_17 (a0 : (List Int)) (a1 : Int) (a2 : Int) : (List Int) × Unit := (F_17 a0 a1 a2).getD (dfH [(.arr 32 (.int .u8))])
def s_17 : Summ := shN [(.arr 32 (.int .u8)), (.int .i64), (.int .i64)] [(.arr 32 (.int .u8))] (fun x => Sp.p_17 x.1 x.2.1 x.2.2.1) (fun x => Sp.v_17 x.1 x.2.1 x.2.2.1)
theorem pv_17 (a0 : (List Int)) (a1 : Int) (a2 : Int) {y : (List Int) × Unit} (h : F_17 a0 a1 a2 = some y) : Sp.p_17 a0 a1 a2 = true ∧ Sp.v_17 a0 a1 a2 = y := ⟨by rw [Sp.p_17, h]; rfl, by rw [Sp.v_17, h]; rfl⟩
theorem run_17 (x : HDen [(.arr 32 (.int .u8)), (.int .i64), (.int .i64)]) (y : HDen [(.arr 32 (.int .u8))]) (h : F_17 x.1 x.2.1 x.2.2.1 = some y) : evFn sm_17 fns FU 1 17 (ofH [(.arr 32 (.int .u8)), (.int .i64), (.int .i64)] x) [] (pureK [(.arr 32 (.int .u8))]) = some y :=
  evFnL_sound (fn := ir17) (t := (ir17_t O_17_17_0)) (o := noO) rfl noO_ok (ir17_tok (fun T k r => OK_17_17_0 T k r)) ((fn_17 _ _ _).trans h)
end
end Go.Ev
namespace Go.Ev
open Go
set_option maxRecDepth 100000
set_option maxHeartbeats 4000000
set_option linter.unusedVariables false
noncomputable section

def sm_14 : Nat → Option Summ := fun f => none
def T_14_0 (p0 : List Int) (p1 : List Int) (p2 : Int) (p3 : Int) : St := St.mk [CV.pure (Ty.slice (Ty.int IntKind.i64)) p0, CV.pure (Ty.slice (Ty.int IntKind.i64)) p1, jk, jk, jk, jk, jk, jk, jk, jk, jk, jk, CV.int IntKind.i64 p2, CV.int IntKind.i64 p3, jk, jk, jk, jk, jk, jk, jk, jk, jk, jk, jk, jk] [] (0 : Nat)
def X_14_0_0 : St := St.mk [jk, jk, jk, jk, CV.bool false, jk, jk, jk, jk, jk, jk, jk, jk, jk, jk, jk, jk, jk, jk, jk, jk, jk, jk, jk, jk, jk] [] (0 : Nat)
def X_14_0_1 : St := St.mk [jk, jk, jk, jk, jk, jk, jk, jk, jk, jk, jk, jk, jk, jk, jk, jk, jk, jk, jk, jk, jk, jk, jk, jk, jk, jk] [] (0 : Nat)
inductive Sp.E_14_0 where
  | e0
  | e1
def Sp.B_14_0 {R : Type} (r : Option Sp.E_14_0) (k0 : Option R) (k1 : Option R) : Option R := match r with
  | none => none
  | some (.e0) => k0
  | some (.e1) => k1
def Sp.L_14_0 : Nat → (List Int) → (List Int) → (Int) → (Int) → Option Sp.E_14_0
  | 0, _, _, _, _ => none
  | m + 1, p0, p1, p2, p3 => bif decide (p3 < p2) then gd (inB p3 (List.length p0)) (gd (inB p3 (List.length p1)) (bif List.getD p0 (Int.toNat p3) (0 : Int) != List.getD p1 (Int.toNat p3) (0 : Int) then some (Sp.E_14_0.e0) else Sp.L_14_0 m p0 p1 p2 (IntKind.wrap IntKind.i64 (p3 + (1 : Int))))) else some (Sp.E_14_0.e1)
def G_14_0 {R : Type} (p0 : List Int) (p1 : List Int) (p2 : Int) (p3 : Int) (k : Ex → St → Option R) : Option R := Sp.B_14_0 (Sp.L_14_0 FU p0 p1 p2 p3) (k Ex.ret (X_14_0_0)) (k (Ex.exit (0 : Nat)) (X_14_0_1))
def o_14_0 {R : Type} (G : (List Int) → (List Int) → (Int) → (Int) → (Ex → St → Option R) → Option R) : St → (Ex → St → Option R) → Option R := fun T k => match T.sl.getD 0 .junk, T.sl.getD 1 .junk, T.sl.getD 12 .junk, T.sl.getD 13 .junk, T.hp with
  | CV.pure (Ty.slice (Ty.int IntKind.i64)) p0, CV.pure (Ty.slice (Ty.int IntKind.i64)) p1, CV.int IntKind.i64 p2, CV.int IntKind.i64 p3, [] => gd (shapeOK T 26 [0, 1, 12, 13] (0 : Nat)) (G p0 p1 p2 p3 k)
  | _, _, _, _, _ => none
theorem o_14_0_inv {R : Type} {G : (List Int) → (List Int) → (Int) → (Int) → (Ex → St → Option R) → Option R} {T : St} {k : Ex → St → Option R} {r : R} (h : o_14_0 G T k = some r) : ∃ p0 p1 p2 p3, T = T_14_0 p0 p1 p2 p3 ∧ G p0 p1 p2 p3 k = some r := by
  unfold o_14_0 at h
  split at h
  · obtain ⟨hs, h'⟩ := gd_some h
    refine ⟨_, _, _, _, (st_of (asg := [(0, _), (1, _), (12, _), (13, _)]) hs ⟨by assumption, by assumption, by assumption, by assumption, trivial⟩ (by assumption)).trans ?_, h'⟩
    kernel_rfl
  · cases h
def O_14_14_0 {R : Type} : St → (Ex → St → Option R) → Option R := fun T k => o_14_0 G_14_0 T k
theorem body_14_0 {R : Type} (K0 : St → Option R) (K1 : Ex → St → Option R) (p0 : List Int) (p1 : List Int) (p2 : Int) (p3 : Int) : evLB (evCodeL sm_14 FU (ovr noO (evFn sm_14 fns FU 0)) .nil ir14_b0) (St.norm ir14_v0) (T_14_0 p0 p1 p2 p3) K0 K1 =
  bif decide (p3 < p2) then gd (inB p3 (List.length p0)) (gd (inB p3 (List.length p1)) (bif List.getD p0 (Int.toNat p3) (0 : Int) != List.getD p1 (Int.toNat p3) (0 : Int) then K1 Ex.ret X_14_0_0 else K0 (T_14_0 p0 p1 p2 (IntKind.wrap IntKind.i64 (p3 + (1 : Int)))))) else K1 (Ex.exit (0 : Nat)) X_14_0_1 := by kernel_rfl
theorem Bgd_14_0 {R : Type} {c : Bool} {x : Option R} {y : Option Sp.E_14_0} {k0 : Option R} {k1 : Option R} (h : x = Sp.B_14_0 y k0 k1) : gd c x = Sp.B_14_0 (gd c y) k0 k1 := by cases c; rfl; exact h
theorem Bcond_14_0 {R : Type} {c : Bool} {x x' : Option R} {y y' : Option Sp.E_14_0} {k0 : Option R} {k1 : Option R} (h : x = Sp.B_14_0 y k0 k1) (h' : x' = Sp.B_14_0 y' k0 k1) : (bif c then x else x') = Sp.B_14_0 (bif c then y else y') k0 k1 := by cases c; exact h'; exact h
theorem loop_14_0 {R : Type} (k : Ex → St → Option R) : ∀ (m : Nat) (p0 : List Int) (p1 : List Int) (p2 : Int) (p3 : Int), evLoopN (evCodeL sm_14 FU (ovr noO (evFn sm_14 fns FU 0)) .nil ir14_b0) (St.norm ir14_v0) m (T_14_0 p0 p1 p2 p3) k = Sp.B_14_0 (Sp.L_14_0 m p0 p1 p2 p3) (k Ex.ret (X_14_0_0)) (k (Ex.exit (0 : Nat)) (X_14_0_1))
  | 0, _, _, _, _ => rfl
  | m + 1, p0, p1, p2, p3 => by
    rw [evLoopN_succ, body_14_0, Sp.L_14_0]
    repeat' first | apply Bgd_14_0 | apply Bcond_14_0 | exact loop_14_0 k m _ _ _ _ | rfl
theorem ok_14_0 {R : Type} (T : St) (k : Ex → St → Option R) (r : R) (h0 : o_14_0 G_14_0 T k = some r) : evLoopN (evCode sm_14 FU (evFn sm_14 fns FU 0) ir14_b0) (St.norm ir14_v0) FU T k = some r := by
  obtain ⟨p0, p1, p2, p3, rfl, h⟩ := o_14_0_inv h0
  refine evLoopN_L (t := .nil) noO_ok trivial _ _ _ _ ?_
  rw [loop_14_0]
  exact h
theorem OK_14_14_0 {R : Type} (T : St) (k : Ex → St → Option R) (r : R) (h : O_14_14_0 T k = some r) : evLoopN (evCode sm_14 FU (evFn sm_14 fns FU 0) ir14_b0) (St.norm ir14_v0) FU T k = some r := ok_14_0 T k r h
def F_14 (a0 : (List Int)) (a1 : (List Int)) : Option (Bool × Unit) :=
  bif (↑(List.length a0) : Int) != (↑(List.length a1) : Int) then some (false, PUnit.unit) else Sp.B_14_0 (Sp.L_14_0 (4611686018427387904 : Nat) a0 a1 (↑(List.length a0) : Int) (0 : Int)) (some (false, PUnit.unit)) (some (true, PUnit.unit))
theorem fn_14 (a0 : (List Int)) (a1 : (List Int)) : evFnL sm_14 FU (ovr noO (evFn sm_14 fns FU 0)) (ir14_t O_14_14_0) ir14 (ofH [(.slice (.int .i64)), (.slice (.int .i64))] (a0, a1, ())) [] (pureK [.bool]) = F_14 a0 a1 := by kernel_rfl
def Sp.p_14 (a0 : (List Int)) (a1 : (List Int)) : Bool := (F_14 a0 a1).isSome
def Sp.v_14 (a0 : (List Int)) (a1 : (List Int)) : Bool × Unit := (F_14 a0 a1).getD (dfH [.bool])
def s_14 : Summ := shN [(.slice (.int .i64)), (.slice (.int .i64))] [.bool] (fun x => Sp.p_14 x.1 x.2.1) (fun x => Sp.v_14 x.1 x.2.1)
theorem pv_14 (a0 : (List Int)) (a1 : (List Int)) {y : Bool × Unit} (h : F_14 a0 a1 = some y) : Sp.p_14 a0 a1 = true ∧ Sp.v_14 a0 a1 = y := ⟨by rw [Sp.p_14, h]; rfl, by rw [Sp.v_14, h]; rfl⟩
theorem run_14 (x : HDen [(.slice (.int .i64)), (.slice (.int .i64))]) (y : HDen [.bool]) (h : F_14 x.1 x.2.1 = some y) : evFn sm_14 fns FU 1 14 (ofH [(.slice (.int .i64)), (.slice (.int .i64))] x) [] (pureK [.bool]) = some y :=
  evFnL_sound (fn := ir14) (t := (ir14_t O_14_14_0)) (o := noO) rfl noO_ok (ir14_tok (fun T k r => OK_14_14_0 T k r)) ((fn_14 _ _).trans h)
end
end Go.Ev
set_option linter.unusedSimpArgs false
set_option linter.unusedVariables false
namespace Go.Ev
open Go
set_option maxRecDepth 100000
set_option maxHeartbeats 4000000
/-! digits -/
namespace Sp
def hi4 (x : Int) : Int := IntKind.wrap .i64 (Int.fdiv x 16)
def lo4 (x : Int) : Int := IntKind.wrap .i64 (andI .u8 x 15)
def dig (h : List Int) (j : Nat) : Int := if j % 2 = 0 then hi4 (h.getD (j / 2) 0) else lo4 (h.getD (j / 2) 0)
def digs (h : List Int) (n : Nat) : List Int := (List.range n).map (dig h)
def dsum (h : List Int) : Nat → Int
  | 0 => 0
  | n + 1 => dsum h n + (15 - dig h n)
end Sp
theorem wu8b (n : Int) : 0 ≤ IntKind.wrap .u8 n ∧ IntKind.wrap .u8 n ≤ 255 := by rw [u8_mod]; omega
theorem and15 (x : Int) : Sp.andI .u8 x 15 = x % 16 := by
  unfold Sp.andI
  rw [u8_mod]
  have h : (BitVec.ofInt 8 x &&& BitVec.ofInt 8 15).toNat = (BitVec.ofInt 8 x).toNat % 16 := by
    rw [BitVec.toNat_and]
    show (BitVec.ofInt 8 x).toNat &&& 15 = _
    exact Nat.and_two_pow_sub_one_eq_mod _ 4
  show (((BitVec.ofInt 8 x &&& BitVec.ofInt 8 15).toNat : Nat) : Int) % 256 = x % 16
  rw [h, BitVec.toNat_ofInt]
  omega
theorem hi_b (x : Int) (h0 : 0 ≤ x) (h1 : x ≤ 255) : 0 ≤ Sp.hi4 x ∧ Sp.hi4 x ≤ 15 := by
  unfold Sp.hi4
  rw [Int.fdiv_eq_ediv_of_nonneg _ (by decide), wi64 (by omega) (by omega)]
  omega
theorem lo_b (x : Int) : 0 ≤ Sp.lo4 x ∧ Sp.lo4 x ≤ 15 := by
  unfold Sp.lo4
  rw [and15, wi64 (by omega) (by omega)]
  omega
abbrev bytes (h : List Int) : Prop := ∀ x ∈ h, 0 ≤ x ∧ x ≤ 255
theorem bytes_get {h : List Int} (hb : bytes h) (i : Nat) : 0 ≤ h.getD i 0 ∧ h.getD i 0 ≤ 255 := by
  rcases Nat.lt_or_ge i h.length with hi | hi
  · rw [List.getD_eq_getElem?_getD, List.getElem?_eq_getElem hi]; exact hb _ (List.getElem_mem hi)
  · rw [List.getD_eq_getElem?_getD, List.getElem?_eq_none hi]; simp
theorem dig_b {h : List Int} (hb : bytes h) (j : Nat) : 0 ≤ Sp.dig h j ∧ Sp.dig h j ≤ 15 := by
  unfold Sp.dig
  split
  · exact hi_b _ (bytes_get hb _).1 (bytes_get hb _).2
  · exact lo_b _
theorem dsum_b {h : List Int} (hb : bytes h) : ∀ n, 0 ≤ Sp.dsum h n ∧ Sp.dsum h n ≤ 15 * n
  | 0 => by simp [Sp.dsum]
  | n + 1 => by
    have h1 := dsum_b hb n
    have h2 := dig_b hb n
    simp only [Sp.dsum]; omega
theorem digs_len (h : List Int) (n : Nat) : (Sp.digs h n).length = n := by simp [Sp.digs]
theorem digs_succ (h : List Int) (n : Nat) : Sp.digs h (n + 1) = Sp.digs h n ++ [Sp.dig h n] := by simp [Sp.digs, List.range_succ]
theorem i_dig1 (m : Nat) (hm : 2 < m) (s : Int) (h : List Int) (hb : bytes h) (q : Nat) (x y : Int) (hx : x = Sp.dig h (2 * q)) (hy : y = Sp.dig h (2 * q + 1)) (i : Int) (hs : s = Sp.dsum h (2 * q)) (hq : q < 32) : Sp.L_13_1 m s h i [x, y] 0 (Sp.digs h (2 * q)) = some (.e0 (Sp.dsum h (2 * q + 2)) h i (Sp.digs h (2 * q + 2))) := by
  obtain ⟨m, rfl⟩ : ∃ k, m = k + 3 := ⟨m - 3, by omega⟩
  have b0 := dsum_b hb (2 * q)
  have b1 := dig_b hb (2 * q)
  have b2 := dig_b hb (2 * q + 1)
  subst hs hx hy
  rw [Sp.L_13_1, cond_dtt (by decide), gd_inB (by decide) (by decide), gd_room (by rw [digs_len]; omega) (by rw [digs_len]; omega)]
  show Sp.L_13_1 (m + 2) (IntKind.wrap .i64 (Sp.dsum h (2 * q) + IntKind.wrap .i64 (15 - Sp.dig h (2 * q)))) h i _ 1 (Sp.digs h (2 * q) ++ [Sp.dig h (2 * q)]) = _
  rw [wi64 (n := 15 - Sp.dig h (2 * q)) (by omega) (by omega), wi64 (by omega) (by omega), ← digs_succ, Sp.L_13_1, cond_dtt (by decide), gd_inB (by decide) (by decide), gd_room (by rw [digs_len]; omega) (by rw [digs_len]; omega)]
  show Sp.L_13_1 (m + 1) (IntKind.wrap .i64 (Sp.dsum h (2 * q) + (15 - Sp.dig h (2 * q)) + IntKind.wrap .i64 (15 - Sp.dig h (2 * q + 1)))) h i _ 2 (Sp.digs h (2 * q + 1) ++ [Sp.dig h (2 * q + 1)]) = _
  rw [wi64 (n := 15 - Sp.dig h (2 * q + 1)) (by omega) (by omega), wi64 (by omega) (by omega), ← digs_succ, Sp.L_13_1, cond_dff (by decide)]
  rfl
theorem i_dig0 : ∀ (d m q : Nat) (h : List Int), bytes h → q + d = 32 → d < m → Sp.L_13_0 m (Sp.dsum h (2 * q)) h (q : Nat) (Sp.digs h (2 * q)) = some (.e0 (Sp.dsum h 64) (Sp.digs h 64))
  | 0, m + 1, q, h, hb, hq, _ => by
    rw [Sp.L_13_0, cond_dff (by omega), show 2 * q = 64 by omega]
  | d + 1, m + 1, q, h, hb, hq, hm => by
    rw [Sp.L_13_0, cond_dtt (by omega), gd_inB (by omega) (by omega), Int.toNat_natCast]
    rw [i_dig1 _ (by omega) _ h hb q _ _ (by simp [Sp.dig, Sp.hi4]) (by simp [Sp.dig, Sp.lo4, show (2 * q + 1) / 2 = q by omega, show (2 * q + 1) % 2 = 1 by omega]) _ rfl (by omega)]
    simp only [Sp.B_13_1]
    rw [wi64 (by omega) (by omega)]
    exact i_dig0 d m (q + 1) h hb (by omega) (by omega)
theorem r_dig0 : ∀ (d m j : Nat) (h : List Int), bytes h → j + d = 64 → d < m → Sp.L_15_0 m (Sp.dsum h j) (j : Nat) h (Sp.digs h j) = some (.e0 (Sp.dsum h 64) (Sp.digs h 64))
  | 0, m + 1, j, h, hb, hq, _ => by
    rw [Sp.L_15_0, cond_dff (by omega), show j = 64 by omega]
  | d + 1, m + 1, j, h, hb, hq, hm => by
    have e : Int.tmod (j : Int) 2 = ((j % 2 : Nat) : Int) := (Int.ofNat_tmod j 2).symm
    have e2 : Int.tdiv (j : Int) 2 = ((j / 2 : Nat) : Int) := (Int.ofNat_tdiv j 2).symm
    have b0 := dsum_b hb j
    have b1 := dig_b hb j
    have ih := r_dig0 d m (j + 1) h hb (by omega) (by omega)
    rw [Sp.L_15_0, cond_dtt (by omega), e, e2, wi64 (n := ((j / 2 : Nat) : Int)) (by omega) (by omega), gd_inB (by omega) (by omega), gd_and, Int.toNat_natCast, gd_dec (by omega), gd_tt]
    rw [wi64 (n := Sp.dsum h j + 15) (by omega) (by omega), wi64 (n := (j : Int) + 1) (by omega) (by omega)]
    by_cases h2 : j % 2 = 0
    · have ed : Sp.dig h j = IntKind.wrap .i64 (Int.fdiv (h.getD (j / 2) 0) 16) := by simp [Sp.dig, h2, Sp.hi4]
      rw [cond_eff (by omega), gd_room (by rw [digs_len]; omega) (by rw [digs_len]; omega), ← ed, wi64 (n := Sp.dsum h j + 15 - Sp.dig h j) (by omega) (by omega), ← digs_succ,
        show Sp.dsum h j + 15 - Sp.dig h j = Sp.dsum h (j + 1) by simp only [Sp.dsum]; omega]
      exact ih
    · have ed : Sp.dig h j = IntKind.wrap .i64 (Sp.andI .u8 (h.getD (j / 2) 0) 15) := by simp [Sp.dig, h2, Sp.lo4]
      rw [cond_ett (by omega), gd_inB (by omega) (by omega), gd_and, gd_dec (by omega), gd_tt, gd_room (by rw [digs_len]; omega) (by rw [digs_len]; omega), ← ed, wi64 (n := Sp.dsum h j + 15 - Sp.dig h j) (by omega) (by omega), ← digs_succ,
        show Sp.dsum h j + 15 - Sp.dig h j = Sp.dsum h (j + 1) by simp only [Sp.dsum]; omega]
      exact ih
theorem and15' (x : Int) : Sp.andI .i64 x 15 = x % 16 := by
  unfold Sp.andI
  have h : (BitVec.ofInt 64 x &&& BitVec.ofInt 64 15).toNat = (BitVec.ofInt 64 x).toNat % 16 := by
    rw [BitVec.toNat_and]
    show (BitVec.ofInt 64 x).toNat &&& 15 = _
    exact Nat.and_two_pow_sub_one_eq_mod _ 4
  show IntKind.wrap .i64 (((BitVec.ofInt 64 x &&& BitVec.ofInt 64 15).toNat : Nat) : Int) = x % 16
  rw [h, BitVec.toNat_ofInt, wi64 (by omega) (by omega)]
  omega
namespace Sp
def digL (h : List Int) : List Int := digs h 64 ++ [dsum h 64 / 256, dsum h 64 / 16 % 16, dsum h 64 % 16]
end Sp
theorem i_digits (h : List Int) (hb : bytes h) : F_13 h = some (Sp.digL h, ()) := by
  have b0 := dsum_b hb 64
  unfold F_13
  have := i_dig0 32 4611686018427387904 0 h hb (by omega) (by omega)
  rw [show Sp.L_13_0 4611686018427387904 0 h 0 [] = some (.e0 (Sp.dsum h 64) (Sp.digs h 64)) from this]
  simp only [Sp.B_13_0]
  rw [gd_room (by rw [digs_len]; omega) (by rw [digs_len]; omega), Int.fdiv_eq_ediv_of_nonneg _ (by decide), Int.fdiv_eq_ediv_of_nonneg _ (by decide), and15', and15']
  rfl
theorem r_digits (h : List Int) (hb : bytes h) : F_15 h = some (Sp.digL h, ()) := by
  have b0 := dsum_b hb 64
  unfold F_15
  have := r_dig0 64 4611686018427387904 0 h hb (by omega) (by omega)
  rw [show Sp.L_15_0 4611686018427387904 0 0 h [] = some (.e0 (Sp.dsum h 64) (Sp.digs h 64)) from this]
  simp only [Sp.B_15_0]
  rw [gd_room (by rw [digs_len]; omega) (by rw [digs_len]; omega), Int.tdiv_eq_ediv_of_nonneg b0.1, Int.tdiv_eq_ediv_of_nonneg b0.1, Int.tmod_eq_emod_of_nonneg b0.1, wi64 (by omega) (by omega), wi64 (by omega) (by omega), Int.tmod_eq_emod_of_nonneg (by omega)]
  rfl
end Go.Ev
set_option linter.unusedSimpArgs false
set_option linter.unusedVariables false
namespace Go.Ev
open Go
set_option maxRecDepth 100000
set_option maxHeartbeats 4000000
theorem u8_b {n : Int} (h : (Lit.int .u8 n).wf = true) : 0 ≤ n ∧ n ≤ 255 := by
  simp [Lit.wf, IntKind.min, IntKind.max, IntKind.signed, IntKind.bits] at h; omega
theorem wf_bytes {n : Nat} {h : List Int} (w : wfD (.arr n (.int .u8)) h) : h.length = n ∧ bytes h := ⟨w.1, fun x hx => u8_b (w.2 x hx)⟩
/-! chains -/
namespace Sp
def link (j : Int) (h : List Int) : List Int := sha ([IntKind.wrap .u8 j] ++ h.take 32)
def chn : Nat → Int → List Int → List Int
  | 0, _, h => h
  | n + 1, j, h => chn n (j + 1) (link j h)
end Sp
theorem chn_app : ∀ (n m : Nat) (j : Int) (h : List Int), Sp.chn (n + m) j h = Sp.chn m (j + n) (Sp.chn n j h)
  | 0, m, j, h => by simp [Sp.chn]
  | n + 1, m, j, h => by
    rw [show n + 1 + m = (n + m) + 1 by omega, Sp.chn, Sp.chn, chn_app n m, show j + 1 + (n : Int) = j + ((n + 1 : Nat) : Int) by omega]
theorem i_chain : ∀ (d m : Nat) (j e : Int) (h o : List Int), e = j + d → -1000 ≤ j → e ≤ 1000 → d < m → Sp.L_37_0 m e j h o = some (.e0 (Sp.chn d j h) o)
  | 0, m + 1, j, e, h, o, h1, h2, h3, _ => by
    rw [Sp.L_37_0, cond_dff (by omega)]
    rfl
  | d + 1, m + 1, j, e, h, o, h1, h2, h3, h4 => by
    have hl : (h.take 32).length ≤ 32 := by simp; omega
    have hs : Sp.p_11 ([IntKind.wrap .u8 j] ++ h.take 32) = true ∧ Sp.v_11 ([IntKind.wrap .u8 j] ++ h.take 32) = (Sp.link j h, ()) := pv_11 _ (i_sum _ (by rw [List.length_append, List.length_singleton]; omega))
    rw [Sp.L_37_0, cond_dtt (by omega), List.drop_zero, gd_room (by omega) (by omega), hs.1, hs.2, gd_tt, wi64 (by omega) (by omega)]
    rw [Sp.chn]
    dsimp only
    exact i_chain d m (j + 1) e (Sp.link j h) o (by omega) (by omega) h3 (by omega)
theorem r_chain : ∀ (d m : Nat) (j e : Int) (h o : List Int), e = j + d → -1000 ≤ j → e ≤ 1000 → d < m → Sp.L_17_0 m e j h o = some (.e0 (Sp.chn d j h) o)
  | 0, m + 1, j, e, h, o, h1, h2, h3, _ => by
    rw [Sp.L_17_0, cond_dff (by omega)]
    rfl
  | d + 1, m + 1, j, e, h, o, h1, h2, h3, h4 => by
    have hl : (h.take 32).length ≤ 32 := by simp; omega
    have hs : Sp.p_12 ([IntKind.wrap .u8 j] ++ h.take 32) = true ∧ Sp.v_12 ([IntKind.wrap .u8 j] ++ h.take 32) = (Sp.link j h, ()) := pv_12 _ (r_sum _ (by rw [List.length_append, List.length_singleton]; omega))
    rw [Sp.L_17_0, cond_dtt (by omega), List.drop_zero, gd_room (by omega) (by omega), hs.1, hs.2, gd_tt, wi64 (by omega) (by omega)]
    rw [Sp.chn]
    dsimp only
    exact r_chain d m (j + 1) e (Sp.link j h) o (by omega) (by omega) h3 (by omega)
theorem chain_ok (h : List Int) (j e : Int) (h0 : 0 ≤ j) (h1 : j ≤ e) (h2 : e ≤ 15) : F_37 h j e = some (Sp.chn (e - j).toNat j h, ()) := by
  unfold F_37
  rw [i_chain (e - j).toNat _ j e h _ (by omega) (by omega) (by omega) (by omega)]
  rfl
theorem rchain_ok (h : List Int) (j e : Int) (h0 : 0 ≤ j) (h1 : j ≤ e) (h2 : e ≤ 15) : F_17 h j e = some (Sp.chn (e - j).toNat j h, ()) := by
  unfold F_17
  rw [r_chain (e - j).toNat _ j e h _ (by omega) (by omega) (by omega) (by omega)]
  rfl
/-! slices.Equal of ints -/
theorem eq_loop : ∀ (d m j : Nat) (x y : List Int), j + d = x.length → x.length = y.length → x.length < 4611686018427387904 → d < m → x.take j = y.take j → Sp.L_14_0 m x y x.length j = (if x = y then some .e1 else some .e0)
  | 0, m + 1, j, x, y, h1, h2, h3, _, h5 => by
    rw [Sp.L_14_0, cond_dff (by omega), if_pos]
    rw [List.take_of_length_le (by omega), List.take_of_length_le (by omega)] at h5
    exact h5
  | d + 1, m + 1, j, x, y, h1, h2, h3, h4, h5 => by
    rw [Sp.L_14_0, cond_dtt (by omega), gd_inB (by omega) (by omega), gd_inB (by omega) (by omega), Int.toNat_natCast]
    by_cases he : x.getD j 0 = y.getD j 0
    · rw [cond_nff he, wi64 (by omega) (by omega)]
      refine eq_loop d m (j + 1) x y (by omega) h2 h3 (by omega) ?_
      have hx : j < x.length := by omega
      have hy : j < y.length := by omega
      simp only [List.getD_eq_getElem?_getD, List.getElem?_eq_getElem hx, List.getElem?_eq_getElem hy, Option.getD_some] at he
      rw [List.take_succ_eq_append_getElem hx, List.take_succ_eq_append_getElem hy, h5, he]
    · rw [cond_ntt he, if_neg (fun e => he (by rw [e]))]
theorem eq_ok (x y : List Int) (h : x.length < 4611686018427387904) : F_14 x y = some (decide (x = y), ()) := by
  unfold F_14
  by_cases hl : x.length = y.length
  · rw [cond_nff (by omega)]
    have := eq_loop x.length 4611686018427387904 0 x y (by omega) hl h (by omega) (by simp)
    rw [show ((0 : Nat) : Int) = 0 from rfl] at this
    rw [this]
    by_cases e : x = y
    · rw [if_pos e, decide_eq_true e]; rfl
    · rw [if_neg e, decide_eq_false e]; rfl
  · rw [cond_ntt (by omega), decide_eq_false (fun e => hl (by rw [e]))]
end Go.Ev
namespace Go.Ev
open Go
set_option maxRecDepth 100000
set_option maxHeartbeats 4000000
set_option linter.unusedVariables false
noncomputable section

def sm_40 : Nat → Option Summ := fun f => bif Nat.beq f 11 then some s_11 else none


def F_40 (a0 : (List Int)) (a1 : (List Int)) : Option ((List Int) × Unit) :=
  gd (room ((1 : Nat) + List.length (List.take (32 : Nat) (List.drop (0 : Nat) a0))) (1 : Nat)) (gd (room (List.length ([(255 : Int)] ++ List.take (32 : Nat) (List.drop (0 : Nat) a0)) + List.length (List.take (32 : Nat) (List.drop (0 : Nat) a1))) (1 : Nat)) (gd (Sp.p_11 ([(255 : Int)] ++ List.take (32 : Nat) (List.drop (0 : Nat) a0) ++ List.take (32 : Nat) (List.drop (0 : Nat) a1))) (some (Prod.fst (Sp.v_11 ([(255 : Int)] ++ List.take (32 : Nat) (List.drop (0 : Nat) a0) ++ List.take (32 : Nat) (List.drop (0 : Nat) a1))), PUnit.unit))))
theorem fn_40 (a0 : (List Int)) (a1 : (List Int)) : evFnL sm_40 FU (ovr noO (evFn sm_40 fns FU 0)) .nil ir40 (ofH [(.arr 32 (.int .u8)), (.arr 32 (.int .u8))] (a0, a1, ())) [] (pureK [(.arr 32 (.int .u8))]) = F_40 a0 a1 := by kernel_rfl
def Sp.p_40 (a0 : (List Int)) (a1 : (List Int)) : Bool := (F_40 a0 a1).isSome
def Sp.v_40 (a0 : (List Int)) (a1 : (List Int)) : (List Int) × Unit := (F_40 a0 a1).getD (dfH [(.arr 32 (.int .u8))])
def s_40 : Summ := shN [(.arr 32 (.int .u8)), (.arr 32 (.int .u8))] [(.arr 32 (.int .u8))] (fun x => Sp.p_40 x.1 x.2.1) (fun x => Sp.v_40 x.1 x.2.1)
theorem pv_40 (a0 : (List Int)) (a1 : (List Int)) {y : (List Int) × Unit} (h : F_40 a0 a1 = some y) : Sp.p_40 a0 a1 = true ∧ Sp.v_40 a0 a1 = y := ⟨by rw [Sp.p_40, h]; rfl, by rw [Sp.v_40, h]; rfl⟩
theorem run_40 (x : HDen [(.arr 32 (.int .u8)), (.arr 32 (.int .u8))]) (y : HDen [(.arr 32 (.int .u8))]) (h : F_40 x.1 x.2.1 = some y) : evFn sm_40 fns FU 1 40 (ofH [(.arr 32 (.int .u8)), (.arr 32 (.int .u8))] x) [] (pureK [(.arr 32 (.int .u8))]) = some y :=
  evFnL_sound (fn := ir40) (t := .nil) (o := noO) rfl noO_ok trivial ((fn_40 _ _).trans h)
end
end Go.Ev
namespace Go.Ev
open Go
set_option maxRecDepth 100000
set_option maxHeartbeats 4000000
set_option linter.unusedVariables false
noncomputable section

def sm_39 : Nat → Option Summ := fun f => bif Nat.beq f 11 then some s_11 else none
def T_39_0 (p0 : List (List Int)) (p1 : Int) (p2 : Int) (p3 : List Int) (p4 : List Int) : St := St.mk [jk, jk, CV.ptr (0 : Nat) [], CV.whole (1 : Nat), jk, jk, CV.pure (Ty.slice (Ty.arr (32 : Nat) (Ty.int IntKind.u8))) p0, CV.int IntKind.i64 p1, CV.int IntKind.i64 p2, jk, jk, jk, jk, jk, jk, jk, jk, jk] [Blk.mem (CV.pure (Ty.arr (32 : Nat) (Ty.int IntKind.u8)) p3), Blk.vec (5 : Nat) (Ty.int IntKind.u8) p4] (0 : Nat)
def X_39_0_0 (p3 : List Int) (p4 : List Int) : St := St.mk [jk, jk, CV.ptr (0 : Nat) [], CV.whole (1 : Nat), jk, jk, jk, jk, jk, jk, jk, jk, jk, jk, jk, jk, jk, jk] [Blk.mem (CV.pure (Ty.arr (32 : Nat) (Ty.int IntKind.u8)) p3), Blk.vec (5 : Nat) (Ty.int IntKind.u8) p4] (0 : Nat)
inductive Sp.E_39_0 where
  | e0 (p3 : List Int) (p4 : List Int)
def Sp.B_39_0 {R : Type} (r : Option Sp.E_39_0) (k0 : (List Int) → (List Int) → Option R) : Option R := match r with
  | none => none
  | some (.e0 p3 p4) => k0 p3 p4
def Sp.L_39_0 : Nat → (List (List Int)) → (Int) → (Int) → (List Int) → (List Int) → Option Sp.E_39_0
  | 0, _, _, _, _, _ => none
  | m + 1, p0, p1, p2, p3, p4 => bif decide (p2 < p1) then gd (inB p2 (List.length p0)) (gd (room (List.length p4 + List.length (List.take (32 : Nat) (List.drop (0 : Nat) (List.getD p0 (Int.toNat p2) (Ty.dflt (Ty.arr (32 : Nat) (Ty.int IntKind.u8))))))) (1 : Nat)) (Sp.L_39_0 m p0 p1 (IntKind.wrap IntKind.i64 (p2 + (1 : Int))) p3 (p4 ++ List.take (32 : Nat) (List.drop (0 : Nat) (List.getD p0 (Int.toNat p2) (Ty.dflt (Ty.arr (32 : Nat) (Ty.int IntKind.u8)))))))) else some (Sp.E_39_0.e0 p3 p4)
def G_39_0 {R : Type} (p0 : List (List Int)) (p1 : Int) (p2 : Int) (p3 : List Int) (p4 : List Int) (k : Ex → St → Option R) : Option R := Sp.B_39_0 (Sp.L_39_0 FU p0 p1 p2 p3 p4) (fun p3 p4 => k (Ex.exit (0 : Nat)) (X_39_0_0 p3 p4))
def o_39_0 {R : Type} (G : (List (List Int)) → (Int) → (Int) → (List Int) → (List Int) → (Ex → St → Option R) → Option R) : St → (Ex → St → Option R) → Option R := fun T k => match T.sl.getD 2 .junk, T.sl.getD 3 .junk, T.sl.getD 6 .junk, T.sl.getD 7 .junk, T.sl.getD 8 .junk, T.hp with
  | CV.ptr (0 : Nat) [], CV.whole (1 : Nat), CV.pure (Ty.slice (Ty.arr (32 : Nat) (Ty.int IntKind.u8))) p0, CV.int IntKind.i64 p1, CV.int IntKind.i64 p2, ((Blk.mem (CV.pure (Ty.arr (32 : Nat) (Ty.int IntKind.u8)) p3)) :: (Blk.vec (5 : Nat) (Ty.int IntKind.u8) p4) :: []) => gd (shapeOK T 18 [2, 3, 6, 7, 8] (0 : Nat)) (G p0 p1 p2 p3 p4 k)
  | _, _, _, _, _, _ => none
theorem o_39_0_inv {R : Type} {G : (List (List Int)) → (Int) → (Int) → (List Int) → (List Int) → (Ex → St → Option R) → Option R} {T : St} {k : Ex → St → Option R} {r : R} (h : o_39_0 G T k = some r) : ∃ p0 p1 p2 p3 p4, T = T_39_0 p0 p1 p2 p3 p4 ∧ G p0 p1 p2 p3 p4 k = some r := by
  unfold o_39_0 at h
  split at h
  · obtain ⟨hs, h'⟩ := gd_some h
    refine ⟨_, _, _, _, _, (st_of (asg := [(2, _), (3, _), (6, _), (7, _), (8, _)]) hs ⟨by assumption, by assumption, by assumption, by assumption, by assumption, trivial⟩ (by assumption)).trans ?_, h'⟩
    kernel_rfl
  · cases h
def O_39_39_0 {R : Type} : St → (Ex → St → Option R) → Option R := fun T k => o_39_0 G_39_0 T k
theorem body_39_0 {R : Type} (K0 : St → Option R) (K1 : Ex → St → Option R) (p0 : List (List Int)) (p1 : Int) (p2 : Int) (p3 : List Int) (p4 : List Int) : evLB (evCodeL sm_39 FU (ovr noO (evFn sm_39 fns FU 0)) .nil ir39_b0) (St.norm ir39_v0) (T_39_0 p0 p1 p2 p3 p4) K0 K1 =
  bif decide (p2 < p1) then gd (inB p2 (List.length p0)) (gd (room (List.length p4 + List.length (List.take (32 : Nat) (List.drop (0 : Nat) (List.getD p0 (Int.toNat p2) (Ty.dflt (Ty.arr (32 : Nat) (Ty.int IntKind.u8))))))) (1 : Nat)) (K0 (T_39_0 p0 p1 (IntKind.wrap IntKind.i64 (p2 + (1 : Int))) p3 (p4 ++ List.take (32 : Nat) (List.drop (0 : Nat) (List.getD p0 (Int.toNat p2) (Ty.dflt (Ty.arr (32 : Nat) (Ty.int IntKind.u8))))))))) else K1 (Ex.exit (0 : Nat)) (X_39_0_0 p3 p4) := by kernel_rfl
theorem Bgd_39_0 {R : Type} {c : Bool} {x : Option R} {y : Option Sp.E_39_0} {k0 : (List Int) → (List Int) → Option R} (h : x = Sp.B_39_0 y k0) : gd c x = Sp.B_39_0 (gd c y) k0 := by cases c; rfl; exact h
theorem Bcond_39_0 {R : Type} {c : Bool} {x x' : Option R} {y y' : Option Sp.E_39_0} {k0 : (List Int) → (List Int) → Option R} (h : x = Sp.B_39_0 y k0) (h' : x' = Sp.B_39_0 y' k0) : (bif c then x else x') = Sp.B_39_0 (bif c then y else y') k0 := by cases c; exact h'; exact h
theorem loop_39_0 {R : Type} (k : Ex → St → Option R) : ∀ (m : Nat) (p0 : List (List Int)) (p1 : Int) (p2 : Int) (p3 : List Int) (p4 : List Int), evLoopN (evCodeL sm_39 FU (ovr noO (evFn sm_39 fns FU 0)) .nil ir39_b0) (St.norm ir39_v0) m (T_39_0 p0 p1 p2 p3 p4) k = Sp.B_39_0 (Sp.L_39_0 m p0 p1 p2 p3 p4) (fun p3 p4 => k (Ex.exit (0 : Nat)) (X_39_0_0 p3 p4))
  | 0, _, _, _, _, _ => rfl
  | m + 1, p0, p1, p2, p3, p4 => by
    rw [evLoopN_succ, body_39_0, Sp.L_39_0]
    repeat' first | apply Bgd_39_0 | apply Bcond_39_0 | exact loop_39_0 k m _ _ _ _ _ | rfl
theorem ok_39_0 {R : Type} (T : St) (k : Ex → St → Option R) (r : R) (h0 : o_39_0 G_39_0 T k = some r) : evLoopN (evCode sm_39 FU (evFn sm_39 fns FU 0) ir39_b0) (St.norm ir39_v0) FU T k = some r := by
  obtain ⟨p0, p1, p2, p3, p4, rfl, h⟩ := o_39_0_inv h0
  refine evLoopN_L (t := .nil) noO_ok trivial _ _ _ _ ?_
  rw [loop_39_0]
  exact h
theorem OK_39_39_0 {R : Type} (T : St) (k : Ex → St → Option R) (r : R) (h : O_39_39_0 T k = some r) : evLoopN (evCode sm_39 FU (evFn sm_39 fns FU 0) ir39_b0) (St.norm ir39_v0) FU T k = some r := ok_39_0 T k r h
def F_39 (a0 : (List (List Int))) : Option ((List Int) × Unit) :=
  Sp.B_39_0 (Sp.L_39_0 (4611686018427387904 : Nat) a0 (↑(List.length a0) : Int) (0 : Int) (List.replicate (32 : Nat) (0 : Int)) []) fun (y2 y3 : List Int) => gd (Sp.p_11 y3) (some (Prod.fst (Sp.v_11 y3), PUnit.unit))
theorem fn_39 (a0 : (List (List Int))) : evFnL sm_39 FU (ovr noO (evFn sm_39 fns FU 0)) (ir39_t O_39_39_0) ir39 (ofH [(.slice (.arr 32 (.int .u8)))] (a0, ())) [] (pureK [(.arr 32 (.int .u8))]) = F_39 a0 := by kernel_rfl
def Sp.p_39 (a0 : (List (List Int))) : Bool := (F_39 a0).isSome
def Sp.v_39 (a0 : (List (List Int))) : (List Int) × Unit := (F_39 a0).getD (dfH [(.arr 32 (.int .u8))])
def s_39 : Summ := shN [(.slice (.arr 32 (.int .u8)))] [(.arr 32 (.int .u8))] (fun x => Sp.p_39 x.1) (fun x => Sp.v_39 x.1)
theorem pv_39 (a0 : (List (List Int))) {y : (List Int) × Unit} (h : F_39 a0 = some y) : Sp.p_39 a0 = true ∧ Sp.v_39 a0 = y := ⟨by rw [Sp.p_39, h]; rfl, by rw [Sp.v_39, h]; rfl⟩
theorem run_39 (x : HDen [(.slice (.arr 32 (.int .u8)))]) (y : HDen [(.arr 32 (.int .u8))]) (h : F_39 x.1 = some y) : evFn sm_39 fns FU 1 39 (ofH [(.slice (.arr 32 (.int .u8)))] x) [] (pureK [(.arr 32 (.int .u8))]) = some y :=
  evFnL_sound (fn := ir39) (t := (ir39_t O_39_39_0)) (o := noO) rfl noO_ok (ir39_tok (fun T k r => OK_39_39_0 T k r)) ((fn_39 _).trans h)
end
end Go.Ev
namespace Go.Ev
open Go
set_option maxRecDepth 100000
set_option maxHeartbeats 4000000
set_option linter.unusedVariables false
noncomputable section

def sm_43 : Nat → Option Summ := fun f => bif Nat.beq f 11 then some s_11 else none


def F_43 (a0 : (List Int)) (a1 : Int) (a2 : Int) : Option ((List Int) × Unit) :=
  gd (Sp.p_11 (List.take (32 : Nat) (List.drop (0 : Nat) a0) ++ [IntKind.wrap IntKind.u8 a1, IntKind.wrap IntKind.u8 a2])) (some (Prod.fst (Sp.v_11 (List.take (32 : Nat) (List.drop (0 : Nat) a0) ++ [IntKind.wrap IntKind.u8 a1, IntKind.wrap IntKind.u8 a2])), PUnit.unit))
theorem fn_43 (a0 : (List Int)) (a1 : Int) (a2 : Int) : evFnL sm_43 FU (ovr noO (evFn sm_43 fns FU 0)) .nil ir43 (ofH [(.arr 32 (.int .u8)), (.int .i64), (.int .i64)] (a0, a1, a2, ())) [] (pureK [(.arr 32 (.int .u8))]) = F_43 a0 a1 a2 := by kernel_rfl
def Sp.p_43 (a0 : (List Int)) (a1 : Int) (a2 : Int) : Bool := (F_43 a0 a1 a2).isSome
def Sp.v_43 (a0 : (List Int)) (a1 : Int) (a2 : Int) : (List Int) × Unit := (F_43 a0 a1 a2).getD (dfH [(.arr 32 (.int .u8))])
def s_43 : Summ := shN [(.arr 32 (.int .u8)), (.int .i64), (.int .i64)] [(.arr 32 (.int .u8))] (fun x => Sp.p_43 x.1 x.2.1 x.2.2.1) (fun x => Sp.v_43 x.1 x.2.1 x.2.2.1)
theorem pv_43 (a0 : (List Int)) (a1 : Int) (a2 : Int) {y : (List Int) × Unit} (h : F_43 a0 a1 a2 = some y) : Sp.p_43 a0 a1 a2 = true ∧ Sp.v_43 a0 a1 a2 = y := ⟨by rw [Sp.p_43, h]; rfl, by rw [Sp.v_43, h]; rfl⟩
theorem run_43 (x : HDen [(.arr 32 (.int .u8)), (.int .i64), (.int .i64)]) (y : HDen [(.arr 32 (.int .u8))]) (h : F_43 x.1 x.2.1 x.2.2.1 = some y) : evFn sm_43 fns FU 1 43 (ofH [(.arr 32 (.int .u8)), (.int .i64), (.int .i64)] x) [] (pureK [(.arr 32 (.int .u8))]) = some y :=
  evFnL_sound (fn := ir43) (t := .nil) (o := noO) rfl noO_ok trivial ((fn_43 _ _ _).trans h)
end
end Go.Ev
namespace Go.Ev
open Go
set_option maxRecDepth 100000
set_option maxHeartbeats 4000000
set_option linter.unusedVariables false
noncomputable section

def sm_44 : Nat → Option Summ := fun f => bif Nat.beq f 37 then some s_37 else bif Nat.beq f 39 then some s_39 else bif Nat.beq f 43 then some s_43 else none
def T_44_0 (p0 : Int) (p1 : Int) (p2 : List Int) (p3 : List Int) (p4 : List (List Int)) : St := St.mk [jk, CV.int IntKind.i64 p0, CV.ptr (0 : Nat) [], jk, CV.ptr (1 : Nat) [], CV.whole (2 : Nat), jk, CV.int IntKind.i64 p1, jk, jk, jk, jk, jk, jk, jk, jk, jk, jk, jk, jk, jk] [Blk.mem (CV.pure (Ty.arr (32 : Nat) (Ty.int IntKind.u8)) p2), Blk.mem (CV.pure (Ty.arr (32 : Nat) (Ty.int IntKind.u8)) p3), Blk.vec (25 : Nat) (Ty.arr (32 : Nat) (Ty.int IntKind.u8)) p4] (0 : Nat)
def X_44_0_0 (p3 : List Int) (p4 : List (List Int)) : St := St.mk [jk, jk, jk, jk, CV.ptr (0 : Nat) [], CV.whole (1 : Nat), jk, jk, jk, jk, jk, jk, jk, jk, jk, jk, jk, jk, jk, jk, jk] [Blk.mem (CV.pure (Ty.arr (32 : Nat) (Ty.int IntKind.u8)) p3), Blk.vec (25 : Nat) (Ty.arr (32 : Nat) (Ty.int IntKind.u8)) p4] (0 : Nat)
inductive Sp.E_44_0 where
  | e0 (p3 : List Int) (p4 : List (List Int))
def Sp.B_44_0 {R : Type} (r : Option Sp.E_44_0) (k0 : (List Int) → (List (List Int)) → Option R) : Option R := match r with
  | none => none
  | some (.e0 p3 p4) => k0 p3 p4
def Sp.L_44_0 : Nat → (Int) → (Int) → (List Int) → (List Int) → (List (List Int)) → Option Sp.E_44_0
  | 0, _, _, _, _, _ => none
  | m + 1, p0, p1, p2, p3, p4 => bif decide (p1 < (67 : Int)) then gd (Sp.p_43 p2 p0 p1) (gd (Sp.p_37 (Prod.fst (Sp.v_43 p2 p0 p1)) (0 : Int) (15 : Int)) (gd (room (List.length p4 + (1 : Nat)) (32 : Nat)) (Sp.L_44_0 m p0 (IntKind.wrap IntKind.i64 (p1 + (1 : Int))) p2 p3 (p4 ++ [Prod.fst (Sp.v_37 (Prod.fst (Sp.v_43 p2 p0 p1)) (0 : Int) (15 : Int))])))) else some (Sp.E_44_0.e0 p3 p4)
def G_44_0 {R : Type} (p0 : Int) (p1 : Int) (p2 : List Int) (p3 : List Int) (p4 : List (List Int)) (k : Ex → St → Option R) : Option R := Sp.B_44_0 (Sp.L_44_0 FU p0 p1 p2 p3 p4) (fun p3 p4 => k (Ex.exit (0 : Nat)) (X_44_0_0 p3 p4))
def o_44_0 {R : Type} (G : (Int) → (Int) → (List Int) → (List Int) → (List (List Int)) → (Ex → St → Option R) → Option R) : St → (Ex → St → Option R) → Option R := fun T k => match T.sl.getD 1 .junk, T.sl.getD 2 .junk, T.sl.getD 4 .junk, T.sl.getD 5 .junk, T.sl.getD 7 .junk, T.hp with
  | CV.int IntKind.i64 p0, CV.ptr (0 : Nat) [], CV.ptr (1 : Nat) [], CV.whole (2 : Nat), CV.int IntKind.i64 p1, ((Blk.mem (CV.pure (Ty.arr (32 : Nat) (Ty.int IntKind.u8)) p2)) :: (Blk.mem (CV.pure (Ty.arr (32 : Nat) (Ty.int IntKind.u8)) p3)) :: (Blk.vec (25 : Nat) (Ty.arr (32 : Nat) (Ty.int IntKind.u8)) p4) :: []) => gd (shapeOK T 21 [1, 2, 4, 5, 7] (0 : Nat)) (G p0 p1 p2 p3 p4 k)
  | _, _, _, _, _, _ => none
theorem o_44_0_inv {R : Type} {G : (Int) → (Int) → (List Int) → (List Int) → (List (List Int)) → (Ex → St → Option R) → Option R} {T : St} {k : Ex → St → Option R} {r : R} (h : o_44_0 G T k = some r) : ∃ p0 p1 p2 p3 p4, T = T_44_0 p0 p1 p2 p3 p4 ∧ G p0 p1 p2 p3 p4 k = some r := by
  unfold o_44_0 at h
  split at h
  · obtain ⟨hs, h'⟩ := gd_some h
    refine ⟨_, _, _, _, _, (st_of (asg := [(1, _), (2, _), (4, _), (5, _), (7, _)]) hs ⟨by assumption, by assumption, by assumption, by assumption, by assumption, trivial⟩ (by assumption)).trans ?_, h'⟩
    kernel_rfl
  · cases h
def O_44_44_0 {R : Type} : St → (Ex → St → Option R) → Option R := fun T k => o_44_0 G_44_0 T k
theorem body_44_0 {R : Type} (K0 : St → Option R) (K1 : Ex → St → Option R) (p0 : Int) (p1 : Int) (p2 : List Int) (p3 : List Int) (p4 : List (List Int)) : evLB (evCodeL sm_44 FU (ovr noO (evFn sm_44 fns FU 0)) .nil ir44_b0) (St.norm ir44_v0) (T_44_0 p0 p1 p2 p3 p4) K0 K1 =
  bif decide (p1 < (67 : Int)) then gd (Sp.p_43 p2 p0 p1) (gd (Sp.p_37 (Prod.fst (Sp.v_43 p2 p0 p1)) (0 : Int) (15 : Int)) (gd (room (List.length p4 + (1 : Nat)) (32 : Nat)) (K0 (T_44_0 p0 (IntKind.wrap IntKind.i64 (p1 + (1 : Int))) p2 p3 (p4 ++ [Prod.fst (Sp.v_37 (Prod.fst (Sp.v_43 p2 p0 p1)) (0 : Int) (15 : Int))]))))) else K1 (Ex.exit (0 : Nat)) (X_44_0_0 p3 p4) := by kernel_rfl
theorem Bgd_44_0 {R : Type} {c : Bool} {x : Option R} {y : Option Sp.E_44_0} {k0 : (List Int) → (List (List Int)) → Option R} (h : x = Sp.B_44_0 y k0) : gd c x = Sp.B_44_0 (gd c y) k0 := by cases c; rfl; exact h
theorem Bcond_44_0 {R : Type} {c : Bool} {x x' : Option R} {y y' : Option Sp.E_44_0} {k0 : (List Int) → (List (List Int)) → Option R} (h : x = Sp.B_44_0 y k0) (h' : x' = Sp.B_44_0 y' k0) : (bif c then x else x') = Sp.B_44_0 (bif c then y else y') k0 := by cases c; exact h'; exact h
theorem loop_44_0 {R : Type} (k : Ex → St → Option R) : ∀ (m : Nat) (p0 : Int) (p1 : Int) (p2 : List Int) (p3 : List Int) (p4 : List (List Int)), evLoopN (evCodeL sm_44 FU (ovr noO (evFn sm_44 fns FU 0)) .nil ir44_b0) (St.norm ir44_v0) m (T_44_0 p0 p1 p2 p3 p4) k = Sp.B_44_0 (Sp.L_44_0 m p0 p1 p2 p3 p4) (fun p3 p4 => k (Ex.exit (0 : Nat)) (X_44_0_0 p3 p4))
  | 0, _, _, _, _, _ => rfl
  | m + 1, p0, p1, p2, p3, p4 => by
    rw [evLoopN_succ, body_44_0, Sp.L_44_0]
    repeat' first | apply Bgd_44_0 | apply Bcond_44_0 | exact loop_44_0 k m _ _ _ _ _ | rfl
theorem ok_44_0 {R : Type} (T : St) (k : Ex → St → Option R) (r : R) (h0 : o_44_0 G_44_0 T k = some r) : evLoopN (evCode sm_44 FU (evFn sm_44 fns FU 0) ir44_b0) (St.norm ir44_v0) FU T k = some r := by
  obtain ⟨p0, p1, p2, p3, p4, rfl, h⟩ := o_44_0_inv h0
  refine evLoopN_L (t := .nil) noO_ok trivial _ _ _ _ ?_
  rw [loop_44_0]
  exact h
theorem OK_44_44_0 {R : Type} (T : St) (k : Ex → St → Option R) (r : R) (h : O_44_44_0 T k = some r) : evLoopN (evCode sm_44 FU (evFn sm_44 fns FU 0) ir44_b0) (St.norm ir44_v0) FU T k = some r := ok_44_0 T k r h
def F_44 (a0 : (List Int)) (a1 : Int) : Option ((List Int) × Unit) :=
  Sp.B_44_0 (Sp.L_44_0 (4611686018427387904 : Nat) a1 (0 : Int) a0 (List.replicate (32 : Nat) (0 : Int)) []) fun (y2 : List Int) (y3 : List (List Int)) => gd (Sp.p_39 y3) (some (Prod.fst (Sp.v_39 y3), PUnit.unit))
theorem fn_44 (a0 : (List Int)) (a1 : Int) : evFnL sm_44 FU (ovr noO (evFn sm_44 fns FU 0)) (ir44_t O_44_44_0) ir44 (ofH [(.arr 32 (.int .u8)), (.int .i64)] (a0, a1, ())) [] (pureK [(.arr 32 (.int .u8))]) = F_44 a0 a1 := by kernel_rfl
def Sp.p_44 (a0 : (List Int)) (a1 : Int) : Bool := (F_44 a0 a1).isSome
def Sp.v_44 (a0 : (List Int)) (a1 : Int) : (List Int) × Unit := (F_44 a0 a1).getD (dfH [(.arr 32 (.int .u8))])
def s_44 : Summ := shN [(.arr 32 (.int .u8)), (.int .i64)] [(.arr 32 (.int .u8))] (fun x => Sp.p_44 x.1 x.2.1) (fun x => Sp.v_44 x.1 x.2.1)
theorem pv_44 (a0 : (List Int)) (a1 : Int) {y : (List Int) × Unit} (h : F_44 a0 a1 = some y) : Sp.p_44 a0 a1 = true ∧ Sp.v_44 a0 a1 = y := ⟨by rw [Sp.p_44, h]; rfl, by rw [Sp.v_44, h]; rfl⟩
theorem run_44 (x : HDen [(.arr 32 (.int .u8)), (.int .i64)]) (y : HDen [(.arr 32 (.int .u8))]) (h : F_44 x.1 x.2.1 = some y) : evFn sm_44 fns FU 1 44 (ofH [(.arr 32 (.int .u8)), (.int .i64)] x) [] (pureK [(.arr 32 (.int .u8))]) = some y :=
  evFnL_sound (fn := ir44) (t := (ir44_t O_44_44_0)) (o := noO) rfl noO_ok (ir44_tok (fun T k r => OK_44_44_0 T k r)) ((fn_44 _ _).trans h)
end
end Go.Ev
namespace Go.Ev
open Go
set_option maxRecDepth 100000
set_option maxHeartbeats 4000000
set_option linter.unusedVariables false
noncomputable section

def sm_23 : Nat → Option Summ := fun f => bif Nat.beq f 40 then some s_40 else bif Nat.beq f 44 then some s_44 else none


def F_23 (a0 : (List Int)) : Option ((List Int) × Unit) :=
  gd (Sp.p_44 a0 (0 : Int)) (gd (Sp.p_44 a0 (1 : Int)) (gd (Sp.p_40 (Prod.fst (Sp.v_44 a0 (0 : Int))) (Prod.fst (Sp.v_44 a0 (1 : Int)))) (gd (Sp.p_44 a0 (2 : Int)) (gd (Sp.p_44 a0 (3 : Int)) (gd (Sp.p_40 (Prod.fst (Sp.v_44 a0 (2 : Int))) (Prod.fst (Sp.v_44 a0 (3 : Int)))) (gd (Sp.p_40 (Prod.fst (Sp.v_40 (Prod.fst (Sp.v_44 a0 (0 : Int))) (Prod.fst (Sp.v_44 a0 (1 : Int))))) (Prod.fst (Sp.v_40 (Prod.fst (Sp.v_44 a0 (2 : Int))) (Prod.fst (Sp.v_44 a0 (3 : Int)))))) (some (Prod.fst (Sp.v_40 (Prod.fst (Sp.v_40 (Prod.fst (Sp.v_44 a0 (0 : Int))) (Prod.fst (Sp.v_44 a0 (1 : Int))))) (Prod.fst (Sp.v_40 (Prod.fst (Sp.v_44 a0 (2 : Int))) (Prod.fst (Sp.v_44 a0 (3 : Int)))))), PUnit.unit))))))))
theorem fn_23 (a0 : (List Int)) : evFnL sm_23 FU (ovr noO (evFn sm_23 fns FU 0)) .nil ir23 (ofH [(.arr 32 (.int .u8))] (a0, ())) [] (pureK [(.arr 32 (.int .u8))]) = F_23 a0 := by kernel_rfl
def Sp.p_23 (a0 : (List Int)) : Bool := (F_23 a0).isSome
def Sp.v_23 (a0 : (List Int)) : (List Int) × Unit := (F_23 a0).getD (dfH [(.arr 32 (.int .u8))])
def s_23 : Summ := shN [(.arr 32 (.int .u8))] [(.arr 32 (.int .u8))] (fun x => Sp.p_23 x.1) (fun x => Sp.v_23 x.1)
theorem pv_23 (a0 : (List Int)) {y : (List Int) × Unit} (h : F_23 a0 = some y) : Sp.p_23 a0 = true ∧ Sp.v_23 a0 = y := ⟨by rw [Sp.p_23, h]; rfl, by rw [Sp.v_23, h]; rfl⟩
theorem run_23 (x : HDen [(.arr 32 (.int .u8))]) (y : HDen [(.arr 32 (.int .u8))]) (h : F_23 x.1 = some y) : evFn sm_23 fns FU 1 23 (ofH [(.arr 32 (.int .u8))] x) [] (pureK [(.arr 32 (.int .u8))]) = some y :=
  evFnL_sound (fn := ir23) (t := .nil) (o := noO) rfl noO_ok trivial ((fn_23 _).trans h)
end
end Go.Ev
namespace Go.Ev
open Go
set_option maxRecDepth 100000
set_option maxHeartbeats 4000000
set_option linter.unusedVariables false
noncomputable section

def sm_42 : Nat → Option Summ := fun f => bif Nat.beq f 12 then some s_12 else none


def F_42 (a0 : (List Int)) (a1 : (List Int)) : Option ((List Int) × Unit) :=
  gd (room ((1 : Nat) + List.length (List.take (32 : Nat) (List.drop (0 : Nat) a0))) (1 : Nat)) (gd (room (List.length ([(255 : Int)] ++ List.take (32 : Nat) (List.drop (0 : Nat) a0)) + List.length (List.take (32 : Nat) (List.drop (0 : Nat) a1))) (1 : Nat)) (gd (Sp.p_12 ([(255 : Int)] ++ List.take (32 : Nat) (List.drop (0 : Nat) a0) ++ List.take (32 : Nat) (List.drop (0 : Nat) a1))) (some (Prod.fst (Sp.v_12 ([(255 : Int)] ++ List.take (32 : Nat) (List.drop (0 : Nat) a0) ++ List.take (32 : Nat) (List.drop (0 : Nat) a1))), PUnit.unit))))
theorem fn_42 (a0 : (List Int)) (a1 : (List Int)) : evFnL sm_42 FU (ovr noO (evFn sm_42 fns FU 0)) .nil ir42 (ofH [(.arr 32 (.int .u8)), (.arr 32 (.int .u8))] (a0, a1, ())) [] (pureK [(.arr 32 (.int .u8))]) = F_42 a0 a1 := by kernel_rfl
def Sp.p_42 (a0 : (List Int)) (a1 : (List Int)) : Bool := (F_42 a0 a1).isSome
def Sp.v_42 (a0 : (List Int)) (a1 : (List Int)) : (List Int) × Unit := (F_42 a0 a1).getD (dfH [(.arr 32 (.int .u8))])
def s_42 : Summ := shN [(.arr 32 (.int .u8)), (.arr 32 (.int .u8))] [(.arr 32 (.int .u8))] (fun x => Sp.p_42 x.1 x.2.1) (fun x => Sp.v_42 x.1 x.2.1)
theorem pv_42 (a0 : (List Int)) (a1 : (List Int)) {y : (List Int) × Unit} (h : F_42 a0 a1 = some y) : Sp.p_42 a0 a1 = true ∧ Sp.v_42 a0 a1 = y := ⟨by rw [Sp.p_42, h]; rfl, by rw [Sp.v_42, h]; rfl⟩
theorem run_42 (x : HDen [(.arr 32 (.int .u8)), (.arr 32 (.int .u8))]) (y : HDen [(.arr 32 (.int .u8))]) (h : F_42 x.1 x.2.1 = some y) : evFn sm_42 fns FU 1 42 (ofH [(.arr 32 (.int .u8)), (.arr 32 (.int .u8))] x) [] (pureK [(.arr 32 (.int .u8))]) = some y :=
  evFnL_sound (fn := ir42) (t := .nil) (o := noO) rfl noO_ok trivial ((fn_42 _ _).trans h)
end
end Go.Ev
namespace Go.Ev
open Go
set_option maxRecDepth 100000
set_option maxHeartbeats 4000000
set_option linter.unusedVariables false
noncomputable section

def sm_41 : Nat → Option Summ := fun f => bif Nat.beq f 12 then some s_12 else none
def T_41_0 (p0 : List (List Int)) (p1 : Int) (p2 : List Int) (p3 : List Int) : St := St.mk [CV.pure (Ty.slice (Ty.arr (32 : Nat) (Ty.int IntKind.u8))) p0, jk, CV.ptr (0 : Nat) [], CV.whole (1 : Nat), CV.int IntKind.i64 p1, jk, jk, jk, jk, jk, jk, jk, jk, jk, jk, jk, jk, jk, jk] [Blk.mem (CV.pure (Ty.arr (32 : Nat) (Ty.int IntKind.u8)) p2), Blk.vec (5 : Nat) (Ty.int IntKind.u8) p3] (0 : Nat)
def X_41_0_0 (p2 : List Int) (p3 : List Int) : St := St.mk [jk, jk, CV.ptr (0 : Nat) [], CV.whole (1 : Nat), jk, jk, jk, jk, jk, jk, jk, jk, jk, jk, jk, jk, jk, jk, jk] [Blk.mem (CV.pure (Ty.arr (32 : Nat) (Ty.int IntKind.u8)) p2), Blk.vec (5 : Nat) (Ty.int IntKind.u8) p3] (0 : Nat)
inductive Sp.E_41_0 where
  | e0 (p2 : List Int) (p3 : List Int)
def Sp.B_41_0 {R : Type} (r : Option Sp.E_41_0) (k0 : (List Int) → (List Int) → Option R) : Option R := match r with
  | none => none
  | some (.e0 p2 p3) => k0 p2 p3
def Sp.L_41_0 : Nat → (List (List Int)) → (Int) → (List Int) → (List Int) → Option Sp.E_41_0
  | 0, _, _, _, _ => none
  | m + 1, p0, p1, p2, p3 => bif decide (p1 < (↑(List.length p0) : Int)) then gd (inB p1 (List.length p0)) (gd (room (List.length p3 + List.length (List.take (32 : Nat) (List.drop (0 : Nat) (List.getD p0 (Int.toNat p1) (Ty.dflt (Ty.arr (32 : Nat) (Ty.int IntKind.u8))))))) (1 : Nat)) (Sp.L_41_0 m p0 (IntKind.wrap IntKind.i64 (p1 + (1 : Int))) p2 (p3 ++ List.take (32 : Nat) (List.drop (0 : Nat) (List.getD p0 (Int.toNat p1) (Ty.dflt (Ty.arr (32 : Nat) (Ty.int IntKind.u8)))))))) else some (Sp.E_41_0.e0 p2 p3)
def G_41_0 {R : Type} (p0 : List (List Int)) (p1 : Int) (p2 : List Int) (p3 : List Int) (k : Ex → St → Option R) : Option R := Sp.B_41_0 (Sp.L_41_0 FU p0 p1 p2 p3) (fun p2 p3 => k (Ex.exit (0 : Nat)) (X_41_0_0 p2 p3))
def o_41_0 {R : Type} (G : (List (List Int)) → (Int) → (List Int) → (List Int) → (Ex → St → Option R) → Option R) : St → (Ex → St → Option R) → Option R := fun T k => match T.sl.getD 0 .junk, T.sl.getD 2 .junk, T.sl.getD 3 .junk, T.sl.getD 4 .junk, T.hp with
  | CV.pure (Ty.slice (Ty.arr (32 : Nat) (Ty.int IntKind.u8))) p0, CV.ptr (0 : Nat) [], CV.whole (1 : Nat), CV.int IntKind.i64 p1, ((Blk.mem (CV.pure (Ty.arr (32 : Nat) (Ty.int IntKind.u8)) p2)) :: (Blk.vec (5 : Nat) (Ty.int IntKind.u8) p3) :: []) => gd (shapeOK T 19 [0, 2, 3, 4] (0 : Nat)) (G p0 p1 p2 p3 k)
  | _, _, _, _, _ => none
theorem o_41_0_inv {R : Type} {G : (List (List Int)) → (Int) → (List Int) → (List Int) → (Ex → St → Option R) → Option R} {T : St} {k : Ex → St → Option R} {r : R} (h : o_41_0 G T k = some r) : ∃ p0 p1 p2 p3, T = T_41_0 p0 p1 p2 p3 ∧ G p0 p1 p2 p3 k = some r := by
  unfold o_41_0 at h
  split at h
  · obtain ⟨hs, h'⟩ := gd_some h
    refine ⟨_, _, _, _, (st_of (asg := [(0, _), (2, _), (3, _), (4, _)]) hs ⟨by assumption, by assumption, by assumption, by assumption, trivial⟩ (by assumption)).trans ?_, h'⟩
    kernel_rfl
  · cases h
def O_41_41_0 {R : Type} : St → (Ex → St → Option R) → Option R := fun T k => o_41_0 G_41_0 T k
theorem body_41_0 {R : Type} (K0 : St → Option R) (K1 : Ex → St → Option R) (p0 : List (List Int)) (p1 : Int) (p2 : List Int) (p3 : List Int) : evLB (evCodeL sm_41 FU (ovr noO (evFn sm_41 fns FU 0)) .nil ir41_b0) (St.norm ir41_v0) (T_41_0 p0 p1 p2 p3) K0 K1 =
  bif decide (p1 < (↑(List.length p0) : Int)) then gd (inB p1 (List.length p0)) (gd (room (List.length p3 + List.length (List.take (32 : Nat) (List.drop (0 : Nat) (List.getD p0 (Int.toNat p1) (Ty.dflt (Ty.arr (32 : Nat) (Ty.int IntKind.u8))))))) (1 : Nat)) (K0 (T_41_0 p0 (IntKind.wrap IntKind.i64 (p1 + (1 : Int))) p2 (p3 ++ List.take (32 : Nat) (List.drop (0 : Nat) (List.getD p0 (Int.toNat p1) (Ty.dflt (Ty.arr (32 : Nat) (Ty.int IntKind.u8))))))))) else K1 (Ex.exit (0 : Nat)) (X_41_0_0 p2 p3) := by kernel_rfl
theorem Bgd_41_0 {R : Type} {c : Bool} {x : Option R} {y : Option Sp.E_41_0} {k0 : (List Int) → (List Int) → Option R} (h : x = Sp.B_41_0 y k0) : gd c x = Sp.B_41_0 (gd c y) k0 := by cases c; rfl; exact h
theorem Bcond_41_0 {R : Type} {c : Bool} {x x' : Option R} {y y' : Option Sp.E_41_0} {k0 : (List Int) → (List Int) → Option R} (h : x = Sp.B_41_0 y k0) (h' : x' = Sp.B_41_0 y' k0) : (bif c then x else x') = Sp.B_41_0 (bif c then y else y') k0 := by cases c; exact h'; exact h
theorem loop_41_0 {R : Type} (k : Ex → St → Option R) : ∀ (m : Nat) (p0 : List (List Int)) (p1 : Int) (p2 : List Int) (p3 : List Int), evLoopN (evCodeL sm_41 FU (ovr noO (evFn sm_41 fns FU 0)) .nil ir41_b0) (St.norm ir41_v0) m (T_41_0 p0 p1 p2 p3) k = Sp.B_41_0 (Sp.L_41_0 m p0 p1 p2 p3) (fun p2 p3 => k (Ex.exit (0 : Nat)) (X_41_0_0 p2 p3))
  | 0, _, _, _, _ => rfl
  | m + 1, p0, p1, p2, p3 => by
    rw [evLoopN_succ, body_41_0, Sp.L_41_0]
    repeat' first | apply Bgd_41_0 | apply Bcond_41_0 | exact loop_41_0 k m _ _ _ _ | rfl
theorem ok_41_0 {R : Type} (T : St) (k : Ex → St → Option R) (r : R) (h0 : o_41_0 G_41_0 T k = some r) : evLoopN (evCode sm_41 FU (evFn sm_41 fns FU 0) ir41_b0) (St.norm ir41_v0) FU T k = some r := by
  obtain ⟨p0, p1, p2, p3, rfl, h⟩ := o_41_0_inv h0
  refine evLoopN_L (t := .nil) noO_ok trivial _ _ _ _ ?_
  rw [loop_41_0]
  exact h
theorem OK_41_41_0 {R : Type} (T : St) (k : Ex → St → Option R) (r : R) (h : O_41_41_0 T k = some r) : evLoopN (evCode sm_41 FU (evFn sm_41 fns FU 0) ir41_b0) (St.norm ir41_v0) FU T k = some r := ok_41_0 T k r h
def F_41 (a0 : (List (List Int))) : Option ((List Int) × Unit) :=
  Sp.B_41_0 (Sp.L_41_0 (4611686018427387904 : Nat) a0 (0 : Int) (List.replicate (32 : Nat) (0 : Int)) []) fun (y2 y3 : List Int) => gd (Sp.p_12 y3) (some (Prod.fst (Sp.v_12 y3), PUnit.unit))
theorem fn_41 (a0 : (List (List Int))) : evFnL sm_41 FU (ovr noO (evFn sm_41 fns FU 0)) (ir41_t O_41_41_0) ir41 (ofH [(.slice (.arr 32 (.int .u8)))] (a0, ())) [] (pureK [(.arr 32 (.int .u8))]) = F_41 a0 := by kernel_rfl
def Sp.p_41 (a0 : (List (List Int))) : Bool := (F_41 a0).isSome
def Sp.v_41 (a0 : (List (List Int))) : (List Int) × Unit := (F_41 a0).getD (dfH [(.arr 32 (.int .u8))])
def s_41 : Summ := shN [(.slice (.arr 32 (.int .u8)))] [(.arr 32 (.int .u8))] (fun x => Sp.p_41 x.1) (fun x => Sp.v_41 x.1)
theorem pv_41 (a0 : (List (List Int))) {y : (List Int) × Unit} (h : F_41 a0 = some y) : Sp.p_41 a0 = true ∧ Sp.v_41 a0 = y := ⟨by rw [Sp.p_41, h]; rfl, by rw [Sp.v_41, h]; rfl⟩
theorem run_41 (x : HDen [(.slice (.arr 32 (.int .u8)))]) (y : HDen [(.arr 32 (.int .u8))]) (h : F_41 x.1 = some y) : evFn sm_41 fns FU 1 41 (ofH [(.slice (.arr 32 (.int .u8)))] x) [] (pureK [(.arr 32 (.int .u8))]) = some y :=
  evFnL_sound (fn := ir41) (t := (ir41_t O_41_41_0)) (o := noO) rfl noO_ok (ir41_tok (fun T k r => OK_41_41_0 T k r)) ((fn_41 _).trans h)
end
end Go.Ev
namespace Go.Ev
open Go
set_option maxRecDepth 100000
set_option maxHeartbeats 4000000
set_option linter.unusedVariables false
noncomputable section

def sm_45 : Nat → Option Summ := fun f => bif Nat.beq f 12 then some s_12 else none


def F_45 (a0 : (List Int)) (a1 : Int) (a2 : Int) : Option ((List Int) × Unit) :=
  gd (room ((0 : Nat) + List.length (List.take (32 : Nat) (List.drop (0 : Nat) a0))) (1 : Nat)) (gd (room (List.length ([] ++ List.take (32 : Nat) (List.drop (0 : Nat) a0)) + (2 : Nat)) (1 : Nat)) (gd (Sp.p_12 ([] ++ List.take (32 : Nat) (List.drop (0 : Nat) a0) ++ [IntKind.wrap IntKind.u8 a1, IntKind.wrap IntKind.u8 a2])) (some (Prod.fst (Sp.v_12 ([] ++ List.take (32 : Nat) (List.drop (0 : Nat) a0) ++ [IntKind.wrap IntKind.u8 a1, IntKind.wrap IntKind.u8 a2])), PUnit.unit))))
theorem fn_45 (a0 : (List Int)) (a1 : Int) (a2 : Int) : evFnL sm_45 FU (ovr noO (evFn sm_45 fns FU 0)) .nil ir45 (ofH [(.arr 32 (.int .u8)), (.int .i64), (.int .i64)] (a0, a1, a2, ())) [] (pureK [(.arr 32 (.int .u8))]) = F_45 a0 a1 a2 := by kernel_rfl
def Sp.p_45 (a0 : (List Int)) (a1 : Int) (a2 : Int) : Bool := (F_45 a0 a1 a2).isSome
def Sp.v_45 (a0 : (List Int)) (a1 : Int) (a2 : Int) : (List Int) × Unit := (F_45 a0 a1 a2).getD (dfH [(.arr 32 (.int .u8))])
def s_45 : Summ := shN [(.arr 32 (.int .u8)), (.int .i64), (.int .i64)] [(.arr 32 (.int .u8))] (fun x => Sp.p_45 x.1 x.2.1 x.2.2.1) (fun x => Sp.v_45 x.1 x.2.1 x.2.2.1)
theorem pv_45 (a0 : (List Int)) (a1 : Int) (a2 : Int) {y : (List Int) × Unit} (h : F_45 a0 a1 a2 = some y) : Sp.p_45 a0 a1 a2 = true ∧ Sp.v_45 a0 a1 a2 = y := ⟨by rw [Sp.p_45, h]; rfl, by rw [Sp.v_45, h]; rfl⟩
theorem run_45 (x : HDen [(.arr 32 (.int .u8)), (.int .i64), (.int .i64)]) (y : HDen [(.arr 32 (.int .u8))]) (h : F_45 x.1 x.2.1 x.2.2.1 = some y) : evFn sm_45 fns FU 1 45 (ofH [(.arr 32 (.int .u8)), (.int .i64), (.int .i64)] x) [] (pureK [(.arr 32 (.int .u8))]) = some y :=
  evFnL_sound (fn := ir45) (t := .nil) (o := noO) rfl noO_ok trivial ((fn_45 _ _ _).trans h)
end
end Go.Ev
namespace Go.Ev
open Go
set_option maxRecDepth 100000
set_option maxHeartbeats 4000000
set_option linter.unusedVariables false
noncomputable section

def sm_46 : Nat → Option Summ := fun f => bif Nat.beq f 17 then some s_17 else bif Nat.beq f 41 then some s_41 else bif Nat.beq f 45 then some s_45 else none
def T_46_0 (p0 : Int) (p1 : Int) (p2 : List Int) (p3 : List Int) (p4 : List (List Int)) : St := St.mk [jk, CV.int IntKind.i64 p0, CV.ptr (0 : Nat) [], jk, CV.ptr (1 : Nat) [], CV.whole (2 : Nat), CV.int IntKind.i64 p1, jk, jk, jk, jk, jk, jk, jk, jk, jk, jk, jk, jk, jk, jk] [Blk.mem (CV.pure (Ty.arr (32 : Nat) (Ty.int IntKind.u8)) p2), Blk.mem (CV.pure (Ty.arr (32 : Nat) (Ty.int IntKind.u8)) p3), Blk.vec (25 : Nat) (Ty.arr (32 : Nat) (Ty.int IntKind.u8)) p4] (0 : Nat)
def X_46_0_0 (p3 : List Int) (p4 : List (List Int)) : St := St.mk [jk, jk, jk, jk, CV.ptr (0 : Nat) [], CV.whole (1 : Nat), jk, jk, jk, jk, jk, jk, jk, jk, jk, jk, jk, jk, jk, jk, jk] [Blk.mem (CV.pure (Ty.arr (32 : Nat) (Ty.int IntKind.u8)) p3), Blk.vec (25 : Nat) (Ty.arr (32 : Nat) (Ty.int IntKind.u8)) p4] (0 : Nat)
inductive Sp.E_46_0 where
  | e0 (p3 : List Int) (p4 : List (List Int))
def Sp.B_46_0 {R : Type} (r : Option Sp.E_46_0) (k0 : (List Int) → (List (List Int)) → Option R) : Option R := match r with
  | none => none
  | some (.e0 p3 p4) => k0 p3 p4
def Sp.L_46_0 : Nat → (Int) → (Int) → (List Int) → (List Int) → (List (List Int)) → Option Sp.E_46_0
  | 0, _, _, _, _, _ => none
  | m + 1, p0, p1, p2, p3, p4 => bif decide (p1 < (67 : Int)) then gd (Sp.p_45 p2 p0 p1) (gd (Sp.p_17 (Prod.fst (Sp.v_45 p2 p0 p1)) (0 : Int) (15 : Int)) (gd (room (List.length p4 + (1 : Nat)) (32 : Nat)) (Sp.L_46_0 m p0 (IntKind.wrap IntKind.i64 (p1 + (1 : Int))) p2 p3 (p4 ++ [Prod.fst (Sp.v_17 (Prod.fst (Sp.v_45 p2 p0 p1)) (0 : Int) (15 : Int))])))) else some (Sp.E_46_0.e0 p3 p4)
def G_46_0 {R : Type} (p0 : Int) (p1 : Int) (p2 : List Int) (p3 : List Int) (p4 : List (List Int)) (k : Ex → St → Option R) : Option R := Sp.B_46_0 (Sp.L_46_0 FU p0 p1 p2 p3 p4) (fun p3 p4 => k (Ex.exit (0 : Nat)) (X_46_0_0 p3 p4))
def o_46_0 {R : Type} (G : (Int) → (Int) → (List Int) → (List Int) → (List (List Int)) → (Ex → St → Option R) → Option R) : St → (Ex → St → Option R) → Option R := fun T k => match T.sl.getD 1 .junk, T.sl.getD 2 .junk, T.sl.getD 4 .junk, T.sl.getD 5 .junk, T.sl.getD 6 .junk, T.hp with
  | CV.int IntKind.i64 p0, CV.ptr (0 : Nat) [], CV.ptr (1 : Nat) [], CV.whole (2 : Nat), CV.int IntKind.i64 p1, ((Blk.mem (CV.pure (Ty.arr (32 : Nat) (Ty.int IntKind.u8)) p2)) :: (Blk.mem (CV.pure (Ty.arr (32 : Nat) (Ty.int IntKind.u8)) p3)) :: (Blk.vec (25 : Nat) (Ty.arr (32 : Nat) (Ty.int IntKind.u8)) p4) :: []) => gd (shapeOK T 21 [1, 2, 4, 5, 6] (0 : Nat)) (G p0 p1 p2 p3 p4 k)
  | _, _, _, _, _, _ => none
theorem o_46_0_inv {R : Type} {G : (Int) → (Int) → (List Int) → (List Int) → (List (List Int)) → (Ex → St → Option R) → Option R} {T : St} {k : Ex → St → Option R} {r : R} (h : o_46_0 G T k = some r) : ∃ p0 p1 p2 p3 p4, T = T_46_0 p0 p1 p2 p3 p4 ∧ G p0 p1 p2 p3 p4 k = some r := by
  unfold o_46_0 at h
  split at h
  · obtain ⟨hs, h'⟩ := gd_some h
    refine ⟨_, _, _, _, _, (st_of (asg := [(1, _), (2, _), (4, _), (5, _), (6, _)]) hs ⟨by assumption, by assumption, by assumption, by assumption, by assumption, trivial⟩ (by assumption)).trans ?_, h'⟩
    kernel_rfl
  · cases h
def O_46_46_0 {R : Type} : St → (Ex → St → Option R) → Option R := fun T k => o_46_0 G_46_0 T k
theorem body_46_0 {R : Type} (K0 : St → Option R) (K1 : Ex → St → Option R) (p0 : Int) (p1 : Int) (p2 : List Int) (p3 : List Int) (p4 : List (List Int)) : evLB (evCodeL sm_46 FU (ovr noO (evFn sm_46 fns FU 0)) .nil ir46_b0) (St.norm ir46_v0) (T_46_0 p0 p1 p2 p3 p4) K0 K1 =
  bif decide (p1 < (67 : Int)) then gd (Sp.p_45 p2 p0 p1) (gd (Sp.p_17 (Prod.fst (Sp.v_45 p2 p0 p1)) (0 : Int) (15 : Int)) (gd (room (List.length p4 + (1 : Nat)) (32 : Nat)) (K0 (T_46_0 p0 (IntKind.wrap IntKind.i64 (p1 + (1 : Int))) p2 p3 (p4 ++ [Prod.fst (Sp.v_17 (Prod.fst (Sp.v_45 p2 p0 p1)) (0 : Int) (15 : Int))]))))) else K1 (Ex.exit (0 : Nat)) (X_46_0_0 p3 p4) := by kernel_rfl
theorem Bgd_46_0 {R : Type} {c : Bool} {x : Option R} {y : Option Sp.E_46_0} {k0 : (List Int) → (List (List Int)) → Option R} (h : x = Sp.B_46_0 y k0) : gd c x = Sp.B_46_0 (gd c y) k0 := by cases c; rfl; exact h
theorem Bcond_46_0 {R : Type} {c : Bool} {x x' : Option R} {y y' : Option Sp.E_46_0} {k0 : (List Int) → (List (List Int)) → Option R} (h : x = Sp.B_46_0 y k0) (h' : x' = Sp.B_46_0 y' k0) : (bif c then x else x') = Sp.B_46_0 (bif c then y else y') k0 := by cases c; exact h'; exact h
theorem loop_46_0 {R : Type} (k : Ex → St → Option R) : ∀ (m : Nat) (p0 : Int) (p1 : Int) (p2 : List Int) (p3 : List Int) (p4 : List (List Int)), evLoopN (evCodeL sm_46 FU (ovr noO (evFn sm_46 fns FU 0)) .nil ir46_b0) (St.norm ir46_v0) m (T_46_0 p0 p1 p2 p3 p4) k = Sp.B_46_0 (Sp.L_46_0 m p0 p1 p2 p3 p4) (fun p3 p4 => k (Ex.exit (0 : Nat)) (X_46_0_0 p3 p4))
  | 0, _, _, _, _, _ => rfl
  | m + 1, p0, p1, p2, p3, p4 => by
    rw [evLoopN_succ, body_46_0, Sp.L_46_0]
    repeat' first | apply Bgd_46_0 | apply Bcond_46_0 | exact loop_46_0 k m _ _ _ _ _ | rfl
theorem ok_46_0 {R : Type} (T : St) (k : Ex → St → Option R) (r : R) (h0 : o_46_0 G_46_0 T k = some r) : evLoopN (evCode sm_46 FU (evFn sm_46 fns FU 0) ir46_b0) (St.norm ir46_v0) FU T k = some r := by
  obtain ⟨p0, p1, p2, p3, p4, rfl, h⟩ := o_46_0_inv h0
  refine evLoopN_L (t := .nil) noO_ok trivial _ _ _ _ ?_
  rw [loop_46_0]
  exact h
theorem OK_46_46_0 {R : Type} (T : St) (k : Ex → St → Option R) (r : R) (h : O_46_46_0 T k = some r) : evLoopN (evCode sm_46 FU (evFn sm_46 fns FU 0) ir46_b0) (St.norm ir46_v0) FU T k = some r := ok_46_0 T k r h
def F_46 (a0 : (List Int)) (a1 : Int) : Option ((List Int) × Unit) :=
  Sp.B_46_0 (Sp.L_46_0 (4611686018427387904 : Nat) a1 (0 : Int) a0 (List.replicate (32 : Nat) (0 : Int)) []) fun (y2 : List Int) (y3 : List (List Int)) => gd (Sp.p_41 y3) (some (Prod.fst (Sp.v_41 y3), PUnit.unit))
theorem fn_46 (a0 : (List Int)) (a1 : Int) : evFnL sm_46 FU (ovr noO (evFn sm_46 fns FU 0)) (ir46_t O_46_46_0) ir46 (ofH [(.arr 32 (.int .u8)), (.int .i64)] (a0, a1, ())) [] (pureK [(.arr 32 (.int .u8))]) = F_46 a0 a1 := by kernel_rfl
def Sp.p_46 (a0 : (List Int)) (a1 : Int) : Bool := (F_46 a0 a1).isSome
def Sp.v_46 (a0 : (List Int)) (a1 : Int) : (List Int) × Unit := (F_46 a0 a1).getD (dfH [(.arr 32 (.int .u8))])
def s_46 : Summ := shN [(.arr 32 (.int .u8)), (.int .i64)] [(.arr 32 (.int .u8))] (fun x => Sp.p_46 x.1 x.2.1) (fun x => Sp.v_46 x.1 x.2.1)
theorem pv_46 (a0 : (List Int)) (a1 : Int) {y : (List Int) × Unit} (h : F_46 a0 a1 = some y) : Sp.p_46 a0 a1 = true ∧ Sp.v_46 a0 a1 = y := ⟨by rw [Sp.p_46, h]; rfl, by rw [Sp.v_46, h]; rfl⟩
theorem run_46 (x : HDen [(.arr 32 (.int .u8)), (.int .i64)]) (y : HDen [(.arr 32 (.int .u8))]) (h : F_46 x.1 x.2.1 = some y) : evFn sm_46 fns FU 1 46 (ofH [(.arr 32 (.int .u8)), (.int .i64)] x) [] (pureK [(.arr 32 (.int .u8))]) = some y :=
  evFnL_sound (fn := ir46) (t := (ir46_t O_46_46_0)) (o := noO) rfl noO_ok (ir46_tok (fun T k r => OK_46_46_0 T k r)) ((fn_46 _ _).trans h)
end
end Go.Ev
namespace Go.Ev
open Go
set_option maxRecDepth 100000
set_option maxHeartbeats 4000000
set_option linter.unusedVariables false
noncomputable section

def sm_24 : Nat → Option Summ := fun f => bif Nat.beq f 42 then some s_42 else bif Nat.beq f 46 then some s_46 else none


def F_24 (a0 : (List Int)) : Option ((List Int) × Unit) :=
  gd (Sp.p_46 a0 (0 : Int)) (gd (Sp.p_46 a0 (1 : Int)) (gd (Sp.p_42 (Prod.fst (Sp.v_46 a0 (0 : Int))) (Prod.fst (Sp.v_46 a0 (1 : Int)))) (gd (Sp.p_46 a0 (2 : Int)) (gd (Sp.p_46 a0 (3 : Int)) (gd (Sp.p_42 (Prod.fst (Sp.v_46 a0 (2 : Int))) (Prod.fst (Sp.v_46 a0 (3 : Int)))) (gd (Sp.p_42 (Prod.fst (Sp.v_42 (Prod.fst (Sp.v_46 a0 (0 : Int))) (Prod.fst (Sp.v_46 a0 (1 : Int))))) (Prod.fst (Sp.v_42 (Prod.fst (Sp.v_46 a0 (2 : Int))) (Prod.fst (Sp.v_46 a0 (3 : Int)))))) (some (Prod.fst (Sp.v_42 (Prod.fst (Sp.v_42 (Prod.fst (Sp.v_46 a0 (0 : Int))) (Prod.fst (Sp.v_46 a0 (1 : Int))))) (Prod.fst (Sp.v_42 (Prod.fst (Sp.v_46 a0 (2 : Int))) (Prod.fst (Sp.v_46 a0 (3 : Int)))))), PUnit.unit))))))))
theorem fn_24 (a0 : (List Int)) : evFnL sm_24 FU (ovr noO (evFn sm_24 fns FU 0)) .nil ir24 (ofH [(.arr 32 (.int .u8))] (a0, ())) [] (pureK [(.arr 32 (.int .u8))]) = F_24 a0 := by kernel_rfl
def Sp.p_24 (a0 : (List Int)) : Bool := (F_24 a0).isSome
def Sp.v_24 (a0 : (List Int)) : (List Int) × Unit := (F_24 a0).getD (dfH [(.arr 32 (.int .u8))])
def s_24 : Summ := shN [(.arr 32 (.int .u8))] [(.arr 32 (.int .u8))] (fun x => Sp.p_24 x.1) (fun x => Sp.v_24 x.1)
theorem pv_24 (a0 : (List Int)) {y : (List Int) × Unit} (h : F_24 a0 = some y) : Sp.p_24 a0 = true ∧ Sp.v_24 a0 = y := ⟨by rw [Sp.p_24, h]; rfl, by rw [Sp.v_24, h]; rfl⟩
theorem run_24 (x : HDen [(.arr 32 (.int .u8))]) (y : HDen [(.arr 32 (.int .u8))]) (h : F_24 x.1 = some y) : evFn sm_24 fns FU 1 24 (ofH [(.arr 32 (.int .u8))] x) [] (pureK [(.arr 32 (.int .u8))]) = some y :=
  evFnL_sound (fn := ir24) (t := .nil) (o := noO) rfl noO_ok trivial ((fn_24 _).trans h)
end
end Go.Ev
set_option linter.unusedSimpArgs false
set_option linter.unusedVariables false
namespace Go.Ev
open Go
set_option maxRecDepth 100000
set_option maxHeartbeats 4000000
namespace Sp
def node (a b : List Int) : List Int := sha ([255] ++ a.take 32 ++ b.take 32)
def sec (s : List Int) (k j : Int) : List Int := sha (s.take 32 ++ [IntKind.wrap .u8 k, IntKind.wrap .u8 j])
def cat (l : List (List Int)) : List Int := l.flatMap fun h => h.take 32
def leafE (l : List (List Int)) : List Int := sha (cat l)
def ends (s : List Int) (k : Int) (n : Nat) : List (List Int) := (List.range n).map fun j : Nat => chn 15 0 (sec s k (j : Int))
def leafS (s : List Int) (k : Int) : List Int := leafE (ends s k 67)
def pubK (s : List Int) : List Int := node (node (leafS s 0) (leafS s 1)) (node (leafS s 2) (leafS s 3))
end Sp
theorem tk32 (a : List Int) : (a.take 32).length ≤ 32 := by rw [List.length_take]; omega
theorem above_ok (a b : List Int) : F_40 a b = some (Sp.node a b, ()) := by
  have h1 := tk32 a
  have h2 := tk32 b
  have hs : Sp.p_11 ([255] ++ a.take 32 ++ b.take 32) = true ∧ Sp.v_11 ([255] ++ a.take 32 ++ b.take 32) = (Sp.node a b, ()) := pv_11 _ (i_sum _ (by rw [List.length_append, List.length_append, List.length_singleton]; omega))
  unfold F_40
  rw [List.drop_zero, List.drop_zero, gd_room (by omega) (by omega), gd_room (by rw [List.length_append, List.length_singleton]; omega) (by rw [List.length_append, List.length_singleton]; omega), hs.1, hs.2, gd_tt]
theorem node_ok (a b : List Int) : F_42 a b = some (Sp.node a b, ()) := by
  have h1 := tk32 a
  have h2 := tk32 b
  have hs : Sp.p_12 ([255] ++ a.take 32 ++ b.take 32) = true ∧ Sp.v_12 ([255] ++ a.take 32 ++ b.take 32) = (Sp.node a b, ()) := pv_12 _ (r_sum _ (by rw [List.length_append, List.length_append, List.length_singleton]; omega))
  unfold F_42
  rw [List.drop_zero, List.drop_zero, gd_room (by omega) (by omega), gd_room (by rw [List.length_append, List.length_singleton]; omega) (by rw [List.length_append, List.length_singleton]; omega), hs.1, hs.2, gd_tt]
theorem sec_ok (s : List Int) (k j : Int) : F_43 s k j = some (Sp.sec s k j, ()) := by
  have h1 := tk32 s
  have hs : Sp.p_11 (s.take 32 ++ [IntKind.wrap .u8 k, IntKind.wrap .u8 j]) = true ∧ Sp.v_11 (s.take 32 ++ [IntKind.wrap .u8 k, IntKind.wrap .u8 j]) = (Sp.sec s k j, ()) := pv_11 _ (i_sum _ (by rw [List.length_append]; simp only [List.length_cons, List.length_nil]; omega))
  unfold F_43
  rw [List.drop_zero, hs.1, hs.2, gd_tt]
theorem rsec_ok (s : List Int) (k j : Int) : F_45 s k j = some (Sp.sec s k j, ()) := by
  have h1 := tk32 s
  have hs : Sp.p_12 (s.take 32 ++ [IntKind.wrap .u8 k, IntKind.wrap .u8 j]) = true ∧ Sp.v_12 (s.take 32 ++ [IntKind.wrap .u8 k, IntKind.wrap .u8 j]) = (Sp.sec s k j, ()) := pv_12 _ (r_sum _ (by rw [List.length_append]; simp only [List.length_cons, List.length_nil]; omega))
  unfold F_45
  rw [List.drop_zero, gd_room (by omega) (by omega), List.nil_append, gd_room (by omega) (by omega), hs.1, hs.2, gd_tt]
theorem cat_len : ∀ l : List (List Int), (Sp.cat l).length ≤ 32 * l.length
  | [] => by simp [Sp.cat]
  | h :: l => by
    have h1 := cat_len l
    have h2 := tk32 h
    simp only [Sp.cat, List.flatMap_cons, List.length_append, List.length_cons] at h1 ⊢
    omega
theorem cat_succ (l : List (List Int)) (j : Nat) (hj : j < l.length) : Sp.cat (l.take (j + 1)) = Sp.cat (l.take j) ++ (l.getD j (Ty.dflt (.arr 32 (.int .u8)))).take 32 := by
  have e : l.getD j (Ty.dflt (.arr 32 (.int .u8))) = l[j] := by simp [List.getD_eq_getElem?_getD, hj]
  rw [List.take_succ_eq_append_getElem hj, e]
  simp only [Sp.cat, List.flatMap_append, List.flatMap_cons, List.flatMap_nil, List.append_nil]
theorem leafE_loop (o : List Int) (l : List (List Int)) (hl : l.length < 1000000) : ∀ (d m j : Nat), j + d = l.length → d < m → Sp.L_39_0 m l l.length (j : Nat) o (Sp.cat (l.take j)) = some (.e0 o (Sp.cat l))
  | 0, m + 1, j, hj, _ => by
    rw [Sp.L_39_0, cond_dff (by omega), List.take_of_length_le (by omega)]
  | d + 1, m + 1, j, hj, hm => by
    have h1 := cat_len (l.take j)
    have h2 := tk32 (l.getD j (Ty.dflt (.arr 32 (.int .u8))))
    have h3 : (l.take j).length ≤ 1000000 := by rw [List.length_take]; omega
    rw [Sp.L_39_0, cond_dtt (by omega), gd_inB (by omega) (by omega), Int.toNat_natCast, List.drop_zero, gd_room (by omega) (by omega), wi64 (by omega) (by omega), ← cat_succ l j (by omega)]
    exact leafE_loop o l hl d m (j + 1) (by omega) (by omega)
theorem rleafE_loop (o : List Int) (l : List (List Int)) (hl : l.length < 1000000) : ∀ (d m j : Nat), j + d = l.length → d < m → Sp.L_41_0 m l (j : Nat) o (Sp.cat (l.take j)) = some (.e0 o (Sp.cat l))
  | 0, m + 1, j, hj, _ => by
    rw [Sp.L_41_0, cond_dff (by omega), List.take_of_length_le (by omega)]
  | d + 1, m + 1, j, hj, hm => by
    have h1 := cat_len (l.take j)
    have h2 := tk32 (l.getD j (Ty.dflt (.arr 32 (.int .u8))))
    have h3 : (l.take j).length ≤ 1000000 := by rw [List.length_take]; omega
    rw [Sp.L_41_0, cond_dtt (by omega), gd_inB (by omega) (by omega), Int.toNat_natCast, List.drop_zero, gd_room (by omega) (by omega), wi64 (by omega) (by omega), ← cat_succ l j (by omega)]
    exact rleafE_loop o l hl d m (j + 1) (by omega) (by omega)
theorem leafE_ok (l : List (List Int)) (hl : l.length < 1000000) : F_39 l = some (Sp.leafE l, ()) := by
  have h1 := cat_len l
  have hs : Sp.p_11 (Sp.cat l) = true ∧ Sp.v_11 (Sp.cat l) = (Sp.leafE l, ()) := pv_11 _ (i_sum _ (by omega))
  unfold F_39
  rw [show Sp.L_39_0 4611686018427387904 l l.length 0 (List.replicate 32 0) [] = _ from leafE_loop (List.replicate 32 0) l hl l.length 4611686018427387904 0 (by omega) (by omega)]
  simp only [Sp.B_39_0]
  rw [hs.1, hs.2, gd_tt]
theorem rleafE_ok (l : List (List Int)) (hl : l.length < 1000000) : F_41 l = some (Sp.leafE l, ()) := by
  have h1 := cat_len l
  have hs : Sp.p_12 (Sp.cat l) = true ∧ Sp.v_12 (Sp.cat l) = (Sp.leafE l, ()) := pv_12 _ (r_sum _ (by omega))
  unfold F_41
  rw [show Sp.L_41_0 4611686018427387904 l 0 (List.replicate 32 0) [] = _ from rleafE_loop (List.replicate 32 0) l hl l.length 4611686018427387904 0 (by omega) (by omega)]
  simp only [Sp.B_41_0]
  rw [hs.1, hs.2, gd_tt]
theorem ends_len (s : List Int) (k : Int) (n : Nat) : (Sp.ends s k n).length = n := by simp [Sp.ends]
theorem ends_succ (s : List Int) (k : Int) (n : Nat) : Sp.ends s k (n + 1) = Sp.ends s k n ++ [Sp.chn 15 0 (Sp.sec s k n)] := by simp [Sp.ends, List.range_succ]
theorem leaf_loop (s o : List Int) (k : Int) : ∀ (d m j : Nat), j + d = 67 → d < m → Sp.L_44_0 m k (j : Nat) s o (Sp.ends s k j) = some (.e0 o (Sp.ends s k 67))
  | 0, m + 1, j, hj, _ => by
    rw [Sp.L_44_0, cond_dff (by omega), show j = 67 by omega]
  | d + 1, m + 1, j, hj, hm => by
    have h1 := pv_43 _ _ _ (sec_ok s k j)
    have h2 := pv_37 _ _ _ (chain_ok (Sp.sec s k j) 0 15 (by decide) (by decide) (by decide))
    rw [Sp.L_44_0, cond_dtt (by omega), h1.1, h1.2, gd_tt]
    dsimp only
    rw [h2.1, h2.2, gd_tt, gd_room (by rw [ends_len]; omega) (by rw [ends_len]; omega), wi64 (by omega) (by omega)]
    dsimp only
    rw [show ((15 : Int) - 0).toNat = 15 from rfl, ← ends_succ]
    exact leaf_loop s o k d m (j + 1) (by omega) (by omega)
theorem rleaf_loop (s o : List Int) (k : Int) : ∀ (d m j : Nat), j + d = 67 → d < m → Sp.L_46_0 m k (j : Nat) s o (Sp.ends s k j) = some (.e0 o (Sp.ends s k 67))
  | 0, m + 1, j, hj, _ => by
    rw [Sp.L_46_0, cond_dff (by omega), show j = 67 by omega]
  | d + 1, m + 1, j, hj, hm => by
    have h1 := pv_45 _ _ _ (rsec_ok s k j)
    have h2 := pv_17 _ _ _ (rchain_ok (Sp.sec s k j) 0 15 (by decide) (by decide) (by decide))
    rw [Sp.L_46_0, cond_dtt (by omega), h1.1, h1.2, gd_tt]
    dsimp only
    rw [h2.1, h2.2, gd_tt, gd_room (by rw [ends_len]; omega) (by rw [ends_len]; omega), wi64 (by omega) (by omega)]
    dsimp only
    rw [show ((15 : Int) - 0).toNat = 15 from rfl, ← ends_succ]
    exact rleaf_loop s o k d m (j + 1) (by omega) (by omega)
theorem leaf_ok (s : List Int) (k : Int) : F_44 s k = some (Sp.leafS s k, ()) := by
  have h := pv_39 _ (leafE_ok (Sp.ends s k 67) (by rw [ends_len]; omega))
  unfold F_44
  rw [show Sp.L_44_0 4611686018427387904 k 0 s (List.replicate 32 0) [] = _ from leaf_loop s (List.replicate 32 0) k 67 4611686018427387904 0 (by omega) (by omega)]
  simp only [Sp.B_44_0]
  rw [h.1, h.2, gd_tt, Sp.leafS]
theorem rleaf_ok (s : List Int) (k : Int) : F_46 s k = some (Sp.leafS s k, ()) := by
  have h := pv_41 _ (rleafE_ok (Sp.ends s k 67) (by rw [ends_len]; omega))
  unfold F_46
  rw [show Sp.L_46_0 4611686018427387904 k 0 s (List.replicate 32 0) [] = _ from rleaf_loop s (List.replicate 32 0) k 67 4611686018427387904 0 (by omega) (by omega)]
  simp only [Sp.B_46_0]
  rw [h.1, h.2, gd_tt, Sp.leafS]
theorem above_pv (a b : List Int) : Sp.p_40 a b = true ∧ Sp.v_40 a b = (Sp.node a b, ()) := pv_40 a b (above_ok a b)
theorem node_pv (a b : List Int) : Sp.p_42 a b = true ∧ Sp.v_42 a b = (Sp.node a b, ()) := pv_42 a b (node_ok a b)
theorem leaf_pv (s : List Int) (k : Int) : Sp.p_44 s k = true ∧ Sp.v_44 s k = (Sp.leafS s k, ()) := pv_44 s k (leaf_ok s k)
theorem rleaf_pv (s : List Int) (k : Int) : Sp.p_46 s k = true ∧ Sp.v_46 s k = (Sp.leafS s k, ()) := pv_46 s k (rleaf_ok s k)
theorem public_ok (s : List Int) : F_23 s = some (Sp.pubK s, ()) := by
  unfold F_23
  simp only [(leaf_pv s _).1, (leaf_pv s _).2, (above_pv _ _).1, (above_pv _ _).2, gd_tt, Sp.pubK]
theorem rpublic_ok (s : List Int) : F_24 s = some (Sp.pubK s, ()) := by
  unfold F_24
  simp only [(rleaf_pv s _).1, (rleaf_pv s _).2, (node_pv _ _).1, (node_pv _ _).2, gd_tt, Sp.pubK]
end Go.Ev
set_option linter.unusedSimpArgs false
set_option linter.unusedVariables false
namespace Go.Ev
open Go
set_option maxRecDepth 1000000
theorem aw : F_10 = some (true, ()) := by kernel_rfl
theorem aw_pv : Sp.p_10 = true ∧ Sp.v_10 = (true, ()) := pv_10 aw
end Go.Ev
namespace Go.Ev
open Go
set_option maxRecDepth 100000
set_option maxHeartbeats 4000000
set_option linter.unusedVariables false
noncomputable section

def sm_5 : Nat → Option Summ := fun f => bif Nat.beq f 10 then some s_10 else bif Nat.beq f 13 then some s_13 else bif Nat.beq f 14 then some s_14 else bif Nat.beq f 15 then some s_15 else bif Nat.beq f 16 then some s_16 else bif Nat.beq f 17 then some s_17 else none


def F_5 (a0 : (List Int)) (a1 : Int) (a2 : Int) (a3 : Int) : Option (Bool) :=
  gd Sp.p_10 (bif !Prod.fst Sp.v_10 then some false else gd (Sp.p_13 a0) (gd (Sp.p_15 a0) (gd (Sp.p_14 (Prod.fst (Sp.v_13 a0)) (Prod.fst (Sp.v_15 a0))) (bif !Prod.fst (Sp.v_14 (Prod.fst (Sp.v_13 a0)) (Prod.fst (Sp.v_15 a0))) then some false else gd (Sp.p_16 a0 a1 a3) (bif decide (a1 < (0 : Int)) then bif Prod.fst (Prod.snd (Sp.v_16 a0 a1 a3)) == (2 : Int) then some (Ty.beq (Ty.arr (32 : Nat) (Ty.int IntKind.u8)) (Prod.fst (Sp.v_16 a0 a1 a3)) (List.replicate (32 : Nat) (0 : Int))) else some false else bif decide (a1 > a3) then bif Prod.fst (Prod.snd (Sp.v_16 a0 a1 a3)) == (2 : Int) then some (Ty.beq (Ty.arr (32 : Nat) (Ty.int IntKind.u8)) (Prod.fst (Sp.v_16 a0 a1 a3)) (List.replicate (32 : Nat) (0 : Int))) else some false else bif decide (a3 > (15 : Int)) then bif Prod.fst (Prod.snd (Sp.v_16 a0 a1 a3)) == (2 : Int) then some (Ty.beq (Ty.arr (32 : Nat) (Ty.int IntKind.u8)) (Prod.fst (Sp.v_16 a0 a1 a3)) (List.replicate (32 : Nat) (0 : Int))) else some false else bif Prod.fst (Prod.snd (Sp.v_16 a0 a1 a3)) != (0 : Int) then some false else gd (Sp.p_17 a0 a1 a3) (bif !Ty.beq (Ty.arr (32 : Nat) (Ty.int IntKind.u8)) (Prod.fst (Sp.v_16 a0 a1 a3)) (Prod.fst (Sp.v_17 a0 a1 a3)) then some false else bif decide (a2 < a1) then some true else bif decide (a2 > a3) then some true else gd (Sp.p_16 a0 a1 a2) (gd (Sp.p_16 (Prod.fst (Sp.v_16 a0 a1 a2)) a2 a3) (bif Prod.fst (Prod.snd (Sp.v_16 a0 a1 a2)) == (0 : Int) then bif Prod.fst (Prod.snd (Sp.v_16 (Prod.fst (Sp.v_16 a0 a1 a2)) a2 a3)) == (0 : Int) then some (Ty.beq (Ty.arr (32 : Nat) (Ty.int IntKind.u8)) (Prod.fst (Sp.v_16 (Prod.fst (Sp.v_16 a0 a1 a2)) a2 a3)) (Prod.fst (Sp.v_16 a0 a1 a3))) else some false else some false))))))))
theorem fn_5 (a0 : (List Int)) (a1 : Int) (a2 : Int) (a3 : Int) : evFnL sm_5 FU (ovr noO (evFn sm_5 fns FU 0)) .nil ir5 (ofH [(.arr 32 (.int .u8)), (.int .i64), (.int .i64), (.int .i64)] (a0, a1, a2, a3, ())) [] bk = F_5 a0 a1 a2 a3 := by kernel_rfl
theorem run_5 (a0 : (List Int)) (a1 : Int) (a2 : Int) (a3 : Int) {b : Bool} (h : F_5 a0 a1 a2 a3 = some b) : evFn sm_5 fns FU 1 5 (ofH [(.arr 32 (.int .u8)), (.int .i64), (.int .i64), (.int .i64)] (a0, a1, a2, a3, ())) [] bk = some b :=
  evFnL_sound (fn := ir5) (t := .nil) (o := noO) rfl noO_ok trivial ((fn_5 _ _ _ _).trans h)
end
end Go.Ev
set_option linter.unusedSimpArgs false
set_option linter.unusedVariables false
namespace Go.Ev
open Go
theorem digL_len (h : List Int) : (Sp.digL h).length = 67 := by simp [Sp.digL, digs_len]
theorem chain_bad (h : List Int) (a b : Int) (hb : a < 0 ∨ a > b ∨ b > 15) : F_16 h a b = some (List.replicate 32 0, 2, ()) := by
  unfold F_16
  by_cases h1 : a < 0
  · rw [cond_dtt h1]
  rw [cond_dff h1]
  by_cases h2 : a > b
  · rw [cond_dtt h2]
  rw [cond_dff h2, cond_dtt (by omega)]
theorem chain_good (h : List Int) (a b : Int) (h0 : 0 ≤ a) (h1 : a ≤ b) (h2 : b ≤ 15) : F_16 h a b = some (Sp.chn (b - a).toNat a h, 0, ()) := by
  have hc := pv_37 _ _ _ (chain_ok h a b h0 h1 h2)
  unfold F_16
  rw [cond_dff (by omega), cond_dff (by omega), cond_dff (by omega), hc.1, hc.2, gd_tt]
theorem plain_5 (h : List Int) (a mid b : Int) (w : wfD (.arr 32 (.int .u8)) h) (_ : wfD (.int .i64) a) (_ : wfD (.int .i64) mid) (_ : wfD (.int .i64) b) : F_5 h a mid b = some true := by
  obtain ⟨hl, hb⟩ := wf_bytes w
  have d1 := pv_13 _ (i_digits h hb)
  have d2 := pv_15 _ (r_digits h hb)
  have d3 := pv_14 _ _ (eq_ok (Sp.digL h) (Sp.digL h) (by rw [digL_len]; omega))
  unfold F_5
  rw [aw_pv.1, aw_pv.2, gd_tt, d1.1, d1.2, gd_tt, d2.1, d2.2, gd_tt, d3.1, d3.2, gd_tt]
  simp only [decide_true, Bool.not_true, cond_f]
  by_cases hbad : a < 0 ∨ a > b ∨ b > 15
  · have c := pv_16 _ _ _ (chain_bad h a b hbad)
    rw [c.1, c.2, gd_tt]
    simp only [arr_beq, beq_self_eq_true, cond_t]
    by_cases h1 : a < 0
    · rw [cond_dtt h1]
    rw [cond_dff h1]
    by_cases h2 : a > b
    · rw [cond_dtt h2]
    rw [cond_dff h2, cond_dtt (by omega)]
  · have c := pv_16 _ _ _ (chain_good h a b (by omega) (by omega) (by omega))
    have r := pv_17 _ _ _ (rchain_ok h a b (by omega) (by omega) (by omega))
    rw [c.1, c.2, gd_tt, cond_dff (by omega), cond_dff (by omega), cond_dff (by omega), r.1, r.2, gd_tt]
    simp only [arr_beq, beq_self_eq_true, Bool.not_true, cond_f, bne_self_eq_false]
    by_cases h1 : mid < a
    · rw [cond_dtt h1]
    rw [cond_dff h1]
    by_cases h2 : mid > b
    · rw [cond_dtt h2]
    rw [cond_dff h2]
    have c1 := pv_16 _ _ _ (chain_good h a mid (by omega) (by omega) (by omega))
    have c2 := pv_16 _ _ _ (chain_good (Sp.chn (mid - a).toNat a h) mid b (by omega) (by omega) (by omega))
    rw [c1.1, c1.2, gd_tt]
    dsimp only
    rw [c2.1, c2.2, gd_tt]
    have e : Sp.chn (b - a).toNat a h = Sp.chn (b - mid).toNat mid (Sp.chn (mid - a).toNat a h) := by
      rw [show (b - a).toNat = (mid - a).toNat + (b - mid).toNat by omega, chn_app, show a + ((mid - a).toNat : Int) = mid by omega]
    simp only [beq_self_eq_true, cond_t, e]
end Go.Ev
namespace Go.Ev
open Go
set_option maxRecDepth 100000
set_option maxHeartbeats 4000000
set_option linter.unusedVariables false
noncomputable section

def sm_4 : Nat → Option Summ := fun f => bif Nat.beq f 10 then some s_10 else bif Nat.beq f 13 then some s_13 else none
def T_4_0 (p0 : List Int) (p1 : List Int) (p2 : Bool) (p3 : Bool) (p4 : Int) (p5 : Int) (p6 : Int) (p7 : List Int) (p8 : List Int) : St := St.mk [jk, jk, CV.ptr (0 : Nat) [], CV.ptr (1 : Nat) [], jk, CV.pure (Ty.slice (Ty.int IntKind.i64)) p0, CV.pure (Ty.slice (Ty.int IntKind.i64)) p1, CV.bool p2, CV.bool p3, CV.int IntKind.i64 p4, jk, jk, jk, jk, jk, jk, jk, jk, jk, jk, jk, jk, jk, jk, jk, jk, CV.int IntKind.i64 p5, CV.int IntKind.i64 p6, jk, jk, jk, jk, jk, jk, jk, jk, jk, jk, jk, jk, jk, jk, jk, jk, jk, jk, jk, jk, jk, jk, jk, jk, jk, jk, jk, jk, jk, jk, jk, jk, jk, jk, jk, jk, jk, jk, jk, jk, jk, jk, jk, jk, jk, jk, jk, jk, jk, jk, jk, jk, jk, jk, jk, jk, jk, jk, jk, jk, jk, jk, jk, jk, jk, jk, jk, jk, jk, jk, jk, jk, jk, jk, jk, jk, jk, jk, jk, jk, jk, jk, jk, jk, jk, jk, jk] [Blk.mem (CV.pure (Ty.arr (32 : Nat) (Ty.int IntKind.u8)) p7), Blk.mem (CV.pure (Ty.arr (32 : Nat) (Ty.int IntKind.u8)) p8)] (0 : Nat)
def X_4_0_0 : St := St.mk [jk, jk, jk, jk, CV.bool false, jk, jk, jk, jk, jk, jk, jk, jk, jk, jk, jk, jk, jk, jk, jk, jk, jk, jk, jk, jk, jk, jk, jk, jk, jk, jk, jk, jk, jk, jk, jk, jk, jk, jk, jk, jk, jk, jk, jk, jk, jk, jk, jk, jk, jk, jk, jk, jk, jk, jk, jk, jk, jk, jk, jk, jk, jk, jk, jk, jk, jk, jk, jk, jk, jk, jk, jk, jk, jk, jk, jk, jk, jk, jk, jk, jk, jk, jk, jk, jk, jk, jk, jk, jk, jk, jk, jk, jk, jk, jk, jk, jk, jk, jk, jk, jk, jk, jk, jk, jk, jk, jk, jk, jk, jk, jk, jk, jk, jk, jk] [] (0 : Nat)
def X_4_0_1 (p0 : List Int) (p2 : Bool) (p3 : Bool) (p4 : Int) (p7 : List Int) (p8 : List Int) : St := St.mk [jk, jk, CV.ptr (0 : Nat) [], CV.ptr (1 : Nat) [], jk, CV.pure (Ty.slice (Ty.int IntKind.i64)) p0, jk, CV.bool p2, CV.bool p3, CV.int IntKind.i64 p4, jk, jk, jk, jk, jk, jk, jk, jk, jk, jk, jk, jk, jk, jk, jk, jk, jk, jk, jk, jk, jk, jk, jk, jk, jk, jk, jk, jk, jk, jk, jk, jk, jk, jk, jk, jk, jk, jk, jk, jk, jk, jk, jk, jk, jk, jk, jk, jk, jk, jk, jk, jk, jk, jk, jk, jk, jk, jk, jk, jk, jk, jk, jk, jk, jk, jk, jk, jk, jk, jk, jk, jk, jk, jk, jk, jk, jk, jk, jk, jk, jk, jk, jk, jk, jk, jk, jk, jk, jk, jk, jk, jk, jk, jk, jk, jk, jk, jk, jk, jk, jk, jk, jk, jk, jk] [Blk.mem (CV.pure (Ty.arr (32 : Nat) (Ty.int IntKind.u8)) p7), Blk.mem (CV.pure (Ty.arr (32 : Nat) (Ty.int IntKind.u8)) p8)] (0 : Nat)
inductive Sp.E_4_0 where
  | e0
  | e1 (p0 : List Int) (p2 : Bool) (p3 : Bool) (p4 : Int) (p7 : List Int) (p8 : List Int)
def Sp.B_4_0 {R : Type} (r : Option Sp.E_4_0) (k0 : Option R) (k1 : (List Int) → (Bool) → (Bool) → (Int) → (List Int) → (List Int) → Option R) : Option R := match r with
  | none => none
  | some (.e0) => k0
  | some (.e1 p0 p2 p3 p4 p7 p8) => k1 p0 p2 p3 p4 p7 p8
def Sp.L_4_0 : Nat → (List Int) → (List Int) → (Bool) → (Bool) → (Int) → (Int) → (Int) → (List Int) → (List Int) → Option Sp.E_4_0
  | 0, _, _, _, _, _, _, _, _, _ => none
  | m + 1, p0, p1, p2, p3, p4, p5, p6, p7, p8 => bif decide (p6 < p5) then gd (inB p6 (List.length p0)) (bif decide (List.getD p0 (Int.toNat p6) (0 : Int) < (0 : Int)) then some (Sp.E_4_0.e0) else gd (inB p6 (List.length p0)) (bif decide (List.getD p0 (Int.toNat p6) (0 : Int) > (15 : Int)) then some (Sp.E_4_0.e0) else bif p2 then bif p3 then bif decide (p6 < (64 : Int)) then gd (inB p6 (List.length p0)) (Sp.L_4_0 m p0 p1 true true (IntKind.wrap IntKind.i64 (p4 + IntKind.wrap IntKind.i64 ((15 : Int) - List.getD p0 (Int.toNat p6) (0 : Int)))) p5 (IntKind.wrap IntKind.i64 (p6 + (1 : Int))) p7 p8) else Sp.L_4_0 m p0 p1 true true p4 p5 (IntKind.wrap IntKind.i64 (p6 + (1 : Int))) p7 p8 else gd (inB p6 (List.length p0)) (gd (inB p6 (List.length p1)) (bif decide (p6 < (64 : Int)) then gd (inB p6 (List.length p0)) (Sp.L_4_0 m p0 p1 true (decide (List.getD p0 (Int.toNat p6) (0 : Int) > List.getD p1 (Int.toNat p6) (0 : Int))) (IntKind.wrap IntKind.i64 (p4 + IntKind.wrap IntKind.i64 ((15 : Int) - List.getD p0 (Int.toNat p6) (0 : Int)))) p5 (IntKind.wrap IntKind.i64 (p6 + (1 : Int))) p7 p8) else Sp.L_4_0 m p0 p1 true (decide (List.getD p0 (Int.toNat p6) (0 : Int) > List.getD p1 (Int.toNat p6) (0 : Int))) p4 p5 (IntKind.wrap IntKind.i64 (p6 + (1 : Int))) p7 p8)) else gd (inB p6 (List.length p0)) (gd (inB p6 (List.length p1)) (bif p3 then bif decide (p6 < (64 : Int)) then gd (inB p6 (List.length p0)) (Sp.L_4_0 m p0 p1 (decide (List.getD p0 (Int.toNat p6) (0 : Int) < List.getD p1 (Int.toNat p6) (0 : Int))) true (IntKind.wrap IntKind.i64 (p4 + IntKind.wrap IntKind.i64 ((15 : Int) - List.getD p0 (Int.toNat p6) (0 : Int)))) p5 (IntKind.wrap IntKind.i64 (p6 + (1 : Int))) p7 p8) else Sp.L_4_0 m p0 p1 (decide (List.getD p0 (Int.toNat p6) (0 : Int) < List.getD p1 (Int.toNat p6) (0 : Int))) true p4 p5 (IntKind.wrap IntKind.i64 (p6 + (1 : Int))) p7 p8 else gd (inB p6 (List.length p0)) (gd (inB p6 (List.length p1)) (bif decide (p6 < (64 : Int)) then gd (inB p6 (List.length p0)) (Sp.L_4_0 m p0 p1 (decide (List.getD p0 (Int.toNat p6) (0 : Int) < List.getD p1 (Int.toNat p6) (0 : Int))) (decide (List.getD p0 (Int.toNat p6) (0 : Int) > List.getD p1 (Int.toNat p6) (0 : Int))) (IntKind.wrap IntKind.i64 (p4 + IntKind.wrap IntKind.i64 ((15 : Int) - List.getD p0 (Int.toNat p6) (0 : Int)))) p5 (IntKind.wrap IntKind.i64 (p6 + (1 : Int))) p7 p8) else Sp.L_4_0 m p0 p1 (decide (List.getD p0 (Int.toNat p6) (0 : Int) < List.getD p1 (Int.toNat p6) (0 : Int))) (decide (List.getD p0 (Int.toNat p6) (0 : Int) > List.getD p1 (Int.toNat p6) (0 : Int))) p4 p5 (IntKind.wrap IntKind.i64 (p6 + (1 : Int))) p7 p8)))))) else some (Sp.E_4_0.e1 p0 p2 p3 p4 p7 p8)
def G_4_0 {R : Type} (p0 : List Int) (p1 : List Int) (p2 : Bool) (p3 : Bool) (p4 : Int) (p5 : Int) (p6 : Int) (p7 : List Int) (p8 : List Int) (k : Ex → St → Option R) : Option R := Sp.B_4_0 (Sp.L_4_0 FU p0 p1 p2 p3 p4 p5 p6 p7 p8) (k Ex.ret (X_4_0_0)) (fun p0 p2 p3 p4 p7 p8 => k (Ex.exit (0 : Nat)) (X_4_0_1 p0 p2 p3 p4 p7 p8))
def o_4_0 {R : Type} (G : (List Int) → (List Int) → (Bool) → (Bool) → (Int) → (Int) → (Int) → (List Int) → (List Int) → (Ex → St → Option R) → Option R) : St → (Ex → St → Option R) → Option R := fun T k => match T.sl.getD 2 .junk, T.sl.getD 3 .junk, T.sl.getD 5 .junk, T.sl.getD 6 .junk, T.sl.getD 7 .junk, T.sl.getD 8 .junk, T.sl.getD 9 .junk, T.sl.getD 26 .junk, T.sl.getD 27 .junk, T.hp with
  | CV.ptr (0 : Nat) [], CV.ptr (1 : Nat) [], CV.pure (Ty.slice (Ty.int IntKind.i64)) p0, CV.pure (Ty.slice (Ty.int IntKind.i64)) p1, CV.bool p2, CV.bool p3, CV.int IntKind.i64 p4, CV.int IntKind.i64 p5, CV.int IntKind.i64 p6, ((Blk.mem (CV.pure (Ty.arr (32 : Nat) (Ty.int IntKind.u8)) p7)) :: (Blk.mem (CV.pure (Ty.arr (32 : Nat) (Ty.int IntKind.u8)) p8)) :: []) => gd (shapeOK T 115 [2, 3, 5, 6, 7, 8, 9, 26, 27] (0 : Nat)) (G p0 p1 p2 p3 p4 p5 p6 p7 p8 k)
  | _, _, _, _, _, _, _, _, _, _ => none
theorem o_4_0_inv {R : Type} {G : (List Int) → (List Int) → (Bool) → (Bool) → (Int) → (Int) → (Int) → (List Int) → (List Int) → (Ex → St → Option R) → Option R} {T : St} {k : Ex → St → Option R} {r : R} (h : o_4_0 G T k = some r) : ∃ p0 p1 p2 p3 p4 p5 p6 p7 p8, T = T_4_0 p0 p1 p2 p3 p4 p5 p6 p7 p8 ∧ G p0 p1 p2 p3 p4 p5 p6 p7 p8 k = some r := by
  unfold o_4_0 at h
  split at h
  · obtain ⟨hs, h'⟩ := gd_some h
    refine ⟨_, _, _, _, _, _, _, _, _, (st_of (asg := [(2, _), (3, _), (5, _), (6, _), (7, _), (8, _), (9, _), (26, _), (27, _)]) hs ⟨by assumption, by assumption, by assumption, by assumption, by assumption, by assumption, by assumption, by assumption, by assumption, trivial⟩ (by assumption)).trans ?_, h'⟩
    kernel_rfl
  · cases h
def O_4_4_0 {R : Type} : St → (Ex → St → Option R) → Option R := fun T k => o_4_0 G_4_0 T k
theorem body_4_0 {R : Type} (K0 : St → Option R) (K1 : Ex → St → Option R) (p0 : List Int) (p1 : List Int) (p2 : Bool) (p3 : Bool) (p4 : Int) (p5 : Int) (p6 : Int) (p7 : List Int) (p8 : List Int) : evLB (evCodeL sm_4 FU (ovr noO (evFn sm_4 fns FU 0)) .nil ir4_b0) (St.norm ir4_v0) (T_4_0 p0 p1 p2 p3 p4 p5 p6 p7 p8) K0 K1 =
  bif decide (p6 < p5) then gd (inB p6 (List.length p0)) (bif decide (List.getD p0 (Int.toNat p6) (0 : Int) < (0 : Int)) then K1 Ex.ret X_4_0_0 else gd (inB p6 (List.length p0)) (bif decide (List.getD p0 (Int.toNat p6) (0 : Int) > (15 : Int)) then K1 Ex.ret X_4_0_0 else bif p2 then bif p3 then bif decide (p6 < (64 : Int)) then gd (inB p6 (List.length p0)) (K0 (T_4_0 p0 p1 true true (IntKind.wrap IntKind.i64 (p4 + IntKind.wrap IntKind.i64 ((15 : Int) - List.getD p0 (Int.toNat p6) (0 : Int)))) p5 (IntKind.wrap IntKind.i64 (p6 + (1 : Int))) p7 p8)) else K0 (T_4_0 p0 p1 true true p4 p5 (IntKind.wrap IntKind.i64 (p6 + (1 : Int))) p7 p8) else gd (inB p6 (List.length p0)) (gd (inB p6 (List.length p1)) (bif decide (p6 < (64 : Int)) then gd (inB p6 (List.length p0)) (K0 (T_4_0 p0 p1 true (decide (List.getD p0 (Int.toNat p6) (0 : Int) > List.getD p1 (Int.toNat p6) (0 : Int))) (IntKind.wrap IntKind.i64 (p4 + IntKind.wrap IntKind.i64 ((15 : Int) - List.getD p0 (Int.toNat p6) (0 : Int)))) p5 (IntKind.wrap IntKind.i64 (p6 + (1 : Int))) p7 p8)) else K0 (T_4_0 p0 p1 true (decide (List.getD p0 (Int.toNat p6) (0 : Int) > List.getD p1 (Int.toNat p6) (0 : Int))) p4 p5 (IntKind.wrap IntKind.i64 (p6 + (1 : Int))) p7 p8))) else gd (inB p6 (List.length p0)) (gd (inB p6 (List.length p1)) (bif p3 then bif decide (p6 < (64 : Int)) then gd (inB p6 (List.length p0)) (K0 (T_4_0 p0 p1 (decide (List.getD p0 (Int.toNat p6) (0 : Int) < List.getD p1 (Int.toNat p6) (0 : Int))) true (IntKind.wrap IntKind.i64 (p4 + IntKind.wrap IntKind.i64 ((15 : Int) - List.getD p0 (Int.toNat p6) (0 : Int)))) p5 (IntKind.wrap IntKind.i64 (p6 + (1 : Int))) p7 p8)) else K0 (T_4_0 p0 p1 (decide (List.getD p0 (Int.toNat p6) (0 : Int) < List.getD p1 (Int.toNat p6) (0 : Int))) true p4 p5 (IntKind.wrap IntKind.i64 (p6 + (1 : Int))) p7 p8) else gd (inB p6 (List.length p0)) (gd (inB p6 (List.length p1)) (bif decide (p6 < (64 : Int)) then gd (inB p6 (List.length p0)) (K0 (T_4_0 p0 p1 (decide (List.getD p0 (Int.toNat p6) (0 : Int) < List.getD p1 (Int.toNat p6) (0 : Int))) (decide (List.getD p0 (Int.toNat p6) (0 : Int) > List.getD p1 (Int.toNat p6) (0 : Int))) (IntKind.wrap IntKind.i64 (p4 + IntKind.wrap IntKind.i64 ((15 : Int) - List.getD p0 (Int.toNat p6) (0 : Int)))) p5 (IntKind.wrap IntKind.i64 (p6 + (1 : Int))) p7 p8)) else K0 (T_4_0 p0 p1 (decide (List.getD p0 (Int.toNat p6) (0 : Int) < List.getD p1 (Int.toNat p6) (0 : Int))) (decide (List.getD p0 (Int.toNat p6) (0 : Int) > List.getD p1 (Int.toNat p6) (0 : Int))) p4 p5 (IntKind.wrap IntKind.i64 (p6 + (1 : Int))) p7 p8))))))) else K1 (Ex.exit (0 : Nat)) (X_4_0_1 p0 p2 p3 p4 p7 p8) := by kernel_rfl
theorem Bgd_4_0 {R : Type} {c : Bool} {x : Option R} {y : Option Sp.E_4_0} {k0 : Option R} {k1 : (List Int) → (Bool) → (Bool) → (Int) → (List Int) → (List Int) → Option R} (h : x = Sp.B_4_0 y k0 k1) : gd c x = Sp.B_4_0 (gd c y) k0 k1 := by cases c; rfl; exact h
theorem Bcond_4_0 {R : Type} {c : Bool} {x x' : Option R} {y y' : Option Sp.E_4_0} {k0 : Option R} {k1 : (List Int) → (Bool) → (Bool) → (Int) → (List Int) → (List Int) → Option R} (h : x = Sp.B_4_0 y k0 k1) (h' : x' = Sp.B_4_0 y' k0 k1) : (bif c then x else x') = Sp.B_4_0 (bif c then y else y') k0 k1 := by cases c; exact h'; exact h
theorem loop_4_0 {R : Type} (k : Ex → St → Option R) : ∀ (m : Nat) (p0 : List Int) (p1 : List Int) (p2 : Bool) (p3 : Bool) (p4 : Int) (p5 : Int) (p6 : Int) (p7 : List Int) (p8 : List Int), evLoopN (evCodeL sm_4 FU (ovr noO (evFn sm_4 fns FU 0)) .nil ir4_b0) (St.norm ir4_v0) m (T_4_0 p0 p1 p2 p3 p4 p5 p6 p7 p8) k = Sp.B_4_0 (Sp.L_4_0 m p0 p1 p2 p3 p4 p5 p6 p7 p8) (k Ex.ret (X_4_0_0)) (fun p0 p2 p3 p4 p7 p8 => k (Ex.exit (0 : Nat)) (X_4_0_1 p0 p2 p3 p4 p7 p8))
  | 0, _, _, _, _, _, _, _, _, _ => rfl
  | m + 1, p0, p1, p2, p3, p4, p5, p6, p7, p8 => by
    rw [evLoopN_succ, body_4_0, Sp.L_4_0]
    repeat' first | apply Bgd_4_0 | apply Bcond_4_0 | exact loop_4_0 k m _ _ _ _ _ _ _ _ _ | rfl
theorem ok_4_0 {R : Type} (T : St) (k : Ex → St → Option R) (r : R) (h0 : o_4_0 G_4_0 T k = some r) : evLoopN (evCode sm_4 FU (evFn sm_4 fns FU 0) ir4_b0) (St.norm ir4_v0) FU T k = some r := by
  obtain ⟨p0, p1, p2, p3, p4, p5, p6, p7, p8, rfl, h⟩ := o_4_0_inv h0
  refine evLoopN_L (t := .nil) noO_ok trivial _ _ _ _ ?_
  rw [loop_4_0]
  exact h
theorem OK_4_4_0 {R : Type} (T : St) (k : Ex → St → Option R) (r : R) (h : O_4_4_0 T k = some r) : evLoopN (evCode sm_4 FU (evFn sm_4 fns FU 0) ir4_b0) (St.norm ir4_v0) FU T k = some r := ok_4_0 T k r h
def F_4 (a0 : (List Int)) (a1 : (List Int)) : Option (Bool) :=
  gd Sp.p_10 (bif !Prod.fst Sp.v_10 then some false else gd (Sp.p_13 a0) (gd (Sp.p_13 a1) (bif (↑(List.length (Prod.fst (Sp.v_13 a0))) : Int) != (67 : Int) then some false else bif (↑(List.length (Prod.fst (Sp.v_13 a1))) : Int) != (67 : Int) then some false else Sp.B_4_0 (Sp.L_4_0 (4611686018427387904 : Nat) (Prod.fst (Sp.v_13 a0)) (Prod.fst (Sp.v_13 a1)) false false (0 : Int) (↑(List.length (Prod.fst (Sp.v_13 a0))) : Int) (0 : Int) a0 a1) (some false) fun (y6 : List Int) (y7 y8 : Bool) (y9 : Int) (y10 y11 : List Int) => gd (inB (64 : Int) (List.length y6)) (gd (inB (65 : Int) (List.length y6)) (gd (inB (66 : Int) (List.length y6)) (bif y9 == IntKind.wrap IntKind.i64 (IntKind.wrap IntKind.i64 (IntKind.wrap IntKind.i64 ((256 : Int) * List.getD y6 (64 : Nat) (0 : Int)) + IntKind.wrap IntKind.i64 ((16 : Int) * List.getD y6 (65 : Nat) (0 : Int))) + List.getD y6 (66 : Nat) (0 : Int)) then bif Ty.beq (Ty.arr (32 : Nat) (Ty.int IntKind.u8)) y10 y11 then bif !y7 then bif !y8 then some true else bif !Ty.beq (Ty.arr (32 : Nat) (Ty.int IntKind.u8)) y10 y11 then bif y7 then some y8 else some false else some false else bif !Ty.beq (Ty.arr (32 : Nat) (Ty.int IntKind.u8)) y10 y11 then bif y7 then some y8 else some false else some false else bif !Ty.beq (Ty.arr (32 : Nat) (Ty.int IntKind.u8)) y10 y11 then bif y7 then some y8 else some false else some false else some false))))))
theorem fn_4 (a0 : (List Int)) (a1 : (List Int)) : evFnL sm_4 FU (ovr noO (evFn sm_4 fns FU 0)) (ir4_t O_4_4_0) ir4 (ofH [(.arr 32 (.int .u8)), (.arr 32 (.int .u8))] (a0, a1, ())) [] bk = F_4 a0 a1 := by kernel_rfl
theorem run_4 (a0 : (List Int)) (a1 : (List Int)) {b : Bool} (h : F_4 a0 a1 = some b) : evFn sm_4 fns FU 1 4 (ofH [(.arr 32 (.int .u8)), (.arr 32 (.int .u8))] (a0, a1, ())) [] bk = some b :=
  evFnL_sound (fn := ir4) (t := (ir4_t O_4_4_0)) (o := noO) rfl noO_ok (ir4_tok (fun T k r => OK_4_4_0 T k r)) ((fn_4 _ _).trans h)
end
end Go.Ev
set_option linter.unusedSimpArgs false
set_option linter.unusedVariables false
namespace Go.Ev
open Go
theorem dig_get (h : List Int) (n j : Nat) (hj : j < n) : (Sp.digs h n).getD j 0 = Sp.dig h j := by
  simp [Sp.digs, List.getD_eq_getElem?_getD, hj]
theorem digL_get (h : List Int) (j : Nat) (hj : j < 64) : (Sp.digL h).getD j 0 = Sp.dig h j := by
  unfold Sp.digL
  rw [List.getD_eq_getElem?_getD, List.getElem?_append_left (by rw [digs_len]; exact hj), ← List.getD_eq_getElem?_getD, dig_get h 64 j hj]
theorem digL_top (h : List Int) : (Sp.digL h).getD 64 0 = Sp.dsum h 64 / 256 ∧ (Sp.digL h).getD 65 0 = Sp.dsum h 64 / 16 % 16 ∧ (Sp.digL h).getD 66 0 = Sp.dsum h 64 % 16 := by
  unfold Sp.digL
  refine ⟨?_, ?_, ?_⟩ <;> (rw [List.getD_eq_getElem?_getD, List.getElem?_append_right (by rw [digs_len]; omega), digs_len]; rfl)
theorem digL_b {h : List Int} (hb : bytes h) (j : Nat) (hj : j < 67) : 0 ≤ (Sp.digL h).getD j 0 ∧ (Sp.digL h).getD j 0 ≤ 15 := by
  have b0 := dsum_b hb 64
  have t := digL_top h
  rcases Nat.lt_or_ge j 64 with h1 | h1
  · rw [digL_get h j h1]; exact dig_b hb j
  · rcases (show j = 64 ∨ j = 65 ∨ j = 66 by omega) with rfl | rfl | rfl
    · rw [t.1]; omega
    · rw [t.2.1]; omega
    · rw [t.2.2]; omega
/-- Something among the first n. -/
def anyB (p : Nat → Bool) : Nat → Bool
  | 0 => false
  | n + 1 => anyB p n || p n
theorem anyB_iff {p : Nat → Bool} : ∀ {n : Nat}, anyB p n = true ↔ ∃ i, i < n ∧ p i = true
  | 0 => by simp [anyB]
  | n + 1 => by
    rw [anyB, Bool.or_eq_true, anyB_iff]
    constructor
    · rintro (⟨i, h1, h2⟩ | h)
      · exact ⟨i, by omega, h2⟩
      · exact ⟨n, by omega, h⟩
    · rintro ⟨i, h1, h2⟩
      rcases Nat.lt_or_ge i n with h | h
      · exact .inl ⟨i, h, h2⟩
      · have : i = n := by omega
        subst this; exact .inr h2
/-- The law's sum. -/
def sumB (a : List Int) : Nat → Int
  | 0 => 0
  | n + 1 => if n < 64 then sumB a n + (15 - a.getD n 0) else sumB a n
theorem sumB_b {a : List Int} (ha : ∀ j, j < 67 → 0 ≤ a.getD j 0 ∧ a.getD j 0 ≤ 15) : ∀ n, n ≤ 67 → 0 ≤ sumB a n ∧ sumB a n ≤ 15 * n
  | 0, _ => by simp [sumB]
  | n + 1, hn => by
    have h1 := sumB_b ha n (by omega)
    have h2 := ha n (by omega)
    simp only [sumB]
    split <;> omega
theorem d_loop (a b : List Int) (hal : a.length = 67) (hbl : b.length = 67) (ha : ∀ j, j < 67 → 0 ≤ a.getD j 0 ∧ a.getD j 0 ≤ 15) (g h : List Int) : ∀ (d m j : Nat), j + d = 67 → d < m →
    Sp.L_4_0 m a b (anyB (fun i => decide (a.getD i 0 < b.getD i 0)) j) (anyB (fun i => decide (a.getD i 0 > b.getD i 0)) j) (sumB a j) 67 (j : Nat) g h = some (.e1 a (anyB (fun i => decide (a.getD i 0 < b.getD i 0)) 67) (anyB (fun i => decide (a.getD i 0 > b.getD i 0)) 67) (sumB a 67) g h)
  | 0, m + 1, j, hj, _ => by
    rw [Sp.L_4_0, cond_dff (by omega), show j = 67 by omega]
  | d + 1, m + 1, j, hj, hm => by
    have h1 := ha j (by omega)
    have hs := sumB_b ha j (by omega)
    have ih := d_loop a b hal hbl ha g h d m (j + 1) (by omega) (by omega)
    have e1 : anyB (fun i => decide (a.getD i 0 < b.getD i 0)) (j + 1) = (anyB (fun i => decide (a.getD i 0 < b.getD i 0)) j || decide (a.getD j 0 < b.getD j 0)) := rfl
    have e2 : anyB (fun i => decide (a.getD i 0 > b.getD i 0)) (j + 1) = (anyB (fun i => decide (a.getD i 0 > b.getD i 0)) j || decide (a.getD j 0 > b.getD j 0)) := rfl
    rw [e1, e2] at ih
    rw [Sp.L_4_0, cond_dtt (by omega)]
    simp only [Int.toNat_natCast, gd_inB (i := (j : Int)) (n := a.length) (by omega) (by omega), gd_inB (i := (j : Int)) (n := b.length) (by omega) (by omega)]
    rw [cond_dff (by omega), cond_dff (by omega), wi64 (n := (j : Int) + 1) (by omega) (by omega), wi64 (n := 15 - a.getD j 0) (by omega) (by omega), wi64 (n := sumB a j + (15 - a.getD j 0)) (by omega) (by omega)]
    have es : sumB a (j + 1) = if j < 64 then sumB a j + (15 - a.getD j 0) else sumB a j := rfl
    cases hx : anyB (fun i => decide (a.getD i 0 < b.getD i 0)) j <;> cases hy : anyB (fun i => decide (a.getD i 0 > b.getD i 0)) j <;> rw [hx, hy] at ih <;> simp only [Bool.true_or, Bool.false_or] at ih <;> simp only [cond_t, cond_f] <;>
      (by_cases h64 : j < 64
       · rw [es, if_pos h64] at ih; rw [cond_dtt (by omega)]; exact ih
       · rw [es, if_neg h64] at ih; rw [cond_dff (by omega)]; exact ih)
end Go.Ev
