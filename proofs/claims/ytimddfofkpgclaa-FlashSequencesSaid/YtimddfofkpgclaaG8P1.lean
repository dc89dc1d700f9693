/- Helpers: functions of the program as Lean functions, and what they compute. No condition. -/
import Derived.Test.YtimddfofkpgclaaEvPart2
import Derived.Test.YtimddfofkpgclaaG8P0
import Derived.Test.YtimddfofkpgclaaEvPart3
set_option maxRecDepth 10000
set_option linter.unusedVariables false
set_option linter.unusedSimpArgs false
namespace Go.Ev
open Go
set_option maxRecDepth 100000
set_option maxHeartbeats 4000000
set_option linter.unusedVariables false
noncomputable section

def sm_26 : Nat → Option Summ := fun f => bif Nat.beq f 16 then some s_16 else none
def T_26_49_0_0 (p0 : List Int) (p1 : Int) (p2 : Int) (p3 : List Int × List Int × Int × PUnit) : St := St.mk [CV.pure (Ty.slice (Ty.int IntKind.u32)) p0, CV.clo (44 : Nat) (CV.pure Ty.unit PUnit.unit), jk, jk, jk, jk, jk, CV.int IntKind.i64 p1, CV.int IntKind.i64 p2, jk, jk, jk, jk, jk, jk, jk, jk, jk, jk] [Blk.mem (CV.pure (Ty.pair (Ty.slice (Ty.int IntKind.u32)) (Ty.pair (Ty.slice (Ty.int IntKind.i64)) (Ty.pair (Ty.int IntKind.i64) Ty.unit))) p3)] (1 : Nat)
def X_26_49_0_0_0 (p2 : Int) (p3 : List Int × List Int × Int × PUnit) : St := St.mk [jk, jk, jk, jk, CV.int IntKind.i64 p2, jk, jk, jk, jk, jk, jk, jk, jk, jk, jk, jk, jk, jk, jk] [Blk.mem (CV.pure (Ty.pair (Ty.slice (Ty.int IntKind.u32)) (Ty.pair (Ty.slice (Ty.int IntKind.i64)) (Ty.pair (Ty.int IntKind.i64) Ty.unit))) p3)] (1 : Nat)
def X_26_49_0_0_1 (p3 : List Int × List Int × Int × PUnit) : St := St.mk [jk, jk, jk, jk, jk, jk, jk, jk, jk, jk, jk, jk, jk, jk, jk, jk, jk, jk, jk] [Blk.mem (CV.pure (Ty.pair (Ty.slice (Ty.int IntKind.u32)) (Ty.pair (Ty.slice (Ty.int IntKind.i64)) (Ty.pair (Ty.int IntKind.i64) Ty.unit))) p3)] (1 : Nat)
inductive Sp.E_26_49_0_0 where
  | e0 (p2 : Int) (p3 : List Int × List Int × Int × PUnit)
  | e1 (p3 : List Int × List Int × Int × PUnit)
def Sp.B_26_49_0_0 {R : Type} (r : Option Sp.E_26_49_0_0) (k0 : (Int) → (List Int × List Int × Int × PUnit) → Option R) (k1 : (List Int × List Int × Int × PUnit) → Option R) : Option R := match r with
  | none => none
  | some (.e0 p2 p3) => k0 p2 p3
  | some (.e1 p3) => k1 p3
def Sp.L_26_49_0_0 : Nat → (List Int) → (Int) → (Int) → (List Int × List Int × Int × PUnit) → Option Sp.E_26_49_0_0
  | 0, _, _, _, _ => none
  | m + 1, p0, p1, p2, p3 => bif decide (p2 < p1) then gd (inB p2 (List.length p0)) (bif List.getD p0 (Int.toNat p2) (0 : Int) != (4294967295 : Int) then some (Sp.E_26_49_0_0.e0 p2 p3) else Sp.L_26_49_0_0 m p0 p1 (IntKind.wrap IntKind.i64 (p2 + (1 : Int))) p3) else some (Sp.E_26_49_0_0.e1 p3)
def G_26_49_0_0 {R : Type} (p0 : List Int) (p1 : Int) (p2 : Int) (p3 : List Int × List Int × Int × PUnit) (k : Ex → St → Option R) : Option R := Sp.B_26_49_0_0 (Sp.L_26_49_0_0 FU p0 p1 p2 p3) (fun p2 p3 => k Ex.ret (X_26_49_0_0_0 p2 p3)) (fun p3 => k (Ex.exit (0 : Nat)) (X_26_49_0_0_1 p3))
def o_26_49_0_0 {R : Type} (G : (List Int) → (Int) → (Int) → (List Int × List Int × Int × PUnit) → (Ex → St → Option R) → Option R) : St → (Ex → St → Option R) → Option R := fun T k => match T.sl.getD 0 .junk, T.sl.getD 1 .junk, T.sl.getD 7 .junk, T.sl.getD 8 .junk, T.hp with
  | CV.pure (Ty.slice (Ty.int IntKind.u32)) p0, CV.clo (44 : Nat) (CV.pure Ty.unit PUnit.unit), CV.int IntKind.i64 p1, CV.int IntKind.i64 p2, ((Blk.mem (CV.pure (Ty.pair (Ty.slice (Ty.int IntKind.u32)) (Ty.pair (Ty.slice (Ty.int IntKind.i64)) (Ty.pair (Ty.int IntKind.i64) Ty.unit))) p3)) :: []) => gd (shapeOK T 19 [0, 1, 7, 8] (1 : Nat)) (G p0 p1 p2 p3 k)
  | _, _, _, _, _ => none
theorem o_26_49_0_0_inv {R : Type} {G : (List Int) → (Int) → (Int) → (List Int × List Int × Int × PUnit) → (Ex → St → Option R) → Option R} {T : St} {k : Ex → St → Option R} {r : R} (h : o_26_49_0_0 G T k = some r) : ∃ p0 p1 p2 p3, T = T_26_49_0_0 p0 p1 p2 p3 ∧ G p0 p1 p2 p3 k = some r := by
  unfold o_26_49_0_0 at h
  split at h
  · obtain ⟨hs, h'⟩ := gd_some h
    refine ⟨_, _, _, _, (st_of (asg := [(0, _), (1, _), (7, _), (8, _)]) hs ⟨by assumption, by assumption, by assumption, by assumption, trivial⟩ (by assumption)).trans ?_, h'⟩
    kernel_rfl
  · cases h
def O_26_49_0 {R : Type} : St → (Ex → St → Option R) → Option R := fun T k => o_26_49_0_0 G_26_49_0_0 T k
def g_26_49 {R : Type} : List CV → List Blk → (CV → List Blk → Option R) → Option R := evFnL sm_26 FU (ovr noO (evFn sm_26 fns FU 2)) (ir49_t O_26_49_0) ir49
def g_26_42 {R : Type} : List CV → List Blk → (CV → List Blk → Option R) → Option R := evFnL sm_26 FU (ovr (fun f' => bif Nat.beq f' 49 then some (g_26_49) else none) (evFn sm_26 fns FU 3)) .nil ir42
theorem body_26_49_0_0 {R : Type} (K0 : St → Option R) (K1 : Ex → St → Option R) (p0 : List Int) (p1 : Int) (p2 : Int) (p3 : List Int × List Int × Int × PUnit) : evLB (evCodeL sm_26 FU (ovr noO (evFn sm_26 fns FU 2)) .nil ir49_b0) (St.norm ir49_v0) (T_26_49_0_0 p0 p1 p2 p3) K0 K1 =
  bif decide (p2 < p1) then gd (inB p2 (List.length p0)) (bif List.getD p0 (Int.toNat p2) (0 : Int) != (4294967295 : Int) then K1 Ex.ret (X_26_49_0_0_0 p2 p3) else K0 (T_26_49_0_0 p0 p1 (IntKind.wrap IntKind.i64 (p2 + (1 : Int))) p3)) else K1 (Ex.exit (0 : Nat)) (X_26_49_0_0_1 p3) := by kernel_rfl
theorem Bgd_26_49_0_0 {R : Type} {c : Bool} {x : Option R} {y : Option Sp.E_26_49_0_0} {k0 : (Int) → (List Int × List Int × Int × PUnit) → Option R} {k1 : (List Int × List Int × Int × PUnit) → Option R} (h : x = Sp.B_26_49_0_0 y k0 k1) : gd c x = Sp.B_26_49_0_0 (gd c y) k0 k1 := by cases c; rfl; exact h
theorem Bcond_26_49_0_0 {R : Type} {c : Bool} {x x' : Option R} {y y' : Option Sp.E_26_49_0_0} {k0 : (Int) → (List Int × List Int × Int × PUnit) → Option R} {k1 : (List Int × List Int × Int × PUnit) → Option R} (h : x = Sp.B_26_49_0_0 y k0 k1) (h' : x' = Sp.B_26_49_0_0 y' k0 k1) : (bif c then x else x') = Sp.B_26_49_0_0 (bif c then y else y') k0 k1 := by cases c; exact h'; exact h
theorem loop_26_49_0_0 {R : Type} (k : Ex → St → Option R) : ∀ (m : Nat) (p0 : List Int) (p1 : Int) (p2 : Int) (p3 : List Int × List Int × Int × PUnit), evLoopN (evCodeL sm_26 FU (ovr noO (evFn sm_26 fns FU 2)) .nil ir49_b0) (St.norm ir49_v0) m (T_26_49_0_0 p0 p1 p2 p3) k = Sp.B_26_49_0_0 (Sp.L_26_49_0_0 m p0 p1 p2 p3) (fun p2 p3 => k Ex.ret (X_26_49_0_0_0 p2 p3)) (fun p3 => k (Ex.exit (0 : Nat)) (X_26_49_0_0_1 p3))
  | 0, _, _, _, _ => rfl
  | m + 1, p0, p1, p2, p3 => by
    rw [evLoopN_succ, body_26_49_0_0, Sp.L_26_49_0_0]
    repeat' first | apply Bgd_26_49_0_0 | apply Bcond_26_49_0_0 | exact loop_26_49_0_0 k m _ _ _ _ | rfl
theorem ok_26_49_0_0 {R : Type} (T : St) (k : Ex → St → Option R) (r : R) (h0 : o_26_49_0_0 G_26_49_0_0 T k = some r) : evLoopN (evCode sm_26 FU (evFn sm_26 fns FU 2) ir49_b0) (St.norm ir49_v0) FU T k = some r := by
  obtain ⟨p0, p1, p2, p3, rfl, h⟩ := o_26_49_0_0_inv h0
  refine evLoopN_L (t := .nil) noO_ok trivial _ _ _ _ ?_
  rw [loop_26_49_0_0]
  exact h
theorem OK_26_49_0 {R : Type} (T : St) (k : Ex → St → Option R) (r : R) (h : O_26_49_0 T k = some r) : evLoopN (evCode sm_26 FU (evFn sm_26 fns FU 2) ir49_b0) (St.norm ir49_v0) FU T k = some r := ok_26_49_0_0 T k r h
theorem g_26_49_ok {R : Type} (args : List CV) (hp : List Blk) (k : CV → List Blk → Option R) (r : R) (h : g_26_49 args hp k = some r) : evFn sm_26 fns FU 3 49 args hp k = some r :=
  evFnL_sound (fn := ir49) (t := (ir49_t O_26_49_0)) (o := noO) rfl noO_ok (ir49_tok (fun T k r => OK_26_49_0 T k r)) h
theorem ov_26_42_ok {R : Type} : OvrOK (R := R) (fun f' => bif Nat.beq f' 49 then some (g_26_49) else none) (evFn sm_26 fns FU 3) := by
  intro f' g h args hp k r hg
  dsimp only at h
  by_cases h49 : f' = 49
  · subst h49
    injection h with h
    subst h
    exact evFn_le 0 (g_26_49_ok _ _ _ _ hg)
  rw [nbeq_ne h49, cond_false] at h
  cases h
theorem g_26_42_ok {R : Type} (args : List CV) (hp : List Blk) (k : CV → List Blk → Option R) (r : R) (h : g_26_42 args hp k = some r) : evFn sm_26 fns FU 4 42 args hp k = some r :=
  evFnL_sound (fn := ir42) (t := .nil) (o := (fun f' => bif Nat.beq f' 49 then some (g_26_49) else none)) rfl ov_26_42_ok trivial h
theorem ov_26_26_ok {R : Type} : OvrOK (R := R) (fun f' => bif Nat.beq f' 42 then some (g_26_42) else none) (evFn sm_26 fns FU 4) := by
  intro f' g h args hp k r hg
  dsimp only at h
  by_cases h42 : f' = 42
  · subst h42
    injection h with h
    subst h
    exact evFn_le 0 (g_26_42_ok _ _ _ _ hg)
  rw [nbeq_ne h42, cond_false] at h
  cases h
def F_26 (a0 : ((List Int) × ((List Int) × (Int × Unit)))) (a1 : Int) : Option (Bool × Int × Unit) :=
  gd (Sp.p_16 a0) (bif !Prod.fst (Sp.v_16 a0) then some (false, (1 : Int), PUnit.unit) else bif decide (a1 < (0 : Int)) then some (false, (2 : Int), PUnit.unit) else bif decide (a1 ≥ (↑(List.length (Prod.fst (Prod.snd a0))) : Int)) then some (false, (2 : Int), PUnit.unit) else gd (sl3 (IntKind.wrap IntKind.i64 (a1 * (64 : Int))) (IntKind.wrap IntKind.i64 (IntKind.wrap IntKind.i64 (a1 + (1 : Int)) * (64 : Int))) (↑(List.length (Prod.fst a0)) : Int)) (Sp.B_26_49_0_0 (Sp.L_26_49_0_0 (4611686018427387904 : Nat) (List.take (Int.toNat (IntKind.wrap IntKind.i64 (IntKind.wrap IntKind.i64 (a1 + (1 : Int)) * (64 : Int))) - Int.toNat (IntKind.wrap IntKind.i64 (a1 * (64 : Int)))) (List.drop (Int.toNat (IntKind.wrap IntKind.i64 (a1 * (64 : Int)))) (Prod.fst a0))) (↑(List.length (List.take (Int.toNat (IntKind.wrap IntKind.i64 (IntKind.wrap IntKind.i64 (a1 + (1 : Int)) * (64 : Int))) - Int.toNat (IntKind.wrap IntKind.i64 (a1 * (64 : Int)))) (List.drop (Int.toNat (IntKind.wrap IntKind.i64 (a1 * (64 : Int)))) (Prod.fst a0)))) : Int) (0 : Int) a0) (fun (y11 : Int) (y12 : List Int × List Int × Int × PUnit) => some (!decide (y11 ≥ (0 : Int)), (0 : Int), PUnit.unit)) fun (y13 : List Int × List Int × Int × PUnit) => some (true, (0 : Int), PUnit.unit)))
theorem fn_26 (a0 : ((List Int) × ((List Int) × (Int × Unit)))) (a1 : Int) : evFnL sm_26 FU (ovr (fun f' => bif Nat.beq f' 42 then some (g_26_42) else none) (evFn sm_26 fns FU 4)) .nil ir26 (ofH [(.pair (.slice (.int .u32)) (.pair (.slice (.int .i64)) (.pair (.int .i64) .unit))), (.int .i64)] (a0, a1, ())) [] (pureK [.bool, (.int .i64)]) = F_26 a0 a1 := by kernel_rfl
def Sp.p_26 (a0 : ((List Int) × ((List Int) × (Int × Unit)))) (a1 : Int) : Bool := (F_26 a0 a1).isSome
def Sp.v_26 (a0 : ((List Int) × ((List Int) × (Int × Unit)))) (a1 : Int) : Bool × Int × Unit := (F_26 a0 a1).getD (dfH [.bool, (.int .i64)])
def s_26 : Summ := shN [(.pair (.slice (.int .u32)) (.pair (.slice (.int .i64)) (.pair (.int .i64) .unit))), (.int .i64)] [.bool, (.int .i64)] (fun x => Sp.p_26 x.1 x.2.1) (fun x => Sp.v_26 x.1 x.2.1)
theorem pv_26 (a0 : ((List Int) × ((List Int) × (Int × Unit)))) (a1 : Int) {y : Bool × Int × Unit} (h : F_26 a0 a1 = some y) : Sp.p_26 a0 a1 = true ∧ Sp.v_26 a0 a1 = y := ⟨by rw [Sp.p_26, h]; rfl, by rw [Sp.v_26, h]; rfl⟩
theorem run_26 (x : HDen [(.pair (.slice (.int .u32)) (.pair (.slice (.int .i64)) (.pair (.int .i64) .unit))), (.int .i64)]) (y : HDen [.bool, (.int .i64)]) (h : F_26 x.1 x.2.1 = some y) : evFn sm_26 fns FU 5 26 (ofH [(.pair (.slice (.int .u32)) (.pair (.slice (.int .i64)) (.pair (.int .i64) .unit))), (.int .i64)] x) [] (pureK [.bool, (.int .i64)]) = some y :=
  evFnL_sound (fn := ir26) (t := .nil) (o := (fun f' => bif Nat.beq f' 42 then some (g_26_42) else none)) rfl ov_26_26_ok trivial ((fn_26 _ _).trans h)
end
end Go.Ev
namespace Go.Ev
open Go
set_option maxRecDepth 100000
set_option maxHeartbeats 4000000
set_option linter.unusedVariables false
noncomputable section

def sm_24 : Nat → Option Summ := fun f => none
def T_24_0 (p0 : List Int) (p1 : List Int) (p2 : Int) (p3 : Int) : St := St.mk [CV.pure (Ty.slice (Ty.int IntKind.i64)) p0, CV.pure (Ty.slice (Ty.int IntKind.i64)) p1, jk, jk, jk, jk, jk, jk, jk, jk, jk, jk, CV.int IntKind.i64 p2, CV.int IntKind.i64 p3, jk, jk, jk, jk, jk, jk, jk, jk, jk, jk, jk, jk] [] (0 : Nat)
def X_24_0_0 : St := St.mk [jk, jk, jk, jk, CV.bool false, jk, jk, jk, jk, jk, jk, jk, jk, jk, jk, jk, jk, jk, jk, jk, jk, jk, jk, jk, jk, jk] [] (0 : Nat)
def X_24_0_1 : St := St.mk [jk, jk, jk, jk, jk, jk, jk, jk, jk, jk, jk, jk, jk, jk, jk, jk, jk, jk, jk, jk, jk, jk, jk, jk, jk, jk] [] (0 : Nat)
inductive Sp.E_24_0 where
  | e0
  | e1
def Sp.B_24_0 {R : Type} (r : Option Sp.E_24_0) (k0 : Option R) (k1 : Option R) : Option R := match r with
  | none => none
  | some (.e0) => k0
  | some (.e1) => k1
def Sp.L_24_0 : Nat → (List Int) → (List Int) → (Int) → (Int) → Option Sp.E_24_0
  | 0, _, _, _, _ => none
  | m + 1, p0, p1, p2, p3 => bif decide (p3 < p2) then gd (inB p3 (List.length p0)) (gd (inB p3 (List.length p1)) (bif List.getD p0 (Int.toNat p3) (0 : Int) != List.getD p1 (Int.toNat p3) (0 : Int) then some (Sp.E_24_0.e0) else Sp.L_24_0 m p0 p1 p2 (IntKind.wrap IntKind.i64 (p3 + (1 : Int))))) else some (Sp.E_24_0.e1)
def G_24_0 {R : Type} (p0 : List Int) (p1 : List Int) (p2 : Int) (p3 : Int) (k : Ex → St → Option R) : Option R := Sp.B_24_0 (Sp.L_24_0 FU p0 p1 p2 p3) (k Ex.ret (X_24_0_0)) (k (Ex.exit (0 : Nat)) (X_24_0_1))
def o_24_0 {R : Type} (G : (List Int) → (List Int) → (Int) → (Int) → (Ex → St → Option R) → Option R) : St → (Ex → St → Option R) → Option R := fun T k => match T.sl.getD 0 .junk, T.sl.getD 1 .junk, T.sl.getD 12 .junk, T.sl.getD 13 .junk, T.hp with
  | CV.pure (Ty.slice (Ty.int IntKind.i64)) p0, CV.pure (Ty.slice (Ty.int IntKind.i64)) p1, CV.int IntKind.i64 p2, CV.int IntKind.i64 p3, [] => gd (shapeOK T 26 [0, 1, 12, 13] (0 : Nat)) (G p0 p1 p2 p3 k)
  | _, _, _, _, _ => none
theorem o_24_0_inv {R : Type} {G : (List Int) → (List Int) → (Int) → (Int) → (Ex → St → Option R) → Option R} {T : St} {k : Ex → St → Option R} {r : R} (h : o_24_0 G T k = some r) : ∃ p0 p1 p2 p3, T = T_24_0 p0 p1 p2 p3 ∧ G p0 p1 p2 p3 k = some r := by
  unfold o_24_0 at h
  split at h
  · obtain ⟨hs, h'⟩ := gd_some h
    refine ⟨_, _, _, _, (st_of (asg := [(0, _), (1, _), (12, _), (13, _)]) hs ⟨by assumption, by assumption, by assumption, by assumption, trivial⟩ (by assumption)).trans ?_, h'⟩
    kernel_rfl
  · cases h
def O_24_24_0 {R : Type} : St → (Ex → St → Option R) → Option R := fun T k => o_24_0 G_24_0 T k
theorem body_24_0 {R : Type} (K0 : St → Option R) (K1 : Ex → St → Option R) (p0 : List Int) (p1 : List Int) (p2 : Int) (p3 : Int) : evLB (evCodeL sm_24 FU (ovr noO (evFn sm_24 fns FU 0)) .nil ir24_b0) (St.norm ir24_v0) (T_24_0 p0 p1 p2 p3) K0 K1 =
  bif decide (p3 < p2) then gd (inB p3 (List.length p0)) (gd (inB p3 (List.length p1)) (bif List.getD p0 (Int.toNat p3) (0 : Int) != List.getD p1 (Int.toNat p3) (0 : Int) then K1 Ex.ret X_24_0_0 else K0 (T_24_0 p0 p1 p2 (IntKind.wrap IntKind.i64 (p3 + (1 : Int)))))) else K1 (Ex.exit (0 : Nat)) X_24_0_1 := by kernel_rfl
theorem Bgd_24_0 {R : Type} {c : Bool} {x : Option R} {y : Option Sp.E_24_0} {k0 : Option R} {k1 : Option R} (h : x = Sp.B_24_0 y k0 k1) : gd c x = Sp.B_24_0 (gd c y) k0 k1 := by cases c; rfl; exact h
theorem Bcond_24_0 {R : Type} {c : Bool} {x x' : Option R} {y y' : Option Sp.E_24_0} {k0 : Option R} {k1 : Option R} (h : x = Sp.B_24_0 y k0 k1) (h' : x' = Sp.B_24_0 y' k0 k1) : (bif c then x else x') = Sp.B_24_0 (bif c then y else y') k0 k1 := by cases c; exact h'; exact h
theorem loop_24_0 {R : Type} (k : Ex → St → Option R) : ∀ (m : Nat) (p0 : List Int) (p1 : List Int) (p2 : Int) (p3 : Int), evLoopN (evCodeL sm_24 FU (ovr noO (evFn sm_24 fns FU 0)) .nil ir24_b0) (St.norm ir24_v0) m (T_24_0 p0 p1 p2 p3) k = Sp.B_24_0 (Sp.L_24_0 m p0 p1 p2 p3) (k Ex.ret (X_24_0_0)) (k (Ex.exit (0 : Nat)) (X_24_0_1))
  | 0, _, _, _, _ => rfl
  | m + 1, p0, p1, p2, p3 => by
    rw [evLoopN_succ, body_24_0, Sp.L_24_0]
    repeat' first | apply Bgd_24_0 | apply Bcond_24_0 | exact loop_24_0 k m _ _ _ _ | rfl
theorem ok_24_0 {R : Type} (T : St) (k : Ex → St → Option R) (r : R) (h0 : o_24_0 G_24_0 T k = some r) : evLoopN (evCode sm_24 FU (evFn sm_24 fns FU 0) ir24_b0) (St.norm ir24_v0) FU T k = some r := by
  obtain ⟨p0, p1, p2, p3, rfl, h⟩ := o_24_0_inv h0
  refine evLoopN_L (t := .nil) noO_ok trivial _ _ _ _ ?_
  rw [loop_24_0]
  exact h
theorem OK_24_24_0 {R : Type} (T : St) (k : Ex → St → Option R) (r : R) (h : O_24_24_0 T k = some r) : evLoopN (evCode sm_24 FU (evFn sm_24 fns FU 0) ir24_b0) (St.norm ir24_v0) FU T k = some r := ok_24_0 T k r h
def F_24 (a0 : (List Int)) (a1 : (List Int)) : Option (Bool × Unit) :=
  bif (↑(List.length a0) : Int) != (↑(List.length a1) : Int) then some (false, PUnit.unit) else Sp.B_24_0 (Sp.L_24_0 (4611686018427387904 : Nat) a0 a1 (↑(List.length a0) : Int) (0 : Int)) (some (false, PUnit.unit)) (some (true, PUnit.unit))
theorem fn_24 (a0 : (List Int)) (a1 : (List Int)) : evFnL sm_24 FU (ovr noO (evFn sm_24 fns FU 0)) (ir24_t O_24_24_0) ir24 (ofH [(.slice (.int .i64)), (.slice (.int .i64))] (a0, a1, ())) [] (pureK [.bool]) = F_24 a0 a1 := by kernel_rfl
def Sp.p_24 (a0 : (List Int)) (a1 : (List Int)) : Bool := (F_24 a0 a1).isSome
def Sp.v_24 (a0 : (List Int)) (a1 : (List Int)) : Bool × Unit := (F_24 a0 a1).getD (dfH [.bool])
def s_24 : Summ := shN [(.slice (.int .i64)), (.slice (.int .i64))] [.bool] (fun x => Sp.p_24 x.1 x.2.1) (fun x => Sp.v_24 x.1 x.2.1)
theorem pv_24 (a0 : (List Int)) (a1 : (List Int)) {y : Bool × Unit} (h : F_24 a0 a1 = some y) : Sp.p_24 a0 a1 = true ∧ Sp.v_24 a0 a1 = y := ⟨by rw [Sp.p_24, h]; rfl, by rw [Sp.v_24, h]; rfl⟩
theorem run_24 (x : HDen [(.slice (.int .i64)), (.slice (.int .i64))]) (y : HDen [.bool]) (h : F_24 x.1 x.2.1 = some y) : evFn sm_24 fns FU 1 24 (ofH [(.slice (.int .i64)), (.slice (.int .i64))] x) [] (pureK [.bool]) = some y :=
  evFnL_sound (fn := ir24) (t := (ir24_t O_24_24_0)) (o := noO) rfl noO_ok (ir24_tok (fun T k r => OK_24_24_0 T k r)) ((fn_24 _ _).trans h)
end
end Go.Ev
set_option linter.unusedSimpArgs false
set_option linter.unusedVariables false
namespace Go.Ev
open Go
set_option maxRecDepth 100000
set_option maxHeartbeats 4000000
abbrev FlT := List Int × List Int × Int × Unit
abbrev PwT := Int × Int × Unit
abbrev OpT := Bool × Int × Int × Unit
abbrev RsT := FlT × PwT × Int × Unit
namespace Sp
def wb (f : FlT) (j : Nat) : Bool := decide (f.2.1.getD j 0 < 0) || decide (f.2.1.getD j 0 > f.2.2.1)
def fv (f : FlT) : Bool := decide (1 ≤ f.2.1.length) && (decide (f.2.1.length ≤ 64) && (decide (f.1.length = f.2.1.length * 64) && (decide (1 ≤ f.2.2.1) && (decide (f.2.2.1 ≤ 1000000) && (fnd (wb f) f.2.1.length 0).isNone))))
def pw (f : FlT) (k : Nat) (w bits : Int) : FlT := (f.1.set k (andnI .u32 (f.1.getD k 0) (andnI .u32 bits w)), f.2.1, f.2.2.1, ())
def prg (f : FlT) (k : Nat) (w : Int) (p : PwT) : RsT := if p.1 = 0 then (f, p, 18, ()) else if p.1 = 1 then (pw f k w p.2.1, (0, p.2), 18, ()) else (pw f k w 4294967295, (p.1 - 1, p.2), 0, ())
def orW (ws : List Int) (o : Nat) (bits : Int) (n : Nat) : List Int := ws.mapIdx (fun i x => if o ≤ i ∧ i < o + n then orI .u32 x bits else x)
def ew (f : FlT) (s : Nat) (bits : Int) : FlT := (orW f.1 (s * 64) bits 64, f.2.1.set s (f.2.1.getD s 0 + 1), f.2.2.1, ())
def ers (f : FlT) (s : Nat) (p : PwT) : RsT := if f.2.1.getD s 0 = f.2.2.1 then (([], [], 0, ()), (0, 0, ()), 19, ()) else if p.1 = 0 then (f, p, 18, ()) else if p.1 = 1 then (ew f s p.2.1, (0, p.2), 18, ()) else (ew f s 4294967295, (p.1 - 1, p.2), 0, ())
def shp (f g : FlT) : Bool := decide (f.1.length = g.1.length) && (decide (f.2.1.length = g.2.1.length) && decide (f.2.2.1 = g.2.2.1))
end Sp
theorem aw : F_11 = some (true, ()) := by kernel_rfl
theorem aw_pv : Sp.p_11 = true ∧ Sp.v_11 = (true, ()) := pv_11 aw
theorem full_pv : Sp.p_18 = true ∧ Sp.v_18 = ((1099511627776, 0, ()), ()) := pv_18 rfl
theorem few_ok (f : FlT) : F_12 f = some (decide (f.2.1.length ≤ 70) && decide (f.1.length ≤ 4480), ()) := by
  unfold F_12
  rw [show decide ((f.1.length : Int) ≤ 4480) = decide (f.1.length ≤ 4480) from decide_eq_decide.2 (by omega)]
  by_cases h : (f.2.1.length : Int) ≤ 70
  · rw [cond_dtt h, decide_eq_true (p := f.2.1.length ≤ 70) (by omega), Bool.true_and]
  · rw [cond_dff h, decide_eq_false (p := f.2.1.length ≤ 70) (by omega), Bool.false_and]
theorem few_pv (f : FlT) : Sp.p_12 f = true ∧ Sp.v_12 f = (decide (f.2.1.length ≤ 70) && decide (f.1.length ≤ 4480), ()) := pv_12 f (few_ok f)
theorem shp_ok (f g : FlT) : F_23 f g = some (Sp.shp f g, ()) := by
  unfold F_23 Sp.shp
  by_cases h : f.1.length = g.1.length
  · rw [cond_ett (by omega), decide_eq_true h, Bool.true_and]
    by_cases h : f.2.1.length = g.2.1.length
    · rw [cond_ett (by omega), decide_eq_true h, Bool.true_and]
      by_cases h : f.2.2.1 = g.2.2.1
      · rw [decide_eq_true h, beq_iff_eq.2 h]
      · rw [decide_eq_false h, beq_eq_false_iff_ne.2 h]
    · rw [cond_eff (by omega), decide_eq_false h, Bool.false_and]
  · rw [cond_eff (by omega), decide_eq_false h, Bool.false_and]
theorem shp_pv (f g : FlT) : Sp.p_23 f g = true ∧ Sp.v_23 f g = (Sp.shp f g, ()) := pv_23 f g (shp_ok f g)
theorem fv_iff {f : FlT} : Sp.fv f = true ↔ 1 ≤ f.2.1.length ∧ f.2.1.length ≤ 64 ∧ f.1.length = f.2.1.length * 64 ∧ 1 ≤ f.2.2.1 ∧ f.2.2.1 ≤ 1000000 ∧ ∀ j, j < f.2.1.length → 0 ≤ f.2.1.getD j 0 ∧ f.2.1.getD j 0 ≤ f.2.2.1 := by
  simp only [Sp.fv, Bool.and_eq_true, decide_eq_true_eq, Option.isNone_iff_eq_none, fnd_none, Sp.wb, Bool.or_eq_false_iff, decide_eq_false_iff_not]
  constructor
  · rintro ⟨a, b, c, d, e, g⟩
    refine ⟨a, b, c, d, e, fun j hj => ?_⟩
    have := g j (by omega) (by omega)
    omega
  · rintro ⟨a, b, c, d, e, g⟩
    refine ⟨a, b, c, d, e, fun j _ hj => ?_⟩
    have := g j (by omega)
    omega
theorem fv_ok (f : FlT) : F_16 f = some (Sp.fv f, ()) := by
  unfold F_16 Sp.fv
  by_cases h1 : (f.2.1.length : Int) < 1
  · rw [cond_dtt h1, decide_eq_false (by omega)]; rfl
  rw [cond_dff h1, decide_eq_true (p := 1 ≤ f.2.1.length) (by omega), Bool.true_and]
  by_cases h2 : (f.2.1.length : Int) > 64
  · rw [cond_dtt h2, decide_eq_false (by omega)]; rfl
  rw [cond_dff h2, decide_eq_true (p := f.2.1.length ≤ 64) (by omega), Bool.true_and, wi64 (by omega) (by omega)]
  by_cases h3 : (f.1.length : Int) = (f.2.1.length : Int) * 64
  rotate_left
  · rw [cond_ntt h3, decide_eq_false (p := f.1.length = _) (by omega)]; rfl
  rw [cond_nff h3, decide_eq_true (p := f.1.length = _) (by omega), Bool.true_and]
  by_cases h4 : f.2.2.1 < 1
  · rw [cond_dtt h4, decide_eq_false (by omega)]; rfl
  rw [cond_dff h4, decide_eq_true (p := 1 ≤ f.2.2.1) (by omega), Bool.true_and]
  by_cases h5 : f.2.2.1 > 1000000
  · rw [cond_dtt h5, decide_eq_false (by omega)]; rfl
  rw [cond_dff h5, decide_eq_true (p := f.2.2.1 ≤ 1000000) (by omega), Bool.true_and]
  have hf := find0 (fun m i => Sp.L_16_47_0_0 m f.2.1 f.2.1.length i f) (n := f.2.1.length) (Sp.wb f) (ex := fun j => some (.e0 (j : Int) f)) (e1 := some (.e1 f)) (by omega) (fun m j hj => by
    show Sp.L_16_47_0_0 (m + 1) f.2.1 f.2.1.length j f = bif Sp.wb f j then some (.e0 (j : Int) f) else Sp.L_16_47_0_0 m f.2.1 f.2.1.length ((j + 1 : Nat) : Int) f
    rw [Sp.L_16_47_0_0, cond_dtt (by omega), gd_inB (by omega) (by omega), Int.toNat_natCast, wi64 (by omega) (by omega)]
    unfold Sp.wb
    push_cast
    grind) (fun m => by
    show Sp.L_16_47_0_0 (m + 1) f.2.1 f.2.1.length f.2.1.length f = _
    rw [Sp.L_16_47_0_0, cond_dff (by omega)])
  rw [hf]
  cases fnd (Sp.wb f) f.2.1.length 0 with
  | none => rfl
  | some k =>
    simp only [Sp.B_16_47_0_0, Option.isNone]
    rw [decide_eq_true (by omega)]
    rfl
theorem fv_pv (f : FlT) : Sp.p_16 f = true ∧ Sp.v_16 f = (Sp.fv f, ()) := pv_16 f (fv_ok f)
theorem chk_pv {f : FlT} {p : PwT} {a n : Int} (h : Sp.fv f = true) (h0 : 0 ≤ p.1) (h1 : p.1 ≤ 1099511627776) (h2 : 0 ≤ a) (h3 : a < n) : Sp.p_36 f p a n = true ∧ Sp.v_36 f p a n = (0, ()) := by
  refine pv_36 f p a n ?_
  unfold F_36
  rw [(fv_pv f).1, (fv_pv f).2, gd_tt, h, Bool.not_true, cond_f, cond_dff (by omega), cond_dff (by omega), cond_dff (by omega), cond_dff (by omega)]
theorem prg_ok {f : FlT} {p : PwT} {k : Nat} {w : Int} (h : Sp.fv f = true) (h0 : 0 ≤ p.1) (h1 : p.1 ≤ 1099511627776) (h2 : k < f.1.length) : F_19 f k w p = some (Sp.prg f k w p) := by
  have hv := fv_iff.1 h
  unfold F_19 Sp.prg Sp.pw
  rw [(chk_pv h h0 h1 (by omega) (by omega)).1, (chk_pv h h0 h1 (by omega) (by omega)).2, gd_tt, cond_nff rfl, gd_room (by omega) (by omega), gd_room (by omega) (by omega)]
  simp only [gd_inB (show (0 : Int) ≤ (k : Int) by omega) (show (k : Int) < ((f.1.length : Nat) : Int) by omega), Int.toNat_natCast, Bool.and_true, gd_dec h2]
  by_cases e0 : p.1 = 0
  · rw [cond_ett e0, if_pos e0]
  rw [cond_eff e0, if_neg e0]
  by_cases e1 : p.1 = 1
  · rw [cond_ett e1, if_pos e1]
  rw [cond_eff e1, if_neg e1, wi64 (by omega) (by omega)]
theorem prg_pv {f : FlT} {p : PwT} {k : Nat} {w : Int} (h : Sp.fv f = true) (h0 : 0 ≤ p.1) (h1 : p.1 ≤ 1099511627776) (h2 : k < f.1.length) : Sp.p_19 f k w p = true ∧ Sp.v_19 f k w p = Sp.prg f k w p := pv_19 f k w p (prg_ok h h0 h1 h2)
theorem orW_len (ws : List Int) (o : Nat) (b : Int) (n : Nat) : (Sp.orW ws o b n).length = ws.length := by simp [Sp.orW]
theorem orW_get (ws : List Int) (o : Nat) (b : Int) (n i : Nat) (h : i < ws.length) : (Sp.orW ws o b n).getD i 0 = if o ≤ i ∧ i < o + n then Sp.orI .u32 (ws.getD i 0) b else ws.getD i 0 := by
  have hl : i < (Sp.orW ws o b n).length := by rw [orW_len]; exact h
  rw [getD_at 0 hl, getD_at 0 h]
  simp [Sp.orW]
theorem orW_zero (ws : List Int) (o : Nat) (b : Int) : Sp.orW ws o b 0 = ws := by
  refine list_ext 0 (orW_len ..) (fun j hj => ?_)
  rw [orW_len] at hj
  rw [orW_get _ _ _ _ _ hj, if_neg (by omega)]
theorem getD_set {α : Type} (l : List α) (i j : Nat) (x d : α) (h : i < l.length) : (l.set i x).getD j d = if i = j then x else l.getD j d := by
  simp only [List.getD_eq_getElem?_getD, List.getElem?_set]
  split
  · simp [h]
  · rfl
theorem orW_succ (ws : List Int) (o : Nat) (b : Int) (n : Nat) (h : o + n < ws.length) : (Sp.orW ws o b n).set (o + n) (Sp.orI .u32 ((Sp.orW ws o b n).getD (o + n) 0) b) = Sp.orW ws o b (n + 1) := by
  refine list_ext 0 (by rw [List.length_set, orW_len, orW_len]) (fun j hj => ?_)
  rw [List.length_set, orW_len] at hj
  rw [getD_set _ _ _ _ _ (by rw [orW_len]; exact h), orW_get _ _ _ _ _ hj, orW_get _ _ _ _ _ hj, orW_get _ _ _ _ _ h]
  split
  · subst j
    rw [if_neg (by omega), if_pos (by omega)]
  · by_cases hh : o ≤ j ∧ j < o + n
    · rw [if_pos hh, if_pos (by omega)]
    · rw [if_neg hh, if_neg (by omega)]
theorem ers_ok {f : FlT} {p : PwT} {s : Nat} (h : Sp.fv f = true) (h0 : 0 ≤ p.1) (h1 : p.1 ≤ 1099511627776) (h2 : s < f.2.1.length) : F_28 f s p = some (Sp.ers f s p) := by
  have hv := fv_iff.1 h
  unfold F_28 Sp.ers Sp.ew
  rw [(chk_pv h h0 h1 (by omega) (by omega)).1, (chk_pv h h0 h1 (by omega) (by omega)).2, gd_tt, cond_nff rfl, gd_inB (by omega) (by omega), Int.toNat_natCast]
  by_cases e : f.2.1.getD s 0 = f.2.2.1
  · rw [cond_ett e, if_pos e]
  rw [cond_eff e, if_neg e, gd_room (by omega) (by omega), gd_room (by omega) (by omega)]
  have hb := hv.2.2.2.2.2 s h2
  by_cases e0 : p.1 = 0
  · rw [cond_ett e0, if_pos e0]
  rw [cond_eff e0, if_neg e0, wi64 (n := (s : Int) + 1) (by omega) (by omega), wi64 (n := (s : Int) * 64) (by omega) (by omega), wi64 (n := ((s : Int) + 1) * 64) (by omega) (by omega), gd_sl3 (by omega) (by omega) (by omega),
    show (((s : Int) + 1) * 64).toNat - ((s : Int) * 64).toNat = 64 by omega, show ((s : Int) * 64).toNat = s * 64 by omega]
  have hr : ∀ (b : Int) (p5 : FlT) (p6 : Int) (p7 : PwT) (p8 : Int × PUnit) (p9 : PwT) (p10 : FlT) (p11 : PwT) (p12 : Int × PUnit) (p13 : PwT) (p15 : List Int) (p16 p17 : Int × PUnit), Sp.L_28_45_0_0 4611686018427387904 b (s * 64) 64 ((64 : Nat) : Int) 0 p5 p6 p7 p8 p9 p10 p11 p12 p13 f.1 p15 p16 p17 = some (.e0 p5 p6 p7 p8 p9 p10 p11 p12 p13 (Sp.orW f.1 (s * 64) b 64) p15 p16 p17) := by
    intro b p5 p6 p7 p8 p9 p10 p11 p12 p13 p15 p16 p17
    have := run0 (fun m i ws => Sp.L_28_45_0_0 m b (s * 64) 64 ((64 : Nat) : Int) i p5 p6 p7 p8 p9 p10 p11 p12 p13 ws p15 p16 p17) (n := 64) (fun j => Sp.orW f.1 (s * 64) b j) (r := some (.e0 p5 p6 p7 p8 p9 p10 p11 p12 p13 (Sp.orW f.1 (s * 64) b 64) p15 p16 p17)) (by omega) (fun m j hj => by
      show Sp.L_28_45_0_0 (m + 1) b (s * 64) 64 ((64 : Nat) : Int) (j : Int) p5 p6 p7 p8 p9 p10 p11 p12 p13 (Sp.orW f.1 (s * 64) b j) p15 p16 p17 = _
      rw [Sp.L_28_45_0_0, cond_dtt (by omega)]
      simp only [gd_inB (show (0 : Int) ≤ (j : Int) by omega) (show (j : Int) < ((64 : Nat) : Int) by omega), Int.toNat_natCast, Bool.and_true, orW_len, gd_dec (show s * 64 + j < f.1.length by omega)]
      rw [orW_succ _ _ _ _ (by omega), wi64 (by omega) (by omega)]
      push_cast
      rfl) (fun m => by
      show Sp.L_28_45_0_0 (m + 1) b (s * 64) 64 ((64 : Nat) : Int) ((64 : Nat) : Int) p5 p6 p7 p8 p9 p10 p11 p12 p13 (Sp.orW f.1 (s * 64) b 64) p15 p16 p17 = _
      rw [Sp.L_28_45_0_0, cond_dff (by omega)])
    rw [orW_zero] at this
    exact this
  simp only [hr, Sp.B_28_45_0_0]
  simp only [gd_inB (show (0 : Int) ≤ (s : Int) by omega) (show (s : Int) < ((f.2.1.length : Nat) : Int) by omega), Int.toNat_natCast, Bool.and_true, gd_dec h2]
  rw [wi64 (n := f.2.1.getD s 0 + 1) (by omega) (by omega)]
  by_cases e1 : p.1 = 1
  · rw [cond_ett e1, if_pos e1]
  rw [cond_eff e1, if_neg e1, wi64 (by omega) (by omega), gd_sl3 (by omega) (by omega) (by omega)]
theorem ers_pv {f : FlT} {p : PwT} {s : Nat} (h : Sp.fv f = true) (h0 : 0 ≤ p.1) (h1 : p.1 ≤ 1099511627776) (h2 : s < f.2.1.length) : Sp.p_28 f s p = true ∧ Sp.v_28 f s p = Sp.ers f s p := pv_28 f s p (ers_ok h h0 h1 h2)
theorem same_pv (f : FlT) (h : Sp.fv f = true) : Sp.p_15 f f = true ∧ Sp.v_15 f f = (true, ()) := by
  have hv := fv_iff.1 h
  refine pv_15 f f ?_
  unfold F_15
  rw [cond_nff rfl, cond_nff rfl, cond_nff rfl]
  have h1 := run0 (fun m i (_ : Unit) => Sp.L_15_0 m i f f) (n := f.1.length) (fun _ => ()) (r := some (.e1 f f)) (by omega) (fun m j hj => by
    show Sp.L_15_0 (m + 1) (j : Int) f f = Sp.L_15_0 m ((j + 1 : Nat) : Int) f f
    rw [Sp.L_15_0, cond_dtt (by omega), gd_inB (by omega) (by omega), gd_inB (by omega) (by omega), cond_nff rfl, wi64 (by omega) (by omega)]
    push_cast
    rfl) (fun m => by
    show Sp.L_15_0 (m + 1) f.1.length f f = _
    rw [Sp.L_15_0, cond_dff (by omega)])
  have h2 := run0 (fun m i (_ : Unit) => Sp.L_15_1 m i f f) (n := f.2.1.length) (fun _ => ()) (r := some .e1) (by omega) (fun m j hj => by
    show Sp.L_15_1 (m + 1) (j : Int) f f = Sp.L_15_1 m ((j + 1 : Nat) : Int) f f
    rw [Sp.L_15_1, cond_dtt (by omega), gd_inB (by omega) (by omega), gd_inB (by omega) (by omega), cond_nff rfl, wi64 (by omega) (by omega)]
    push_cast
    rfl) (fun m => by
    show Sp.L_15_1 (m + 1) f.2.1.length f f = _
    rw [Sp.L_15_1, cond_dff (by omega)])
  have e1 : Sp.L_15_0 4611686018427387904 0 f f = _ := h1
  have e2 : Sp.L_15_1 4611686018427387904 0 f f = _ := h2
  rw [e1]
  simp only [Sp.B_15_0]
  rw [e2]
  rfl
end Go.Ev
set_option linter.unusedSimpArgs false
set_option linter.unusedVariables false
namespace Go.Ev
open Go
set_option maxRecDepth 100000
set_option maxHeartbeats 4000000
namespace Sp
def opK (f : FlT) (o : OpT) : Nat := o.2.1.toNat % f.1.length
def opV (f : FlT) (o : OpT) (p : PwT) : RsT := if o.1 = true then ers f (opK f o / 64) p else prg f (opK f o) o.2.2.1 p
def doL : List OpT → FlT → PwT → RsT
  | [], f, p => (f, p, 0, ())
  | o :: l, f, p => if (opV f o p).2.2.1 = 0 then doL l (opV f o p).1 (opV f o p).2.1 else opV f o p
end Sp
theorem orW_fv {f : FlT} {s : Nat} {b : Int} (h : Sp.fv f = true) (h2 : s < f.2.1.length) (h3 : ¬ f.2.1.getD s 0 = f.2.2.1) : Sp.fv (Sp.ew f s b) = true := by
  rw [fv_iff] at h ⊢
  unfold Sp.ew
  dsimp only
  rw [orW_len, List.length_set]
  refine ⟨h.1, h.2.1, h.2.2.1, h.2.2.2.1, h.2.2.2.2.1, fun j hj => ?_⟩
  rw [getD_set _ _ _ _ _ h2]
  have a := h.2.2.2.2.2 s h2
  split
  · omega
  · exact h.2.2.2.2.2 j hj
theorem pw_fv {f : FlT} {k : Nat} {w b : Int} (h : Sp.fv f = true) : Sp.fv (Sp.pw f k w b) = true := by
  rw [fv_iff] at h ⊢
  unfold Sp.pw
  dsimp only
  rw [List.length_set]
  exact h
/-- What an operation does: nothing is lost, and a valid memory stays valid. -/
theorem opK_lt {f : FlT} (h : Sp.fv f = true) (o : OpT) : Sp.opK f o < f.1.length := by
  have := fv_iff.1 h
  exact Nat.mod_lt _ (by omega)
theorem opK_s {f : FlT} (h : Sp.fv f = true) (o : OpT) : Sp.opK f o / 64 < f.2.1.length := by
  have := fv_iff.1 h
  have := opK_lt h o
  omega
theorem opV_ok {f : FlT} {o : OpT} {p : PwT} (h : Sp.fv f = true) (h0 : 0 ≤ p.1) (h1 : p.1 ≤ 1099511627776) (e : (Sp.opV f o p).2.2.1 = 0) : Sp.fv (Sp.opV f o p).1 = true ∧ Sp.shp f (Sp.opV f o p).1 = true ∧ 2 ≤ p.1 ∧ (Sp.opV f o p).2.1 = (p.1 - 1, p.2) := by
  unfold Sp.opV at e ⊢
  by_cases ho : o.1 = true
  · rw [if_pos ho] at e ⊢
    unfold Sp.ers at e ⊢
    by_cases e3 : f.2.1.getD (Sp.opK f o / 64) 0 = f.2.2.1
    · rw [if_pos e3] at e; cases e
    rw [if_neg e3] at e ⊢
    by_cases e0 : p.1 = 0
    · rw [if_pos e0] at e; cases e
    rw [if_neg e0] at e ⊢
    by_cases e1 : p.1 = 1
    · rw [if_pos e1] at e; cases e
    rw [if_neg e1] at e ⊢
    refine ⟨orW_fv h (opK_s h o) e3, ?_, by omega, rfl⟩
    simp [Sp.shp, Sp.ew, orW_len]
  · rw [if_neg ho] at e ⊢
    unfold Sp.prg at e ⊢
    by_cases e0 : p.1 = 0
    · rw [if_pos e0] at e; cases e
    rw [if_neg e0] at e ⊢
    by_cases e1 : p.1 = 1
    · rw [if_pos e1] at e; cases e
    rw [if_neg e1] at e ⊢
    refine ⟨pw_fv h, ?_, by omega, rfl⟩
    simp [Sp.shp, Sp.pw]
theorem do_loop (l : List OpT) (hl : ∀ x ∈ l, 0 ≤ x.2.1 ∧ x.2.1 < 65536) (hn : l.length ≤ 1000) (z1 : Int × Unit) (z2 z3 : List Int) (z4 : PwT) : ∀ (d m j : Nat) (f : FlT) (p : PwT), j + d = l.length → d < m → Sp.fv f = true → 0 ≤ p.1 → p.1 ≤ 1099511627776 →
    Sp.B_30_0 (Sp.L_30_0 m l l.length (j : Int) f p z1 z2 z3 z4) (fun (y11 : Int) (y12 : PwT) (y13 : FlT) => some (y13, y12, y11, PUnit.unit)) (fun (y14 : PwT) (y15 : FlT) => some (y15, y14, (3 : Int), PUnit.unit)) (fun (y16 : FlT) (y17 : PwT) (y18 : Int × PUnit) (y19 y20 : List Int) (y21 : PwT) => some (y16, y17, (0 : Int), PUnit.unit)) = some (Sp.doL (l.drop j) f p)
  | 0, m + 1, j, f, p, hj, _, _, _, _ => by
    have : j = l.length := by omega
    subst this
    rw [Sp.L_30_0, cond_dff (by omega), List.drop_length]
    rfl
  | d + 1, m + 1, j, f, p, hj, hm, hf, h0, h1 => by
    have hjl : j < l.length := by omega
    have hv := fv_iff.1 hf
    rw [List.drop_eq_getElem_cons hjl, Sp.doL]
    have hx : l.getD j (Ty.dflt (.pair .bool (.pair (.int .u16) (.pair (.int .u32) .unit)))) = l[j] := getD_at _ hjl
    have hb := hl l[j] (List.getElem_mem hjl)
    rw [Sp.L_30_0, cond_dtt (by omega)]
    simp only [gd_inB (show (0 : Int) ≤ (j : Int) by omega) (show (j : Int) < ((l.length : Nat) : Int) by omega), Int.toNat_natCast, hx]
    generalize l[j] = o at *
    have ek : Int.tmod (IntKind.wrap .i64 o.2.1) (f.1.length : Int) = (Sp.opK f o : Int) := by
      rw [wi64 (by omega) (by omega), Int.tmod_eq_emod_of_nonneg (by omega)]
      unfold Sp.opK
      rw [Int.natCast_emod, Int.toNat_of_nonneg hb.1]
    have es : IntKind.wrap .i64 (Int.tdiv (Sp.opK f o : Int) 64) = ((Sp.opK f o / 64 : Nat) : Int) := by
      have := opK_lt hf o
      rw [Int.tdiv_eq_ediv_of_nonneg (by omega), wi64 (by omega) (by omega)]
      omega
    rw [ek, es, (ers_pv hf h0 h1 (opK_s hf o)).1, (ers_pv hf h0 h1 (opK_s hf o)).2, (prg_pv hf h0 h1 (opK_lt hf o)).1, (prg_pv hf h0 h1 (opK_lt hf o)).2, gd_tt, gd_tt]
    have hz : ((f.1.length : Int) == 0) = false := beq_eq_false_iff_ne.2 (by omega)
    rw [hz, Bool.not_false, gd_tt]
    have hk : ∀ (o' : OpT) (r : RsT), r = Sp.opV f o p → Sp.B_30_0
        (Sp.B_30_1 (Sp.J_30_1 r.2.2.1 l l.length (j : Int) f r.2.1 z1 z2 z3 z4 r.1) (fun (y32 : Int) (y33 : PwT) (y34 : FlT) => some (Sp.E_30_0.e0 y32 y33 y34)) (fun (y35 : PwT) (y36 : FlT) => some (Sp.E_30_0.e1 y35 y36)) (fun (y37 : Int) (y38 : List OpT) (y39 y40 : Int) (y41 : FlT) (y42 : PwT) (y43 : Int × PUnit) (y44 y45 : List Int) (y46 : PwT) (y47 : FlT) => Sp.L_30_0 m y38 y39 (IntKind.wrap .i64 (y40 + (1 : Int))) y47 y42 y43 y44 y45 y46)) (fun (y11 : Int) (y12 : PwT) (y13 : FlT) => some (y13, y12, y11, PUnit.unit)) (fun (y14 : PwT) (y15 : FlT) => some (y15, y14, (3 : Int), PUnit.unit)) (fun (y16 : FlT) (y17 : PwT) (y18 : Int × PUnit) (y19 y20 : List Int) (y21 : PwT) => some (y16, y17, (0 : Int), PUnit.unit)) = some (if (Sp.opV f o p).2.2.1 = 0 then Sp.doL (l.drop (j + 1)) (Sp.opV f o p).1 (Sp.opV f o p).2.1 else Sp.opV f o p) := by
      rintro _ r rfl
      rw [Sp.J_30_1]
      by_cases e : (Sp.opV f o p).2.2.1 = 0
      · have hok := opV_ok hf h0 h1 e
        rw [cond_nff e, if_pos e, (shp_pv f _).1, (shp_pv f _).2, gd_tt, hok.2.1, Bool.not_true, cond_f]
        simp only [Sp.B_30_1]
        rw [wi64 (by omega) (by omega)]
        have hp : (Sp.opV f o p).2.1.1 = p.1 - 1 := by rw [hok.2.2.2]
        have := do_loop l hl hn z1 z2 z3 z4 d m (j + 1) (Sp.opV f o p).1 (Sp.opV f o p).2.1 (by omega) (by omega) hok.1 (by omega) (by omega)
        push_cast at this
        exact this
      · rw [cond_ntt e, if_neg e]
        rfl
    by_cases ho : o.1 = true
    · have hq := hk o (Sp.ers f (Sp.opK f o / 64) p) (by unfold Sp.opV; rw [if_pos ho])
      rw [ho, cond_t]
      exact hq
    · have hq := hk o (Sp.prg f (Sp.opK f o) o.2.2.1 p) (by unfold Sp.opV; rw [if_neg ho])
      rw [Bool.not_eq_true] at ho
      rw [ho, cond_f]
      exact hq
theorem do_pv (l : List OpT) (hl : ∀ x ∈ l, 0 ≤ x.2.1 ∧ x.2.1 < 65536) (hn : l.length ≤ 1000) {f : FlT} {p : PwT} (hf : Sp.fv f = true) (h0 : 0 ≤ p.1) (h1 : p.1 ≤ 1099511627776) : Sp.p_30 f l p = true ∧ Sp.v_30 f l p = Sp.doL l f p := by
  refine pv_30 f l p ?_
  have := do_loop l hl hn (0, ()) [] [] (0, 0, ()) l.length 4611686018427387904 0 f p (by omega) (by omega) hf h0 h1
  exact this
/-! The law's mathematics. -/
theorem doL_app (a b : List OpT) : ∀ (f : FlT) (p : PwT), Sp.doL (a ++ b) f p = if (Sp.doL a f p).2.2.1 = 0 then Sp.doL b (Sp.doL a f p).1 (Sp.doL a f p).2.1 else Sp.doL a f p := by
  induction a with
  | nil => intro f p; rfl
  | cons o a ih =>
    intro f p
    rw [List.cons_append, Sp.doL, Sp.doL]
    by_cases e : (Sp.opV f o p).2.2.1 = 0
    · rw [if_pos e, if_pos e, ih]
    · rw [if_neg e, if_neg e, if_neg e]
/-- Supplies that do not fail do the same. -/
theorem opV_two {f : FlT} {o : OpT} {p q : PwT} (hp : 2 ≤ p.1) (hq : 2 ≤ q.1) : (Sp.opV f o p).2.2.1 = (Sp.opV f o q).2.2.1 ∧ (Sp.opV f o p).1 = (Sp.opV f o q).1 ∧ ((Sp.opV f o p).2.2.1 = 0 ∨ (Sp.opV f o p).2.2.1 = 19 ∧ (Sp.opV f o p).1.1 = []) := by
  unfold Sp.opV
  split
  · unfold Sp.ers
    split
    · exact ⟨rfl, rfl, Or.inr ⟨rfl, rfl⟩⟩
    · rw [if_neg (by omega), if_neg (by omega), if_neg (by omega), if_neg (by omega)]
      exact ⟨rfl, rfl, Or.inl rfl⟩
  · unfold Sp.prg
    rw [if_neg (by omega), if_neg (by omega), if_neg (by omega), if_neg (by omega)]
    exact ⟨rfl, rfl, Or.inl rfl⟩
theorem doL_two : ∀ (l : List OpT) (f : FlT) (p q : PwT), Sp.fv f = true → (l.length : Int) + 1 ≤ p.1 → (l.length : Int) + 1 ≤ q.1 → p.1 ≤ 1099511627776 → q.1 ≤ 1099511627776 → (Sp.doL l f p).2.2.1 = (Sp.doL l f q).2.2.1 ∧ (Sp.doL l f p).1 = (Sp.doL l f q).1 ∧ ((Sp.doL l f p).2.2.1 = 0 ∧ (Sp.doL l f p).2.1 = (p.1 - l.length, p.2) ∧ Sp.fv (Sp.doL l f p).1 = true ∨ (Sp.doL l f p).2.2.1 = 19 ∧ (Sp.doL l f p).1.1 = [])
  | [], f, p, q, hf, _, _, _, _ => ⟨rfl, rfl, Or.inl ⟨rfl, by simp [Sp.doL], hf⟩⟩
  | o :: l, f, p, q, hf, hp, hq, hp2, hq2 => by
    rw [List.length_cons] at hp hq
    obtain ⟨a, b, c⟩ := opV_two (f := f) (o := o) (p := p) (q := q) (by omega) (by omega)
    rw [Sp.doL, Sp.doL]
    by_cases e : (Sp.opV f o p).2.2.1 = 0
    · have e' : (Sp.opV f o q).2.2.1 = 0 := by rw [← a]; exact e
      rw [if_pos e, if_pos e']
      obtain ⟨f1, _, _, f4⟩ := opV_ok hf (by omega) hp2 e
      obtain ⟨g1, _, _, g4⟩ := opV_ok hf (by omega) hq2 e'
      have e1 : (Sp.opV f o p).2.1.1 = p.1 - 1 := by rw [f4]
      have e2 : (Sp.opV f o q).2.1.1 = q.1 - 1 := by rw [g4]
      have := doL_two l (Sp.opV f o p).1 (Sp.opV f o p).2.1 (Sp.opV f o q).2.1 f1 (by omega) (by omega) (by omega) (by omega)
      rw [b] at this ⊢
      refine ⟨this.1, this.2.1, ?_⟩
      rcases this.2.2 with ⟨h1, h2, h3⟩ | h
      · refine Or.inl ⟨h1, ?_, h3⟩
        rw [h2, f4, List.length_cons]
        congr 1
        push_cast
        omega
      · exact Or.inr h
    · have e' : ¬ (Sp.opV f o q).2.2.1 = 0 := by rw [← a]; exact e
      rw [if_neg e, if_neg e']
      refine ⟨a, b, Or.inr ?_⟩
      rcases c with h | h
      · exact absurd h e
      · exact h
/-- An operation that is interrupted. -/
theorem opV_one {f : FlT} {o : OpT} {p : PwT} (hp : 2 ≤ p.1) (e : (Sp.opV f o p).2.2.1 = 0) (mix : Int) (hf : Sp.fv f = true) : (Sp.opV f o (1, mix, ())).2.2.1 = 18 ∧ (Sp.opV f o (1, mix, ())).2.1.1 = 0 ∧ Sp.fv (Sp.opV f o (1, mix, ())).1 = true := by
  unfold Sp.opV at e ⊢
  split
  · rename_i ho
    rw [if_pos ho] at e
    unfold Sp.ers at e ⊢
    by_cases e3 : f.2.1.getD (Sp.opK f o / 64) 0 = f.2.2.1
    · rw [if_pos e3] at e; cases e
    rw [if_neg e3, if_neg (show ¬ (1 : Int) = 0 by decide), if_pos rfl]
    exact ⟨rfl, rfl, orW_fv hf (opK_s hf o) e3⟩
  · unfold Sp.prg
    rw [if_neg (show ¬ (1 : Int) = 0 by decide), if_pos rfl]
    exact ⟨rfl, rfl, pw_fv hf⟩
end Go.Ev
set_option linter.unusedSimpArgs false
set_option linter.unusedVariables false
namespace Go.Ev
open Go
set_option maxRecDepth 100000
set_option maxHeartbeats 4000000
theorem plain_8 (f : FlT) (l : List OpT) (n mix : Int) (_ : wfD (.pair (.slice (.int .u32)) (.pair (.slice (.int .i64)) (.pair (.int .i64) .unit))) f) (wl : wfD (.slice (.pair .bool (.pair (.int .u16) (.pair (.int .u32) .unit)))) l) (wn : wfD (.int .u8) n) (_ : wfD (.int .u32) mix) : F_8 f l n mix = some true := by
  have hl : ∀ x ∈ l, 0 ≤ x.2.1 ∧ x.2.1 < 65536 := by
    intro x hx
    have h := (wl x hx).2.1
    simp [wfD, Lit.wf, IntKind.min, IntKind.max, IntKind.signed, IntKind.bits] at h
    omega
  have hn : 0 ≤ n ∧ n < 256 := by
    simp [wfD, Lit.wf, IntKind.min, IntKind.max, IntKind.signed, IntKind.bits] at wn
    omega
  unfold F_8
  rw [aw_pv.1, aw_pv.2, gd_tt, Bool.not_true, cond_f, (few_pv f).1, (few_pv f).2, gd_tt]
  cases hfew : (decide (f.2.1.length ≤ 70) && decide (f.1.length ≤ 4480))
  · rfl
  rw [Bool.not_true, cond_f, (fv_pv f).1, (fv_pv f).2, gd_tt]
  cases hf : Sp.fv f
  · rfl
  rw [Bool.not_true, cond_f]
  by_cases h1 : (l.length : Int) < 1
  · rw [cond_dtt h1]
  by_cases h2 : (l.length : Int) > 40
  · rw [cond_dff h1, cond_dtt h2]
  have hz : ((l.length : Int) == 0) = false := beq_eq_false_iff_ne.2 (by omega)
  rw [cond_dff h1, cond_dff h2, hz, Bool.not_false, gd_tt]
  obtain ⟨k, hk, hkl⟩ : ∃ k : Nat, Int.tmod (IntKind.wrap .i64 n) (l.length : Int) = (k : Int) ∧ k < l.length := by
    refine ⟨n.toNat % l.length, ?_, Nat.mod_lt _ (by omega)⟩
    rw [wi64 (by omega) (by omega), Int.tmod_eq_emod_of_nonneg (by omega), Int.natCast_emod, Int.toNat_of_nonneg hn.1]
  rw [hk, wi64 (by omega) (by omega), gd_sl3 (by omega) (by omega) (by omega), gd_sl3 (by omega) (by omega) (by omega), gd_sl3 (by omega) (by omega) (by omega), full_pv.1, full_pv.2, gd_tt]
  dsimp only
  rw [show (((k : Int) + 1).toNat - 0) = k + 1 by omega, show ((k : Int).toNat - 0) = k by omega, show (((k : Int) + 1).toNat - (k : Int).toNat) = 1 by omega, show (k : Int).toNat = k by omega, List.drop_zero]
  have hi1 : ∀ x ∈ l.take (k + 1), 0 ≤ x.2.1 ∧ x.2.1 < 65536 := fun x hx => hl x (List.mem_of_mem_take hx)
  have hi2 : ∀ x ∈ l.take k, 0 ≤ x.2.1 ∧ x.2.1 < 65536 := fun x hx => hl x (List.mem_of_mem_take hx)
  have hi3 : ∀ x ∈ (l.drop k).take 1, 0 ≤ x.2.1 ∧ x.2.1 < 65536 := fun x hx => hl x (List.mem_of_mem_drop (List.mem_of_mem_take hx))
  have lt1 : (l.take (k + 1)).length = k + 1 := by rw [List.length_take]; omega
  have lt2 : (l.take k).length = k := by rw [List.length_take]; omega
  have a1 := do_pv (l.take (k + 1)) hi1 (by omega) hf (p := (1099511627776, 0, ())) (by decide) (by decide)
  rw [a1.1, a1.2, gd_tt]
  have t1 := doL_two (l.take (k + 1)) f (1099511627776, 0, ()) ((k : Int) + 2, mix, ()) hf (by rw [lt1]; dsimp only; omega) (by rw [lt1]; dsimp only; omega) (by decide) (by dsimp only; omega)
  by_cases e : (Sp.doL (l.take (k + 1)) f (1099511627776, 0, ())).2.2.1 = 0
  rotate_left
  · rw [cond_ntt e]
    rcases t1.2.2 with h | ⟨h, h'⟩
    · exact absurd h.1 e
    · rw [cond_ett h, h']
      rfl
  rw [cond_nff e]
  have hd : l.drop k = l[k] :: l.drop (k + 1) := List.drop_eq_getElem_cons hkl
  have htk : l.take (k + 1) = l.take k ++ [l[k]] := List.take_succ_eq_append_getElem hkl
  have hall : l = l.take k ++ (l[k] :: l.drop (k + 1)) := by rw [← hd, List.take_append_drop]
  have t2 := doL_two (l.take k) f (1099511627776, 0, ()) ((k : Int) + 1, mix, ()) hf (by rw [lt2]; dsimp only; omega) (by rw [lt2]; dsimp only; omega) (by decide) (by dsimp only; omega)
  have hsp := doL_app (l.take k) [l[k]] f (1099511627776, 0, ())
  rw [← htk] at hsp
  by_cases e2 : (Sp.doL (l.take k) f (1099511627776, 0, ())).2.2.1 = 0
  rotate_left
  · rw [if_neg e2] at hsp
    rw [hsp] at e
    exact absurd e e2
  rw [if_pos e2] at hsp
  rcases t2.2.2 with ⟨_, h4, hg⟩ | h
  rotate_left
  · rw [h.1] at e2; cases e2
  have t3 := doL_two (l.take k) f ((k : Int) + 1, mix, ()) (1099511627776, 0, ()) hf (by rw [lt2]; dsimp only; omega) (by rw [lt2]; dsimp only; omega) (by dsimp only; omega) (by decide)
  rcases t3.2.2 with ⟨h5, h6, hg2⟩ | h
  rotate_left
  · rw [t3.1, e2] at h; cases h.1
  have a2 := do_pv l hl (by omega) hf (p := ((k : Int) + 1, mix, ())) (by dsimp only; omega) (by dsimp only; omega)
  have a3 := do_pv (l.take k) hi2 (by omega) hf (p := ((k : Int) + 1, mix, ())) (by dsimp only; omega) (by dsimp only; omega)
  rw [a2.1, a2.2, gd_tt, a3.1, a3.2, gd_tt]
  generalize hB : Sp.doL (l.take k) f ((k : Int) + 1, mix, ()) = B at *
  have hq : B.2.1 = (1, mix, ()) := by
    rw [h6, lt2]
    congr 1
    dsimp only
    omega
  have hcut : Sp.doL l f ((k : Int) + 1, mix, ()) = Sp.opV B.1 l[k] (1, mix, ()) := by
    have := doL_app (l.take k) (l[k] :: l.drop (k + 1)) f ((k : Int) + 1, mix, ())
    rw [← hall, hB, if_pos h5, hq, Sp.doL] at this
    rw [this]
    have := opV_one (f := B.1) (o := l[k]) (p := (Sp.doL (l.take k) f (1099511627776, 0, ())).2.1) (by rw [h4, lt2]; dsimp only; omega) (by
      rw [hsp, Sp.doL, ← t3.2.1] at e
      by_cases e5 : (Sp.opV B.1 l[k] (Sp.doL (l.take k) f (1099511627776, 0, ())).2.1).2.2.1 = 0
      · exact e5
      · rw [if_neg e5] at e
        exact e) mix hg2
    rw [if_neg (by rw [this.1]; decide)]
  have ho := opV_one (f := B.1) (o := l[k]) (p := (Sp.doL (l.take k) f (1099511627776, 0, ())).2.1) (by rw [h4, lt2]; dsimp only; omega) (by
      rw [hsp, Sp.doL, ← t3.2.1] at e
      by_cases e5 : (Sp.opV B.1 l[k] (Sp.doL (l.take k) f (1099511627776, 0, ())).2.1).2.2.1 = 0
      · exact e5
      · rw [if_neg e5] at e
        exact e) mix hg2
  have a4 := do_pv ((l.drop k).take 1) hi3 (by rw [List.length_take]; omega) hg2 (p := B.2.1) (by rw [hq]; show (0 : Int) ≤ 1; decide) (by rw [hq]; show (1 : Int) ≤ 1099511627776; decide)
  have hlast : Sp.doL ((l.drop k).take 1) B.1 B.2.1 = Sp.opV B.1 l[k] (1, mix, ()) := by
    rw [hd, hq]
    show (if _ then _ else _ : RsT) = _
    rw [if_neg (by rw [ho.1]; decide)]
  rw [a4.1, a4.2, gd_tt, hlast, hcut, ho.1, ho.2.1, h5, hq, (same_pv _ ho.2.2).1, (same_pv _ ho.2.2).2]
  rfl
end Go.Ev
