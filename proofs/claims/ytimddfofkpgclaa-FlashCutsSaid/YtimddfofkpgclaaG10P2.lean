/- Helpers: functions of the program as Lean functions, and what they compute. No condition. -/
import Derived.Test.YtimddfofkpgclaaEvPart2
import Derived.Test.YtimddfofkpgclaaG10P0
import Derived.Test.YtimddfofkpgclaaEvPart3
import Derived.Test.YtimddfofkpgclaaG10P1
set_option maxRecDepth 10000
set_option linter.unusedVariables false
set_option linter.unusedSimpArgs false
namespace Go.Ev
open Go
set_option maxRecDepth 100000
set_option maxHeartbeats 4000000
set_option linter.unusedVariables false
noncomputable section

def sm_26 : Nat → Option Summ := fun f => bif Nat.beq f 16 then some s_16 else none
def T_26_49_0_0 (p0 : List Int) (p1 : Int) (p2 : Int) (p3 : List Int × List Int × Int × PUnit) : St := St.mk [CV.pure (Ty.slice (Ty.int IntKind.u32)) p0, CV.clo (44 : Nat) (CV.pure Ty.unit PUnit.unit), jk, jk, jk, jk, jk, CV.int IntKind.i64 p1, CV.int IntKind.i64 p2, jk, jk, jk, jk, jk, jk, jk, jk, jk, jk] [Blk.mem (CV.pure (Ty.pair (Ty.slice (Ty.int IntKind.u32)) (Ty.pair (Ty.slice (Ty.int IntKind.i64)) (Ty.pair (Ty.int IntKind.i64) Ty.unit))) p3)] (1 : Nat)
def X_26_49_0_0_0 (p2 : Int) (p3 : List Int × List Int × Int × PUnit) : St := St.mk [jk, jk, jk, jk, CV.int IntKind.i64 p2, jk, jk, jk, jk, jk, jk, jk, jk, jk, jk, jk, jk, jk, jk] [Blk.mem (CV.pure (Ty.pair (Ty.slice (Ty.int IntKind.u32)) (Ty.pair (Ty.slice (Ty.int IntKind.i64)) (Ty.pair (Ty.int IntKind.i64) Ty.unit))) p3)] (1 : Nat)
def X_26_49_0_0_1 (p3 : List Int × List Int × Int × PUnit) : St := St.mk [jk, jk, jk, jk, jk, jk, jk, jk, jk, jk, jk, jk, jk, jk, jk, jk, jk, jk, jk] [Blk.mem (CV.pure (Ty.pair (Ty.slice (Ty.int IntKind.u32)) (Ty.pair (Ty.slice (Ty.int IntKind.i64)) (Ty.pair (Ty.int IntKind.i64) Ty.unit))) p3)] (1 : Nat)
inductive Sp.E_26_49_0_0 where
  | e0 (p2 : Int) (p3 : List Int × List Int × Int × PUnit)
  | e1 (p3 : List Int × List Int × Int × PUnit)
def Sp.B_26_49_0_0 {R : Type} (r : Option Sp.E_26_49_0_0) (k0 : (Int) → (List Int × List Int × Int × PUnit) → Option R) (k1 : (List Int × List Int × Int × PUnit) → Option R) : Option R := match r with
  | none => none
  | some (.e0 p2 p3) => k0 p2 p3
  | some (.e1 p3) => k1 p3
def Sp.L_26_49_0_0 : Nat → (List Int) → (Int) → (Int) → (List Int × List Int × Int × PUnit) → Option Sp.E_26_49_0_0
  | 0, _, _, _, _ => none
  | m + 1, p0, p1, p2, p3 => bif decide (p2 < p1) then gd (inB p2 (List.length p0)) (bif List.getD p0 (Int.toNat p2) (0 : Int) != (4294967295 : Int) then some (Sp.E_26_49_0_0.e0 p2 p3) else Sp.L_26_49_0_0 m p0 p1 (IntKind.wrap IntKind.i64 (p2 + (1 : Int))) p3) else some (Sp.E_26_49_0_0.e1 p3)
def G_26_49_0_0 {R : Type} (p0 : List Int) (p1 : Int) (p2 : Int) (p3 : List Int × List Int × Int × PUnit) (k : Ex → St → Option R) : Option R := Sp.B_26_49_0_0 (Sp.L_26_49_0_0 FU p0 p1 p2 p3) (fun p2 p3 => k Ex.ret (X_26_49_0_0_0 p2 p3)) (fun p3 => k (Ex.exit (0 : Nat)) (X_26_49_0_0_1 p3))
def o_26_49_0_0 {R : Type} (G : (List Int) → (Int) → (Int) → (List Int × List Int × Int × PUnit) → (Ex → St → Option R) → Option R) : St → (Ex → St → Option R) → Option R := fun T k => match T.sl.getD 0 .junk, T.sl.getD 1 .junk, T.sl.getD 7 .junk, T.sl.getD 8 .junk, T.hp with
  | CV.pure (Ty.slice (Ty.int IntKind.u32)) p0, CV.clo (44 : Nat) (CV.pure Ty.unit PUnit.unit), CV.int IntKind.i64 p1, CV.int IntKind.i64 p2, ((Blk.mem (CV.pure (Ty.pair (Ty.slice (Ty.int IntKind.u32)) (Ty.pair (Ty.slice (Ty.int IntKind.i64)) (Ty.pair (Ty.int IntKind.i64) Ty.unit))) p3)) :: []) => gd (shapeOK T 19 [0, 1, 7, 8] (1 : Nat)) (G p0 p1 p2 p3 k)
  | _, _, _, _, _ => none
theorem o_26_49_0_0_inv {R : Type} {G : (List Int) → (Int) → (Int) → (List Int × List Int × Int × PUnit) → (Ex → St → Option R) → Option R} {T : St} {k : Ex → St → Option R} {r : R} (h : o_26_49_0_0 G T k = some r) : ∃ p0 p1 p2 p3, T = T_26_49_0_0 p0 p1 p2 p3 ∧ G p0 p1 p2 p3 k = some r := by
  unfold o_26_49_0_0 at h
  split at h
  · obtain ⟨hs, h'⟩ := gd_some h
    refine ⟨_, _, _, _, (st_of (asg := [(0, _), (1, _), (7, _), (8, _)]) hs ⟨by assumption, by assumption, by assumption, by assumption, trivial⟩ (by assumption)).trans ?_, h'⟩
    kernel_rfl
  · cases h
def O_26_49_0 {R : Type} : St → (Ex → St → Option R) → Option R := fun T k => o_26_49_0_0 G_26_49_0_0 T k
def g_26_49 {R : Type} : List CV → List Blk → (CV → List Blk → Option R) → Option R := evFnL sm_26 FU (ovr noO (evFn sm_26 fns FU 2)) (ir49_t O_26_49_0) ir49
def g_26_42 {R : Type} : List CV → List Blk → (CV → List Blk → Option R) → Option R := evFnL sm_26 FU (ovr (fun f' => bif Nat.beq f' 49 then some (g_26_49) else none) (evFn sm_26 fns FU 3)) .nil ir42
theorem body_26_49_0_0 {R : Type} (K0 : St → Option R) (K1 : Ex → St → Option R) (p0 : List Int) (p1 : Int) (p2 : Int) (p3 : List Int × List Int × Int × PUnit) : evLB (evCodeL sm_26 FU (ovr noO (evFn sm_26 fns FU 2)) .nil ir49_b0) (St.norm ir49_v0) (T_26_49_0_0 p0 p1 p2 p3) K0 K1 =
  bif decide (p2 < p1) then gd (inB p2 (List.length p0)) (bif List.getD p0 (Int.toNat p2) (0 : Int) != (4294967295 : Int) then K1 Ex.ret (X_26_49_0_0_0 p2 p3) else K0 (T_26_49_0_0 p0 p1 (IntKind.wrap IntKind.i64 (p2 + (1 : Int))) p3)) else K1 (Ex.exit (0 : Nat)) (X_26_49_0_0_1 p3) := by kernel_rfl
theorem Bgd_26_49_0_0 {R : Type} {c : Bool} {x : Option R} {y : Option Sp.E_26_49_0_0} {k0 : (Int) → (List Int × List Int × Int × PUnit) → Option R} {k1 : (List Int × List Int × Int × PUnit) → Option R} (h : x = Sp.B_26_49_0_0 y k0 k1) : gd c x = Sp.B_26_49_0_0 (gd c y) k0 k1 := by cases c; rfl; exact h
theorem Bcond_26_49_0_0 {R : Type} {c : Bool} {x x' : Option R} {y y' : Option Sp.E_26_49_0_0} {k0 : (Int) → (List Int × List Int × Int × PUnit) → Option R} {k1 : (List Int × List Int × Int × PUnit) → Option R} (h : x = Sp.B_26_49_0_0 y k0 k1) (h' : x' = Sp.B_26_49_0_0 y' k0 k1) : (bif c then x else x') = Sp.B_26_49_0_0 (bif c then y else y') k0 k1 := by cases c; exact h'; exact h
theorem loop_26_49_0_0 {R : Type} (k : Ex → St → Option R) : ∀ (m : Nat) (p0 : List Int) (p1 : Int) (p2 : Int) (p3 : List Int × List Int × Int × PUnit), evLoopN (evCodeL sm_26 FU (ovr noO (evFn sm_26 fns FU 2)) .nil ir49_b0) (St.norm ir49_v0) m (T_26_49_0_0 p0 p1 p2 p3) k = Sp.B_26_49_0_0 (Sp.L_26_49_0_0 m p0 p1 p2 p3) (fun p2 p3 => k Ex.ret (X_26_49_0_0_0 p2 p3)) (fun p3 => k (Ex.exit (0 : Nat)) (X_26_49_0_0_1 p3))
  | 0, _, _, _, _ => rfl
  | m + 1, p0, p1, p2, p3 => by
    rw [evLoopN_succ, body_26_49_0_0, Sp.L_26_49_0_0]
    repeat' first | apply Bgd_26_49_0_0 | apply Bcond_26_49_0_0 | exact loop_26_49_0_0 k m _ _ _ _ | rfl
theorem ok_26_49_0_0 {R : Type} (T : St) (k : Ex → St → Option R) (r : R) (h0 : o_26_49_0_0 G_26_49_0_0 T k = some r) : evLoopN (evCode sm_26 FU (evFn sm_26 fns FU 2) ir49_b0) (St.norm ir49_v0) FU T k = some r := by
  obtain ⟨p0, p1, p2, p3, rfl, h⟩ := o_26_49_0_0_inv h0
  refine evLoopN_L (t := .nil) noO_ok trivial _ _ _ _ ?_
  rw [loop_26_49_0_0]
  exact h
theorem OK_26_49_0 {R : Type} (T : St) (k : Ex → St → Option R) (r : R) (h : O_26_49_0 T k = some r) : evLoopN (evCode sm_26 FU (evFn sm_26 fns FU 2) ir49_b0) (St.norm ir49_v0) FU T k = some r := ok_26_49_0_0 T k r h
theorem g_26_49_ok {R : Type} (args : List CV) (hp : List Blk) (k : CV → List Blk → Option R) (r : R) (h : g_26_49 args hp k = some r) : evFn sm_26 fns FU 3 49 args hp k = some r :=
  evFnL_sound (fn := ir49) (t := (ir49_t O_26_49_0)) (o := noO) rfl noO_ok (ir49_tok (fun T k r => OK_26_49_0 T k r)) h
theorem ov_26_42_ok {R : Type} : OvrOK (R := R) (fun f' => bif Nat.beq f' 49 then some (g_26_49) else none) (evFn sm_26 fns FU 3) := by
  intro f' g h args hp k r hg
  dsimp only at h
  by_cases h49 : f' = 49
  · subst h49
    injection h with h
    subst h
    exact evFn_le 0 (g_26_49_ok _ _ _ _ hg)
  rw [nbeq_ne h49, cond_false] at h
  cases h
theorem g_26_42_ok {R : Type} (args : List CV) (hp : List Blk) (k : CV → List Blk → Option R) (r : R) (h : g_26_42 args hp k = some r) : evFn sm_26 fns FU 4 42 args hp k = some r :=
  evFnL_sound (fn := ir42) (t := .nil) (o := (fun f' => bif Nat.beq f' 49 then some (g_26_49) else none)) rfl ov_26_42_ok trivial h
theorem ov_26_26_ok {R : Type} : OvrOK (R := R) (fun f' => bif Nat.beq f' 42 then some (g_26_42) else none) (evFn sm_26 fns FU 4) := by
  intro f' g h args hp k r hg
  dsimp only at h
  by_cases h42 : f' = 42
  · subst h42
    injection h with h
    subst h
    exact evFn_le 0 (g_26_42_ok _ _ _ _ hg)
  rw [nbeq_ne h42, cond_false] at h
  cases h
def F_26 (a0 : ((List Int) × ((List Int) × (Int × Unit)))) (a1 : Int) : Option (Bool × Int × Unit) :=
  gd (Sp.p_16 a0) (bif !Prod.fst (Sp.v_16 a0) then some (false, (1 : Int), PUnit.unit) else bif decide (a1 < (0 : Int)) then some (false, (2 : Int), PUnit.unit) else bif decide (a1 ≥ (↑(List.length (Prod.fst (Prod.snd a0))) : Int)) then some (false, (2 : Int), PUnit.unit) else gd (sl3 (IntKind.wrap IntKind.i64 (a1 * (64 : Int))) (IntKind.wrap IntKind.i64 (IntKind.wrap IntKind.i64 (a1 + (1 : Int)) * (64 : Int))) (↑(List.length (Prod.fst a0)) : Int)) (Sp.B_26_49_0_0 (Sp.L_26_49_0_0 (4611686018427387904 : Nat) (List.take (Int.toNat (IntKind.wrap IntKind.i64 (IntKind.wrap IntKind.i64 (a1 + (1 : Int)) * (64 : Int))) - Int.toNat (IntKind.wrap IntKind.i64 (a1 * (64 : Int)))) (List.drop (Int.toNat (IntKind.wrap IntKind.i64 (a1 * (64 : Int)))) (Prod.fst a0))) (↑(List.length (List.take (Int.toNat (IntKind.wrap IntKind.i64 (IntKind.wrap IntKind.i64 (a1 + (1 : Int)) * (64 : Int))) - Int.toNat (IntKind.wrap IntKind.i64 (a1 * (64 : Int)))) (List.drop (Int.toNat (IntKind.wrap IntKind.i64 (a1 * (64 : Int)))) (Prod.fst a0)))) : Int) (0 : Int) a0) (fun (y11 : Int) (y12 : List Int × List Int × Int × PUnit) => some (!decide (y11 ≥ (0 : Int)), (0 : Int), PUnit.unit)) fun (y13 : List Int × List Int × Int × PUnit) => some (true, (0 : Int), PUnit.unit)))
theorem fn_26 (a0 : ((List Int) × ((List Int) × (Int × Unit)))) (a1 : Int) : evFnL sm_26 FU (ovr (fun f' => bif Nat.beq f' 42 then some (g_26_42) else none) (evFn sm_26 fns FU 4)) .nil ir26 (ofH [(.pair (.slice (.int .u32)) (.pair (.slice (.int .i64)) (.pair (.int .i64) .unit))), (.int .i64)] (a0, a1, ())) [] (pureK [.bool, (.int .i64)]) = F_26 a0 a1 := by kernel_rfl
def Sp.p_26 (a0 : ((List Int) × ((List Int) × (Int × Unit)))) (a1 : Int) : Bool := (F_26 a0 a1).isSome
def Sp.v_26 (a0 : ((List Int) × ((List Int) × (Int × Unit)))) (a1 : Int) : Bool × Int × Unit := (F_26 a0 a1).getD (dfH [.bool, (.int .i64)])
def s_26 : Summ := shN [(.pair (.slice (.int .u32)) (.pair (.slice (.int .i64)) (.pair (.int .i64) .unit))), (.int .i64)] [.bool, (.int .i64)] (fun x => Sp.p_26 x.1 x.2.1) (fun x => Sp.v_26 x.1 x.2.1)
theorem pv_26 (a0 : ((List Int) × ((List Int) × (Int × Unit)))) (a1 : Int) {y : Bool × Int × Unit} (h : F_26 a0 a1 = some y) : Sp.p_26 a0 a1 = true ∧ Sp.v_26 a0 a1 = y := ⟨by rw [Sp.p_26, h]; rfl, by rw [Sp.v_26, h]; rfl⟩
theorem run_26 (x : HDen [(.pair (.slice (.int .u32)) (.pair (.slice (.int .i64)) (.pair (.int .i64) .unit))), (.int .i64)]) (y : HDen [.bool, (.int .i64)]) (h : F_26 x.1 x.2.1 = some y) : evFn sm_26 fns FU 5 26 (ofH [(.pair (.slice (.int .u32)) (.pair (.slice (.int .i64)) (.pair (.int .i64) .unit))), (.int .i64)] x) [] (pureK [.bool, (.int .i64)]) = some y :=
  evFnL_sound (fn := ir26) (t := .nil) (o := (fun f' => bif Nat.beq f' 42 then some (g_26_42) else none)) rfl ov_26_26_ok trivial ((fn_26 _ _).trans h)
end
end Go.Ev
set_option linter.unusedSimpArgs false
set_option linter.unusedVariables false
namespace Go.Ev
open Go
set_option maxRecDepth 100000
set_option maxHeartbeats 4000000
abbrev FlT := List Int × List Int × Int × Unit
abbrev PwT := Int × Int × Unit
abbrev OpT := Bool × Int × Int × Unit
abbrev RsT := FlT × PwT × Int × Unit
namespace Sp
def wb (f : FlT) (j : Nat) : Bool := decide (f.2.1.getD j 0 < 0) || decide (f.2.1.getD j 0 > f.2.2.1)
def fv (f : FlT) : Bool := decide (1 ≤ f.2.1.length) && (decide (f.2.1.length ≤ 64) && (decide (f.1.length = f.2.1.length * 64) && (decide (1 ≤ f.2.2.1) && (decide (f.2.2.1 ≤ 1000000) && (fnd (wb f) f.2.1.length 0).isNone))))
def pw (f : FlT) (k : Nat) (w bits : Int) : FlT := (f.1.set k (andnI .u32 (f.1.getD k 0) (andnI .u32 bits w)), f.2.1, f.2.2.1, ())
def prg (f : FlT) (k : Nat) (w : Int) (p : PwT) : RsT := if p.1 = 0 then (f, p, 18, ()) else if p.1 = 1 then (pw f k w p.2.1, (0, p.2), 18, ()) else (pw f k w 4294967295, (p.1 - 1, p.2), 0, ())
def orW (ws : List Int) (o : Nat) (bits : Int) (n : Nat) : List Int := ws.mapIdx (fun i x => if o ≤ i ∧ i < o + n then orI .u32 x bits else x)
def ew (f : FlT) (s : Nat) (bits : Int) : FlT := (orW f.1 (s * 64) bits 64, f.2.1.set s (f.2.1.getD s 0 + 1), f.2.2.1, ())
def ers (f : FlT) (s : Nat) (p : PwT) : RsT := if f.2.1.getD s 0 = f.2.2.1 then (([], [], 0, ()), (0, 0, ()), 19, ()) else if p.1 = 0 then (f, p, 18, ()) else if p.1 = 1 then (ew f s p.2.1, (0, p.2), 18, ()) else (ew f s 4294967295, (p.1 - 1, p.2), 0, ())
def shp (f g : FlT) : Bool := decide (f.1.length = g.1.length) && (decide (f.2.1.length = g.2.1.length) && decide (f.2.2.1 = g.2.2.1))
end Sp
theorem aw : F_11 = some (true, ()) := by kernel_rfl
theorem aw_pv : Sp.p_11 = true ∧ Sp.v_11 = (true, ()) := pv_11 aw
theorem full_pv : Sp.p_18 = true ∧ Sp.v_18 = ((1099511627776, 0, ()), ()) := pv_18 rfl
theorem few_ok (f : FlT) : F_12 f = some (decide (f.2.1.length ≤ 70) && decide (f.1.length ≤ 4480), ()) := by
  unfold F_12
  rw [show decide ((f.1.length : Int) ≤ 4480) = decide (f.1.length ≤ 4480) from decide_eq_decide.2 (by omega)]
  by_cases h : (f.2.1.length : Int) ≤ 70
  · rw [cond_dtt h, decide_eq_true (p := f.2.1.length ≤ 70) (by omega), Bool.true_and]
  · rw [cond_dff h, decide_eq_false (p := f.2.1.length ≤ 70) (by omega), Bool.false_and]
theorem few_pv (f : FlT) : Sp.p_12 f = true ∧ Sp.v_12 f = (decide (f.2.1.length ≤ 70) && decide (f.1.length ≤ 4480), ()) := pv_12 f (few_ok f)
theorem shp_ok (f g : FlT) : F_23 f g = some (Sp.shp f g, ()) := by
  unfold F_23 Sp.shp
  by_cases h : f.1.length = g.1.length
  · rw [cond_ett (by omega), decide_eq_true h, Bool.true_and]
    by_cases h : f.2.1.length = g.2.1.length
    · rw [cond_ett (by omega), decide_eq_true h, Bool.true_and]
      by_cases h : f.2.2.1 = g.2.2.1
      · rw [decide_eq_true h, beq_iff_eq.2 h]
      · rw [decide_eq_false h, beq_eq_false_iff_ne.2 h]
    · rw [cond_eff (by omega), decide_eq_false h, Bool.false_and]
  · rw [cond_eff (by omega), decide_eq_false h, Bool.false_and]
theorem shp_pv (f g : FlT) : Sp.p_23 f g = true ∧ Sp.v_23 f g = (Sp.shp f g, ()) := pv_23 f g (shp_ok f g)
theorem fv_iff {f : FlT} : Sp.fv f = true ↔ 1 ≤ f.2.1.length ∧ f.2.1.length ≤ 64 ∧ f.1.length = f.2.1.length * 64 ∧ 1 ≤ f.2.2.1 ∧ f.2.2.1 ≤ 1000000 ∧ ∀ j, j < f.2.1.length → 0 ≤ f.2.1.getD j 0 ∧ f.2.1.getD j 0 ≤ f.2.2.1 := by
  simp only [Sp.fv, Bool.and_eq_true, decide_eq_true_eq, Option.isNone_iff_eq_none, fnd_none, Sp.wb, Bool.or_eq_false_iff, decide_eq_false_iff_not]
  constructor
  · rintro ⟨a, b, c, d, e, g⟩
    refine ⟨a, b, c, d, e, fun j hj => ?_⟩
    have := g j (by omega) (by omega)
    omega
  · rintro ⟨a, b, c, d, e, g⟩
    refine ⟨a, b, c, d, e, fun j _ hj => ?_⟩
    have := g j (by omega)
    omega
theorem fv_ok (f : FlT) : F_16 f = some (Sp.fv f, ()) := by
  unfold F_16 Sp.fv
  by_cases h1 : (f.2.1.length : Int) < 1
  · rw [cond_dtt h1, decide_eq_false (by omega)]; rfl
  rw [cond_dff h1, decide_eq_true (p := 1 ≤ f.2.1.length) (by omega), Bool.true_and]
  by_cases h2 : (f.2.1.length : Int) > 64
  · rw [cond_dtt h2, decide_eq_false (by omega)]; rfl
  rw [cond_dff h2, decide_eq_true (p := f.2.1.length ≤ 64) (by omega), Bool.true_and, wi64 (by omega) (by omega)]
  by_cases h3 : (f.1.length : Int) = (f.2.1.length : Int) * 64
  rotate_left
  · rw [cond_ntt h3, decide_eq_false (p := f.1.length = _) (by omega)]; rfl
  rw [cond_nff h3, decide_eq_true (p := f.1.length = _) (by omega), Bool.true_and]
  by_cases h4 : f.2.2.1 < 1
  · rw [cond_dtt h4, decide_eq_false (by omega)]; rfl
  rw [cond_dff h4, decide_eq_true (p := 1 ≤ f.2.2.1) (by omega), Bool.true_and]
  by_cases h5 : f.2.2.1 > 1000000
  · rw [cond_dtt h5, decide_eq_false (by omega)]; rfl
  rw [cond_dff h5, decide_eq_true (p := f.2.2.1 ≤ 1000000) (by omega), Bool.true_and]
  have hf := find0 (fun m i => Sp.L_16_47_0_0 m f.2.1 f.2.1.length i f) (n := f.2.1.length) (Sp.wb f) (ex := fun j => some (.e0 (j : Int) f)) (e1 := some (.e1 f)) (by omega) (fun m j hj => by
    show Sp.L_16_47_0_0 (m + 1) f.2.1 f.2.1.length j f = bif Sp.wb f j then some (.e0 (j : Int) f) else Sp.L_16_47_0_0 m f.2.1 f.2.1.length ((j + 1 : Nat) : Int) f
    rw [Sp.L_16_47_0_0, cond_dtt (by omega), gd_inB (by omega) (by omega), Int.toNat_natCast, wi64 (by omega) (by omega)]
    unfold Sp.wb
    push_cast
    grind) (fun m => by
    show Sp.L_16_47_0_0 (m + 1) f.2.1 f.2.1.length f.2.1.length f = _
    rw [Sp.L_16_47_0_0, cond_dff (by omega)])
  rw [hf]
  cases fnd (Sp.wb f) f.2.1.length 0 with
  | none => rfl
  | some k =>
    simp only [Sp.B_16_47_0_0, Option.isNone]
    rw [decide_eq_true (by omega)]
    rfl
theorem fv_pv (f : FlT) : Sp.p_16 f = true ∧ Sp.v_16 f = (Sp.fv f, ()) := pv_16 f (fv_ok f)
theorem chk_pv {f : FlT} {p : PwT} {a n : Int} (h : Sp.fv f = true) (h0 : 0 ≤ p.1) (h1 : p.1 ≤ 1099511627776) (h2 : 0 ≤ a) (h3 : a < n) : Sp.p_36 f p a n = true ∧ Sp.v_36 f p a n = (0, ()) := by
  refine pv_36 f p a n ?_
  unfold F_36
  rw [(fv_pv f).1, (fv_pv f).2, gd_tt, h, Bool.not_true, cond_f, cond_dff (by omega), cond_dff (by omega), cond_dff (by omega), cond_dff (by omega)]
theorem prg_ok {f : FlT} {p : PwT} {k : Nat} {w : Int} (h : Sp.fv f = true) (h0 : 0 ≤ p.1) (h1 : p.1 ≤ 1099511627776) (h2 : k < f.1.length) : F_19 f k w p = some (Sp.prg f k w p) := by
  have hv := fv_iff.1 h
  unfold F_19 Sp.prg Sp.pw
  rw [(chk_pv h h0 h1 (by omega) (by omega)).1, (chk_pv h h0 h1 (by omega) (by omega)).2, gd_tt, cond_nff rfl, gd_room (by omega) (by omega), gd_room (by omega) (by omega)]
  simp only [gd_inB (show (0 : Int) ≤ (k : Int) by omega) (show (k : Int) < ((f.1.length : Nat) : Int) by omega), Int.toNat_natCast, Bool.and_true, gd_dec h2]
  by_cases e0 : p.1 = 0
  · rw [cond_ett e0, if_pos e0]
  rw [cond_eff e0, if_neg e0]
  by_cases e1 : p.1 = 1
  · rw [cond_ett e1, if_pos e1]
  rw [cond_eff e1, if_neg e1, wi64 (by omega) (by omega)]
theorem prg_pv {f : FlT} {p : PwT} {k : Nat} {w : Int} (h : Sp.fv f = true) (h0 : 0 ≤ p.1) (h1 : p.1 ≤ 1099511627776) (h2 : k < f.1.length) : Sp.p_19 f k w p = true ∧ Sp.v_19 f k w p = Sp.prg f k w p := pv_19 f k w p (prg_ok h h0 h1 h2)
theorem orW_len (ws : List Int) (o : Nat) (b : Int) (n : Nat) : (Sp.orW ws o b n).length = ws.length := by simp [Sp.orW]
theorem orW_get (ws : List Int) (o : Nat) (b : Int) (n i : Nat) (h : i < ws.length) : (Sp.orW ws o b n).getD i 0 = if o ≤ i ∧ i < o + n then Sp.orI .u32 (ws.getD i 0) b else ws.getD i 0 := by
  have hl : i < (Sp.orW ws o b n).length := by rw [orW_len]; exact h
  rw [getD_at 0 hl, getD_at 0 h]
  simp [Sp.orW]
theorem orW_zero (ws : List Int) (o : Nat) (b : Int) : Sp.orW ws o b 0 = ws := by
  refine list_ext 0 (orW_len ..) (fun j hj => ?_)
  rw [orW_len] at hj
  rw [orW_get _ _ _ _ _ hj, if_neg (by omega)]
theorem getD_set {α : Type} (l : List α) (i j : Nat) (x d : α) (h : i < l.length) : (l.set i x).getD j d = if i = j then x else l.getD j d := by
  simp only [List.getD_eq_getElem?_getD, List.getElem?_set]
  split
  · simp [h]
  · rfl
theorem orW_succ (ws : List Int) (o : Nat) (b : Int) (n : Nat) (h : o + n < ws.length) : (Sp.orW ws o b n).set (o + n) (Sp.orI .u32 ((Sp.orW ws o b n).getD (o + n) 0) b) = Sp.orW ws o b (n + 1) := by
  refine list_ext 0 (by rw [List.length_set, orW_len, orW_len]) (fun j hj => ?_)
  rw [List.length_set, orW_len] at hj
  rw [getD_set _ _ _ _ _ (by rw [orW_len]; exact h), orW_get _ _ _ _ _ hj, orW_get _ _ _ _ _ hj, orW_get _ _ _ _ _ h]
  split
  · subst j
    rw [if_neg (by omega), if_pos (by omega)]
  · by_cases hh : o ≤ j ∧ j < o + n
    · rw [if_pos hh, if_pos (by omega)]
    · rw [if_neg hh, if_neg (by omega)]
theorem ers_ok {f : FlT} {p : PwT} {s : Nat} (h : Sp.fv f = true) (h0 : 0 ≤ p.1) (h1 : p.1 ≤ 1099511627776) (h2 : s < f.2.1.length) : F_28 f s p = some (Sp.ers f s p) := by
  have hv := fv_iff.1 h
  unfold F_28 Sp.ers Sp.ew
  rw [(chk_pv h h0 h1 (by omega) (by omega)).1, (chk_pv h h0 h1 (by omega) (by omega)).2, gd_tt, cond_nff rfl, gd_inB (by omega) (by omega), Int.toNat_natCast]
  by_cases e : f.2.1.getD s 0 = f.2.2.1
  · rw [cond_ett e, if_pos e]
  rw [cond_eff e, if_neg e, gd_room (by omega) (by omega), gd_room (by omega) (by omega)]
  have hb := hv.2.2.2.2.2 s h2
  by_cases e0 : p.1 = 0
  · rw [cond_ett e0, if_pos e0]
  rw [cond_eff e0, if_neg e0, wi64 (n := (s : Int) + 1) (by omega) (by omega), wi64 (n := (s : Int) * 64) (by omega) (by omega), wi64 (n := ((s : Int) + 1) * 64) (by omega) (by omega), gd_sl3 (by omega) (by omega) (by omega),
    show (((s : Int) + 1) * 64).toNat - ((s : Int) * 64).toNat = 64 by omega, show ((s : Int) * 64).toNat = s * 64 by omega]
  have hr : ∀ (b : Int) (p5 : FlT) (p6 : Int) (p7 : PwT) (p8 : Int × PUnit) (p9 : PwT) (p10 : FlT) (p11 : PwT) (p12 : Int × PUnit) (p13 : PwT) (p15 : List Int) (p16 p17 : Int × PUnit), Sp.L_28_45_0_0 4611686018427387904 b (s * 64) 64 ((64 : Nat) : Int) 0 p5 p6 p7 p8 p9 p10 p11 p12 p13 f.1 p15 p16 p17 = some (.e0 p5 p6 p7 p8 p9 p10 p11 p12 p13 (Sp.orW f.1 (s * 64) b 64) p15 p16 p17) := by
    intro b p5 p6 p7 p8 p9 p10 p11 p12 p13 p15 p16 p17
    have := run0 (fun m i ws => Sp.L_28_45_0_0 m b (s * 64) 64 ((64 : Nat) : Int) i p5 p6 p7 p8 p9 p10 p11 p12 p13 ws p15 p16 p17) (n := 64) (fun j => Sp.orW f.1 (s * 64) b j) (r := some (.e0 p5 p6 p7 p8 p9 p10 p11 p12 p13 (Sp.orW f.1 (s * 64) b 64) p15 p16 p17)) (by omega) (fun m j hj => by
      show Sp.L_28_45_0_0 (m + 1) b (s * 64) 64 ((64 : Nat) : Int) (j : Int) p5 p6 p7 p8 p9 p10 p11 p12 p13 (Sp.orW f.1 (s * 64) b j) p15 p16 p17 = _
      rw [Sp.L_28_45_0_0, cond_dtt (by omega)]
      simp only [gd_inB (show (0 : Int) ≤ (j : Int) by omega) (show (j : Int) < ((64 : Nat) : Int) by omega), Int.toNat_natCast, Bool.and_true, orW_len, gd_dec (show s * 64 + j < f.1.length by omega)]
      rw [orW_succ _ _ _ _ (by omega), wi64 (by omega) (by omega)]
      push_cast
      rfl) (fun m => by
      show Sp.L_28_45_0_0 (m + 1) b (s * 64) 64 ((64 : Nat) : Int) ((64 : Nat) : Int) p5 p6 p7 p8 p9 p10 p11 p12 p13 (Sp.orW f.1 (s * 64) b 64) p15 p16 p17 = _
      rw [Sp.L_28_45_0_0, cond_dff (by omega)])
    rw [orW_zero] at this
    exact this
  simp only [hr, Sp.B_28_45_0_0]
  simp only [gd_inB (show (0 : Int) ≤ (s : Int) by omega) (show (s : Int) < ((f.2.1.length : Nat) : Int) by omega), Int.toNat_natCast, Bool.and_true, gd_dec h2]
  rw [wi64 (n := f.2.1.getD s 0 + 1) (by omega) (by omega)]
  by_cases e1 : p.1 = 1
  · rw [cond_ett e1, if_pos e1]
  rw [cond_eff e1, if_neg e1, wi64 (by omega) (by omega), gd_sl3 (by omega) (by omega) (by omega)]
theorem ers_pv {f : FlT} {p : PwT} {s : Nat} (h : Sp.fv f = true) (h0 : 0 ≤ p.1) (h1 : p.1 ≤ 1099511627776) (h2 : s < f.2.1.length) : Sp.p_28 f s p = true ∧ Sp.v_28 f s p = Sp.ers f s p := pv_28 f s p (ers_ok h h0 h1 h2)
theorem same_pv (f : FlT) (h : Sp.fv f = true) : Sp.p_15 f f = true ∧ Sp.v_15 f f = (true, ()) := by
  have hv := fv_iff.1 h
  refine pv_15 f f ?_
  unfold F_15
  rw [cond_nff rfl, cond_nff rfl, cond_nff rfl]
  have h1 := run0 (fun m i (_ : Unit) => Sp.L_15_0 m i f f) (n := f.1.length) (fun _ => ()) (r := some (.e1 f f)) (by omega) (fun m j hj => by
    show Sp.L_15_0 (m + 1) (j : Int) f f = Sp.L_15_0 m ((j + 1 : Nat) : Int) f f
    rw [Sp.L_15_0, cond_dtt (by omega), gd_inB (by omega) (by omega), gd_inB (by omega) (by omega), cond_nff rfl, wi64 (by omega) (by omega)]
    push_cast
    rfl) (fun m => by
    show Sp.L_15_0 (m + 1) f.1.length f f = _
    rw [Sp.L_15_0, cond_dff (by omega)])
  have h2 := run0 (fun m i (_ : Unit) => Sp.L_15_1 m i f f) (n := f.2.1.length) (fun _ => ()) (r := some .e1) (by omega) (fun m j hj => by
    show Sp.L_15_1 (m + 1) (j : Int) f f = Sp.L_15_1 m ((j + 1 : Nat) : Int) f f
    rw [Sp.L_15_1, cond_dtt (by omega), gd_inB (by omega) (by omega), gd_inB (by omega) (by omega), cond_nff rfl, wi64 (by omega) (by omega)]
    push_cast
    rfl) (fun m => by
    show Sp.L_15_1 (m + 1) f.2.1.length f f = _
    rw [Sp.L_15_1, cond_dff (by omega)])
  have e1 : Sp.L_15_0 4611686018427387904 0 f f = _ := h1
  have e2 : Sp.L_15_1 4611686018427387904 0 f f = _ := h2
  rw [e1]
  simp only [Sp.B_15_0]
  rw [e2]
  rfl
end Go.Ev
namespace Go.Ev
open Go
set_option maxRecDepth 100000
set_option maxHeartbeats 4000000
set_option linter.unusedVariables false
noncomputable section

def sm_30 : Nat → Option Summ := fun f => bif Nat.beq f 19 then some s_19 else bif Nat.beq f 23 then some s_23 else bif Nat.beq f 28 then some s_28 else none
def T_30_1 (p0 : Int) (p1 : List (Bool × Int × Int × PUnit)) (p2 : Int) (p3 : Int) (p4 : List Int × List Int × Int × PUnit) (p5 : Int × Int × PUnit) (p6 : Int × PUnit) (p7 : List Int) (p8 : List Int) (p9 : Int × Int × PUnit) (p10 : List Int × List Int × Int × PUnit) : St := St.mk [jk, jk, jk, CV.ptr (0 : Nat) [], jk, CV.ptr (1 : Nat) [], CV.ptr (2 : Nat) [], CV.ptr (5 : Nat) [], jk, jk, jk, CV.ptr (6 : Nat) [], CV.int IntKind.i64 p0, jk, CV.pure (Ty.slice (Ty.pair Ty.bool (Ty.pair (Ty.int IntKind.u16) (Ty.pair (Ty.int IntKind.u32) Ty.unit)))) p1, CV.int IntKind.i64 p2, CV.int IntKind.i64 p3, jk, jk, jk, jk, jk, jk, jk, jk, jk, jk, jk, jk, jk, jk, jk, jk, jk, jk, jk, jk, jk, jk, jk, jk, jk, jk, jk, jk, jk, jk, jk, jk, jk, jk, jk, jk, jk, jk, jk, jk, jk, jk, jk, jk, jk, jk] [Blk.mem (CV.pure (Ty.pair (Ty.slice (Ty.int IntKind.u32)) (Ty.pair (Ty.slice (Ty.int IntKind.i64)) (Ty.pair (Ty.int IntKind.i64) Ty.unit))) p4), Blk.mem (CV.pure (Ty.pair (Ty.int IntKind.i64) (Ty.pair (Ty.int IntKind.u32) Ty.unit)) p5), Blk.mem (CV.pair (CV.whole (3 : Nat)) (CV.pair (CV.whole (4 : Nat)) (CV.pure (Ty.pair (Ty.int IntKind.i64) Ty.unit) p6))), Blk.vec (34 : Nat) (Ty.int IntKind.u32) p7, Blk.vec (3 : Nat) (Ty.int IntKind.i64) p8, Blk.mem (CV.pure (Ty.pair (Ty.int IntKind.i64) (Ty.pair (Ty.int IntKind.u32) Ty.unit)) p9), Blk.mem (CV.pure (Ty.pair (Ty.slice (Ty.int IntKind.u32)) (Ty.pair (Ty.slice (Ty.int IntKind.i64)) (Ty.pair (Ty.int IntKind.i64) Ty.unit))) p10)] (0 : Nat)
def X_30_1_0 (p0 : Int) (p5 : Int × Int × PUnit) (p10 : List Int × List Int × Int × PUnit) : St := St.mk [jk, jk, jk, jk, jk, jk, CV.ptr (0 : Nat) [], CV.ptr (1 : Nat) [], CV.int IntKind.i64 p0, jk, jk, jk, jk, jk, jk, jk, jk, jk, jk, jk, jk, jk, jk, jk, jk, jk, jk, jk, jk, jk, jk, jk, jk, jk, jk, jk, jk, jk, jk, jk, jk, jk, jk, jk, jk, jk, jk, jk, jk, jk, jk, jk, jk, jk, jk, jk, jk, jk, jk, jk, jk, jk, jk] [Blk.mem (CV.pure (Ty.pair (Ty.slice (Ty.int IntKind.u32)) (Ty.pair (Ty.slice (Ty.int IntKind.i64)) (Ty.pair (Ty.int IntKind.i64) Ty.unit))) p10), Blk.mem (CV.pure (Ty.pair (Ty.int IntKind.i64) (Ty.pair (Ty.int IntKind.u32) Ty.unit)) p5)] (0 : Nat)
def X_30_1_1 (p5 : Int × Int × PUnit) (p10 : List Int × List Int × Int × PUnit) : St := St.mk [jk, jk, jk, jk, jk, jk, CV.ptr (0 : Nat) [], CV.ptr (1 : Nat) [], CV.int IntKind.i64 (3 : Int), jk, jk, jk, jk, jk, jk, jk, jk, jk, jk, jk, jk, jk, jk, jk, jk, jk, jk, jk, jk, jk, jk, jk, jk, jk, jk, jk, jk, jk, jk, jk, jk, jk, jk, jk, jk, jk, jk, jk, jk, jk, jk, jk, jk, jk, jk, jk, jk, jk, jk, jk, jk, jk, jk] [Blk.mem (CV.pure (Ty.pair (Ty.slice (Ty.int IntKind.u32)) (Ty.pair (Ty.slice (Ty.int IntKind.i64)) (Ty.pair (Ty.int IntKind.i64) Ty.unit))) p10), Blk.mem (CV.pure (Ty.pair (Ty.int IntKind.i64) (Ty.pair (Ty.int IntKind.u32) Ty.unit)) p5)] (0 : Nat)
def X_30_1_2 (p0 : Int) (p1 : List (Bool × Int × Int × PUnit)) (p2 : Int) (p3 : Int) (p4 : List Int × List Int × Int × PUnit) (p5 : Int × Int × PUnit) (p6 : Int × PUnit) (p7 : List Int) (p8 : List Int) (p9 : Int × Int × PUnit) (p10 : List Int × List Int × Int × PUnit) : St := St.mk [jk, jk, jk, CV.ptr (0 : Nat) [], jk, CV.ptr (1 : Nat) [], CV.ptr (2 : Nat) [], CV.ptr (5 : Nat) [], jk, jk, jk, CV.ptr (6 : Nat) [], CV.int IntKind.i64 p0, jk, CV.pure (Ty.slice (Ty.pair Ty.bool (Ty.pair (Ty.int IntKind.u16) (Ty.pair (Ty.int IntKind.u32) Ty.unit)))) p1, CV.int IntKind.i64 p2, CV.int IntKind.i64 p3, jk, jk, jk, jk, jk, jk, jk, jk, jk, jk, jk, jk, jk, jk, jk, jk, jk, jk, jk, jk, jk, jk, jk, jk, jk, jk, jk, jk, jk, jk, jk, CV.int IntKind.i64 p0, CV.bool false, jk, jk, jk, CV.pure (Ty.pair (Ty.slice (Ty.int IntKind.u32)) (Ty.pair (Ty.slice (Ty.int IntKind.i64)) (Ty.pair (Ty.int IntKind.i64) Ty.unit))) p4, CV.pure (Ty.pair (Ty.slice (Ty.int IntKind.u32)) (Ty.pair (Ty.slice (Ty.int IntKind.i64)) (Ty.pair (Ty.int IntKind.i64) Ty.unit))) p10, CV.bool (Prod.fst (Sp.v_23 p4 p10)), CV.bool false, jk, jk, CV.pure (Ty.pair (Ty.slice (Ty.int IntKind.u32)) (Ty.pair (Ty.slice (Ty.int IntKind.i64)) (Ty.pair (Ty.int IntKind.i64) Ty.unit))) p10, jk, jk, jk] [Blk.mem (CV.pure (Ty.pair (Ty.slice (Ty.int IntKind.u32)) (Ty.pair (Ty.slice (Ty.int IntKind.i64)) (Ty.pair (Ty.int IntKind.i64) Ty.unit))) p10), Blk.mem (CV.pure (Ty.pair (Ty.int IntKind.i64) (Ty.pair (Ty.int IntKind.u32) Ty.unit)) p5), Blk.mem (CV.pair (CV.whole (3 : Nat)) (CV.pair (CV.whole (4 : Nat)) (CV.pure (Ty.pair (Ty.int IntKind.i64) Ty.unit) p6))), Blk.vec (34 : Nat) (Ty.int IntKind.u32) p7, Blk.vec (3 : Nat) (Ty.int IntKind.i64) p8, Blk.mem (CV.pure (Ty.pair (Ty.int IntKind.i64) (Ty.pair (Ty.int IntKind.u32) Ty.unit)) p9), Blk.mem (CV.pure (Ty.pair (Ty.slice (Ty.int IntKind.u32)) (Ty.pair (Ty.slice (Ty.int IntKind.i64)) (Ty.pair (Ty.int IntKind.i64) Ty.unit))) p10)] (0 : Nat)
inductive Sp.E_30_1 where
  | e0 (p0 : Int) (p5 : Int × Int × PUnit) (p10 : List Int × List Int × Int × PUnit)
  | e1 (p5 : Int × Int × PUnit) (p10 : List Int × List Int × Int × PUnit)
  | e2 (p0 : Int) (p1 : List (Bool × Int × Int × PUnit)) (p2 : Int) (p3 : Int) (p4 : List Int × List Int × Int × PUnit) (p5 : Int × Int × PUnit) (p6 : Int × PUnit) (p7 : List Int) (p8 : List Int) (p9 : Int × Int × PUnit) (p10 : List Int × List Int × Int × PUnit)
def Sp.B_30_1 {R : Type} (r : Option Sp.E_30_1) (k0 : (Int) → (Int × Int × PUnit) → (List Int × List Int × Int × PUnit) → Option R) (k1 : (Int × Int × PUnit) → (List Int × List Int × Int × PUnit) → Option R) (k2 : (Int) → (List (Bool × Int × Int × PUnit)) → (Int) → (Int) → (List Int × List Int × Int × PUnit) → (Int × Int × PUnit) → (Int × PUnit) → (List Int) → (List Int) → (Int × Int × PUnit) → (List Int × List Int × Int × PUnit) → Option R) : Option R := match r with
  | none => none
  | some (.e0 p0 p5 p10) => k0 p0 p5 p10
  | some (.e1 p5 p10) => k1 p5 p10
  | some (.e2 p0 p1 p2 p3 p4 p5 p6 p7 p8 p9 p10) => k2 p0 p1 p2 p3 p4 p5 p6 p7 p8 p9 p10
def Sp.J_30_1 (p0 : Int) (p1 : List (Bool × Int × Int × PUnit)) (p2 : Int) (p3 : Int) (p4 : List Int × List Int × Int × PUnit) (p5 : Int × Int × PUnit) (p6 : Int × PUnit) (p7 : List Int) (p8 : List Int) (p9 : Int × Int × PUnit) (p10 : List Int × List Int × Int × PUnit) : Option Sp.E_30_1 :=
  bif p0 != (0 : Int) then some (Sp.E_30_1.e0 p0 p5 p10) else gd (Sp.p_23 p4 p10) (bif !Prod.fst (Sp.v_23 p4 p10) then some (Sp.E_30_1.e1 p5 p10) else some (Sp.E_30_1.e2 p0 p1 p2 p3 p4 p5 p6 p7 p8 p9 p10))
def G_30_1 {R : Type} (p0 : Int) (p1 : List (Bool × Int × Int × PUnit)) (p2 : Int) (p3 : Int) (p4 : List Int × List Int × Int × PUnit) (p5 : Int × Int × PUnit) (p6 : Int × PUnit) (p7 : List Int) (p8 : List Int) (p9 : Int × Int × PUnit) (p10 : List Int × List Int × Int × PUnit) (k : Ex → St → Option R) : Option R := Sp.B_30_1 (Sp.J_30_1 p0 p1 p2 p3 p4 p5 p6 p7 p8 p9 p10) (fun p0 p5 p10 => k Ex.ret (X_30_1_0 p0 p5 p10)) (fun p5 p10 => k Ex.ret (X_30_1_1 p5 p10)) (fun p0 p1 p2 p3 p4 p5 p6 p7 p8 p9 p10 => k Ex.normal (X_30_1_2 p0 p1 p2 p3 p4 p5 p6 p7 p8 p9 p10))
def o_30_1 {R : Type} (G : (Int) → (List (Bool × Int × Int × PUnit)) → (Int) → (Int) → (List Int × List Int × Int × PUnit) → (Int × Int × PUnit) → (Int × PUnit) → (List Int) → (List Int) → (Int × Int × PUnit) → (List Int × List Int × Int × PUnit) → (Ex → St → Option R) → Option R) : St → (Ex → St → Option R) → Option R := fun T k => match T.sl.getD 3 .junk, T.sl.getD 5 .junk, T.sl.getD 6 .junk, T.sl.getD 7 .junk, T.sl.getD 11 .junk, T.sl.getD 12 .junk, T.sl.getD 14 .junk, T.sl.getD 15 .junk, T.sl.getD 16 .junk, T.hp with
  | CV.ptr (0 : Nat) [], CV.ptr (1 : Nat) [], CV.ptr (2 : Nat) [], CV.ptr (5 : Nat) [], CV.ptr (6 : Nat) [], CV.int IntKind.i64 p0, CV.pure (Ty.slice (Ty.pair Ty.bool (Ty.pair (Ty.int IntKind.u16) (Ty.pair (Ty.int IntKind.u32) Ty.unit)))) p1, CV.int IntKind.i64 p2, CV.int IntKind.i64 p3, ((Blk.mem (CV.pure (Ty.pair (Ty.slice (Ty.int IntKind.u32)) (Ty.pair (Ty.slice (Ty.int IntKind.i64)) (Ty.pair (Ty.int IntKind.i64) Ty.unit))) p4)) :: (Blk.mem (CV.pure (Ty.pair (Ty.int IntKind.i64) (Ty.pair (Ty.int IntKind.u32) Ty.unit)) p5)) :: (Blk.mem (CV.pair (CV.whole (3 : Nat)) (CV.pair (CV.whole (4 : Nat)) (CV.pure (Ty.pair (Ty.int IntKind.i64) Ty.unit) p6)))) :: (Blk.vec (34 : Nat) (Ty.int IntKind.u32) p7) :: (Blk.vec (3 : Nat) (Ty.int IntKind.i64) p8) :: (Blk.mem (CV.pure (Ty.pair (Ty.int IntKind.i64) (Ty.pair (Ty.int IntKind.u32) Ty.unit)) p9)) :: (Blk.mem (CV.pure (Ty.pair (Ty.slice (Ty.int IntKind.u32)) (Ty.pair (Ty.slice (Ty.int IntKind.i64)) (Ty.pair (Ty.int IntKind.i64) Ty.unit))) p10)) :: []) => gd (shapeOK T 63 [3, 5, 6, 7, 11, 12, 14, 15, 16] (0 : Nat)) (G p0 p1 p2 p3 p4 p5 p6 p7 p8 p9 p10 k)
  | _, _, _, _, _, _, _, _, _, _ => none
theorem o_30_1_inv {R : Type} {G : (Int) → (List (Bool × Int × Int × PUnit)) → (Int) → (Int) → (List Int × List Int × Int × PUnit) → (Int × Int × PUnit) → (Int × PUnit) → (List Int) → (List Int) → (Int × Int × PUnit) → (List Int × List Int × Int × PUnit) → (Ex → St → Option R) → Option R} {T : St} {k : Ex → St → Option R} {r : R} (h : o_30_1 G T k = some r) : ∃ p0 p1 p2 p3 p4 p5 p6 p7 p8 p9 p10, T = T_30_1 p0 p1 p2 p3 p4 p5 p6 p7 p8 p9 p10 ∧ G p0 p1 p2 p3 p4 p5 p6 p7 p8 p9 p10 k = some r := by
  unfold o_30_1 at h
  split at h
  · obtain ⟨hs, h'⟩ := gd_some h
    refine ⟨_, _, _, _, _, _, _, _, _, _, _, (st_of (asg := [(3, _), (5, _), (6, _), (7, _), (11, _), (12, _), (14, _), (15, _), (16, _)]) hs ⟨by assumption, by assumption, by assumption, by assumption, by assumption, by assumption, by assumption, by assumption, by assumption, trivial⟩ (by assumption)).trans ?_, h'⟩
    kernel_rfl
  · cases h
def T_30_0 (p0 : List (Bool × Int × Int × PUnit)) (p1 : Int) (p2 : Int) (p3 : List Int × List Int × Int × PUnit) (p4 : Int × Int × PUnit) (p5 : Int × PUnit) (p6 : List Int) (p7 : List Int) (p8 : Int × Int × PUnit) : St := St.mk [jk, jk, jk, CV.ptr (0 : Nat) [], jk, CV.ptr (1 : Nat) [], CV.ptr (2 : Nat) [], CV.ptr (5 : Nat) [], jk, jk, jk, jk, jk, jk, CV.pure (Ty.slice (Ty.pair Ty.bool (Ty.pair (Ty.int IntKind.u16) (Ty.pair (Ty.int IntKind.u32) Ty.unit)))) p0, CV.int IntKind.i64 p1, CV.int IntKind.i64 p2, jk, jk, jk, jk, jk, jk, jk, jk, jk, jk, jk, jk, jk, jk, jk, jk, jk, jk, jk, jk, jk, jk, jk, jk, jk, jk, jk, jk, jk, jk, jk, jk, jk, jk, jk, jk, jk, jk, jk, jk, jk, jk, jk, jk, jk, jk] [Blk.mem (CV.pure (Ty.pair (Ty.slice (Ty.int IntKind.u32)) (Ty.pair (Ty.slice (Ty.int IntKind.i64)) (Ty.pair (Ty.int IntKind.i64) Ty.unit))) p3), Blk.mem (CV.pure (Ty.pair (Ty.int IntKind.i64) (Ty.pair (Ty.int IntKind.u32) Ty.unit)) p4), Blk.mem (CV.pair (CV.whole (3 : Nat)) (CV.pair (CV.whole (4 : Nat)) (CV.pure (Ty.pair (Ty.int IntKind.i64) Ty.unit) p5))), Blk.vec (34 : Nat) (Ty.int IntKind.u32) p6, Blk.vec (3 : Nat) (Ty.int IntKind.i64) p7, Blk.mem (CV.pure (Ty.pair (Ty.int IntKind.i64) (Ty.pair (Ty.int IntKind.u32) Ty.unit)) p8)] (0 : Nat)
def X_30_0_0 (y32 : Int) (y33 : Int × Int × PUnit) (y34 : List Int × List Int × Int × PUnit) : St := St.mk [jk, jk, jk, jk, jk, jk, CV.ptr (0 : Nat) [], CV.ptr (1 : Nat) [], CV.int IntKind.i64 y32, jk, jk, jk, jk, jk, jk, jk, jk, jk, jk, jk, jk, jk, jk, jk, jk, jk, jk, jk, jk, jk, jk, jk, jk, jk, jk, jk, jk, jk, jk, jk, jk, jk, jk, jk, jk, jk, jk, jk, jk, jk, jk, jk, jk, jk, jk, jk, jk, jk, jk, jk, jk, jk, jk] [Blk.mem (CV.pure (Ty.pair (Ty.slice (Ty.int IntKind.u32)) (Ty.pair (Ty.slice (Ty.int IntKind.i64)) (Ty.pair (Ty.int IntKind.i64) Ty.unit))) y34), Blk.mem (CV.pure (Ty.pair (Ty.int IntKind.i64) (Ty.pair (Ty.int IntKind.u32) Ty.unit)) y33)] (0 : Nat)
def X_30_0_1 (y35 : Int × Int × PUnit) (y36 : List Int × List Int × Int × PUnit) : St := St.mk [jk, jk, jk, jk, jk, jk, CV.ptr (0 : Nat) [], CV.ptr (1 : Nat) [], CV.int IntKind.i64 (3 : Int), jk, jk, jk, jk, jk, jk, jk, jk, jk, jk, jk, jk, jk, jk, jk, jk, jk, jk, jk, jk, jk, jk, jk, jk, jk, jk, jk, jk, jk, jk, jk, jk, jk, jk, jk, jk, jk, jk, jk, jk, jk, jk, jk, jk, jk, jk, jk, jk, jk, jk, jk, jk, jk, jk] [Blk.mem (CV.pure (Ty.pair (Ty.slice (Ty.int IntKind.u32)) (Ty.pair (Ty.slice (Ty.int IntKind.i64)) (Ty.pair (Ty.int IntKind.i64) Ty.unit))) y36), Blk.mem (CV.pure (Ty.pair (Ty.int IntKind.i64) (Ty.pair (Ty.int IntKind.u32) Ty.unit)) y35)] (0 : Nat)
def X_30_0_2 (p3 : List Int × List Int × Int × PUnit) (p4 : Int × Int × PUnit) (p5 : Int × PUnit) (p6 : List Int) (p7 : List Int) (p8 : Int × Int × PUnit) : St := St.mk [jk, jk, jk, CV.ptr (0 : Nat) [], jk, CV.ptr (1 : Nat) [], CV.ptr (2 : Nat) [], CV.ptr (5 : Nat) [], jk, jk, jk, jk, jk, jk, jk, jk, jk, jk, jk, jk, jk, jk, jk, jk, jk, jk, jk, jk, jk, jk, jk, jk, jk, jk, jk, jk, jk, jk, jk, jk, jk, jk, jk, jk, jk, jk, jk, jk, jk, jk, jk, jk, jk, jk, jk, jk, jk, jk, jk, jk, jk, jk, jk] [Blk.mem (CV.pure (Ty.pair (Ty.slice (Ty.int IntKind.u32)) (Ty.pair (Ty.slice (Ty.int IntKind.i64)) (Ty.pair (Ty.int IntKind.i64) Ty.unit))) p3), Blk.mem (CV.pure (Ty.pair (Ty.int IntKind.i64) (Ty.pair (Ty.int IntKind.u32) Ty.unit)) p4), Blk.mem (CV.pair (CV.whole (3 : Nat)) (CV.pair (CV.whole (4 : Nat)) (CV.pure (Ty.pair (Ty.int IntKind.i64) Ty.unit) p5))), Blk.vec (34 : Nat) (Ty.int IntKind.u32) p6, Blk.vec (3 : Nat) (Ty.int IntKind.i64) p7, Blk.mem (CV.pure (Ty.pair (Ty.int IntKind.i64) (Ty.pair (Ty.int IntKind.u32) Ty.unit)) p8)] (0 : Nat)
inductive Sp.E_30_0 where
  | e0 (y32 : Int) (y33 : Int × Int × PUnit) (y34 : List Int × List Int × Int × PUnit)
  | e1 (y35 : Int × Int × PUnit) (y36 : List Int × List Int × Int × PUnit)
  | e2 (p3 : List Int × List Int × Int × PUnit) (p4 : Int × Int × PUnit) (p5 : Int × PUnit) (p6 : List Int) (p7 : List Int) (p8 : Int × Int × PUnit)
def Sp.B_30_0 {R : Type} (r : Option Sp.E_30_0) (k0 : (Int) → (Int × Int × PUnit) → (List Int × List Int × Int × PUnit) → Option R) (k1 : (Int × Int × PUnit) → (List Int × List Int × Int × PUnit) → Option R) (k2 : (List Int × List Int × Int × PUnit) → (Int × Int × PUnit) → (Int × PUnit) → (List Int) → (List Int) → (Int × Int × PUnit) → Option R) : Option R := match r with
  | none => none
  | some (.e0 y32 y33 y34) => k0 y32 y33 y34
  | some (.e1 y35 y36) => k1 y35 y36
  | some (.e2 p3 p4 p5 p6 p7 p8) => k2 p3 p4 p5 p6 p7 p8
def Sp.L_30_0 : Nat → (List (Bool × Int × Int × PUnit)) → (Int) → (Int) → (List Int × List Int × Int × PUnit) → (Int × Int × PUnit) → (Int × PUnit) → (List Int) → (List Int) → (Int × Int × PUnit) → Option Sp.E_30_0
  | 0, _, _, _, _, _, _, _, _, _ => none
  | m + 1, p0, p1, p2, p3, p4, p5, p6, p7, p8 => bif decide (p2 < p1) then gd (inB p2 (List.length p0)) (gd (!(↑(List.length (Prod.fst p3)) : Int) == (0 : Int)) (bif Prod.fst (List.getD p0 (Int.toNat p2) (Ty.dflt (Ty.pair Ty.bool (Ty.pair (Ty.int IntKind.u16) (Ty.pair (Ty.int IntKind.u32) Ty.unit))))) then gd (Sp.p_28 p3 (IntKind.wrap IntKind.i64 (Int.tdiv (Int.tmod (IntKind.wrap IntKind.i64 (Prod.fst (Prod.snd (List.getD p0 (Int.toNat p2) (Ty.dflt (Ty.pair Ty.bool (Ty.pair (Ty.int IntKind.u16) (Ty.pair (Ty.int IntKind.u32) Ty.unit)))))))) (↑(List.length (Prod.fst p3)) : Int)) (64 : Int))) p4) (Sp.B_30_1 (Sp.J_30_1 (Prod.fst (Prod.snd (Prod.snd (Sp.v_28 p3 (IntKind.wrap IntKind.i64 (Int.tdiv (Int.tmod (IntKind.wrap IntKind.i64 (Prod.fst (Prod.snd (List.getD p0 (Int.toNat p2) (Ty.dflt (Ty.pair Ty.bool (Ty.pair (Ty.int IntKind.u16) (Ty.pair (Ty.int IntKind.u32) Ty.unit)))))))) (↑(List.length (Prod.fst p3)) : Int)) (64 : Int))) p4)))) p0 p1 p2 p3 (Prod.fst (Prod.snd (Sp.v_28 p3 (IntKind.wrap IntKind.i64 (Int.tdiv (Int.tmod (IntKind.wrap IntKind.i64 (Prod.fst (Prod.snd (List.getD p0 (Int.toNat p2) (Ty.dflt (Ty.pair Ty.bool (Ty.pair (Ty.int IntKind.u16) (Ty.pair (Ty.int IntKind.u32) Ty.unit)))))))) (↑(List.length (Prod.fst p3)) : Int)) (64 : Int))) p4))) p5 p6 p7 p8 (Prod.fst (Sp.v_28 p3 (IntKind.wrap IntKind.i64 (Int.tdiv (Int.tmod (IntKind.wrap IntKind.i64 (Prod.fst (Prod.snd (List.getD p0 (Int.toNat p2) (Ty.dflt (Ty.pair Ty.bool (Ty.pair (Ty.int IntKind.u16) (Ty.pair (Ty.int IntKind.u32) Ty.unit)))))))) (↑(List.length (Prod.fst p3)) : Int)) (64 : Int))) p4))) (fun (y32 : Int) (y33 : Int × Int × PUnit) (y34 : List Int × List Int × Int × PUnit) => some (Sp.E_30_0.e0 y32 y33 y34)) (fun (y35 : Int × Int × PUnit) (y36 : List Int × List Int × Int × PUnit) => some (Sp.E_30_0.e1 y35 y36)) fun (y37 : Int) (y38 : List (Bool × Int × Int × PUnit)) (y39 y40 : Int) (y41 : List Int × List Int × Int × PUnit) (y42 : Int × Int × PUnit) (y43 : Int × PUnit) (y44 y45 : List Int) (y46 : Int × Int × PUnit) (y47 : List Int × List Int × Int × PUnit) => Sp.L_30_0 m y38 y39 (IntKind.wrap IntKind.i64 (y40 + (1 : Int))) y47 y42 y43 y44 y45 y46) else gd (Sp.p_19 p3 (Int.tmod (IntKind.wrap IntKind.i64 (Prod.fst (Prod.snd (List.getD p0 (Int.toNat p2) (Ty.dflt (Ty.pair Ty.bool (Ty.pair (Ty.int IntKind.u16) (Ty.pair (Ty.int IntKind.u32) Ty.unit)))))))) (↑(List.length (Prod.fst p3)) : Int)) (Prod.fst (Prod.snd (Prod.snd (List.getD p0 (Int.toNat p2) (Ty.dflt (Ty.pair Ty.bool (Ty.pair (Ty.int IntKind.u16) (Ty.pair (Ty.int IntKind.u32) Ty.unit)))))))) p4) (Sp.B_30_1 (Sp.J_30_1 (Prod.fst (Prod.snd (Prod.snd (Sp.v_19 p3 (Int.tmod (IntKind.wrap IntKind.i64 (Prod.fst (Prod.snd (List.getD p0 (Int.toNat p2) (Ty.dflt (Ty.pair Ty.bool (Ty.pair (Ty.int IntKind.u16) (Ty.pair (Ty.int IntKind.u32) Ty.unit)))))))) (↑(List.length (Prod.fst p3)) : Int)) (Prod.fst (Prod.snd (Prod.snd (List.getD p0 (Int.toNat p2) (Ty.dflt (Ty.pair Ty.bool (Ty.pair (Ty.int IntKind.u16) (Ty.pair (Ty.int IntKind.u32) Ty.unit)))))))) p4)))) p0 p1 p2 p3 (Prod.fst (Prod.snd (Sp.v_19 p3 (Int.tmod (IntKind.wrap IntKind.i64 (Prod.fst (Prod.snd (List.getD p0 (Int.toNat p2) (Ty.dflt (Ty.pair Ty.bool (Ty.pair (Ty.int IntKind.u16) (Ty.pair (Ty.int IntKind.u32) Ty.unit)))))))) (↑(List.length (Prod.fst p3)) : Int)) (Prod.fst (Prod.snd (Prod.snd (List.getD p0 (Int.toNat p2) (Ty.dflt (Ty.pair Ty.bool (Ty.pair (Ty.int IntKind.u16) (Ty.pair (Ty.int IntKind.u32) Ty.unit)))))))) p4))) p5 p6 p7 p8 (Prod.fst (Sp.v_19 p3 (Int.tmod (IntKind.wrap IntKind.i64 (Prod.fst (Prod.snd (List.getD p0 (Int.toNat p2) (Ty.dflt (Ty.pair Ty.bool (Ty.pair (Ty.int IntKind.u16) (Ty.pair (Ty.int IntKind.u32) Ty.unit)))))))) (↑(List.length (Prod.fst p3)) : Int)) (Prod.fst (Prod.snd (Prod.snd (List.getD p0 (Int.toNat p2) (Ty.dflt (Ty.pair Ty.bool (Ty.pair (Ty.int IntKind.u16) (Ty.pair (Ty.int IntKind.u32) Ty.unit)))))))) p4))) (fun (y48 : Int) (y49 : Int × Int × PUnit) (y50 : List Int × List Int × Int × PUnit) => some (Sp.E_30_0.e0 y48 y49 y50)) (fun (y51 : Int × Int × PUnit) (y52 : List Int × List Int × Int × PUnit) => some (Sp.E_30_0.e1 y51 y52)) fun (y53 : Int) (y54 : List (Bool × Int × Int × PUnit)) (y55 y56 : Int) (y57 : List Int × List Int × Int × PUnit) (y58 : Int × Int × PUnit) (y59 : Int × PUnit) (y60 y61 : List Int) (y62 : Int × Int × PUnit) (y63 : List Int × List Int × Int × PUnit) => Sp.L_30_0 m y54 y55 (IntKind.wrap IntKind.i64 (y56 + (1 : Int))) y63 y58 y59 y60 y61 y62))) else some (Sp.E_30_0.e2 p3 p4 p5 p6 p7 p8)
def G_30_0 {R : Type} (p0 : List (Bool × Int × Int × PUnit)) (p1 : Int) (p2 : Int) (p3 : List Int × List Int × Int × PUnit) (p4 : Int × Int × PUnit) (p5 : Int × PUnit) (p6 : List Int) (p7 : List Int) (p8 : Int × Int × PUnit) (k : Ex → St → Option R) : Option R := Sp.B_30_0 (Sp.L_30_0 FU p0 p1 p2 p3 p4 p5 p6 p7 p8) (fun y32 y33 y34 => k Ex.ret (X_30_0_0 y32 y33 y34)) (fun y35 y36 => k Ex.ret (X_30_0_1 y35 y36)) (fun p3 p4 p5 p6 p7 p8 => k (Ex.exit (0 : Nat)) (X_30_0_2 p3 p4 p5 p6 p7 p8))
def o_30_0 {R : Type} (G : (List (Bool × Int × Int × PUnit)) → (Int) → (Int) → (List Int × List Int × Int × PUnit) → (Int × Int × PUnit) → (Int × PUnit) → (List Int) → (List Int) → (Int × Int × PUnit) → (Ex → St → Option R) → Option R) : St → (Ex → St → Option R) → Option R := fun T k => match T.sl.getD 3 .junk, T.sl.getD 5 .junk, T.sl.getD 6 .junk, T.sl.getD 7 .junk, T.sl.getD 14 .junk, T.sl.getD 15 .junk, T.sl.getD 16 .junk, T.hp with
  | CV.ptr (0 : Nat) [], CV.ptr (1 : Nat) [], CV.ptr (2 : Nat) [], CV.ptr (5 : Nat) [], CV.pure (Ty.slice (Ty.pair Ty.bool (Ty.pair (Ty.int IntKind.u16) (Ty.pair (Ty.int IntKind.u32) Ty.unit)))) p0, CV.int IntKind.i64 p1, CV.int IntKind.i64 p2, ((Blk.mem (CV.pure (Ty.pair (Ty.slice (Ty.int IntKind.u32)) (Ty.pair (Ty.slice (Ty.int IntKind.i64)) (Ty.pair (Ty.int IntKind.i64) Ty.unit))) p3)) :: (Blk.mem (CV.pure (Ty.pair (Ty.int IntKind.i64) (Ty.pair (Ty.int IntKind.u32) Ty.unit)) p4)) :: (Blk.mem (CV.pair (CV.whole (3 : Nat)) (CV.pair (CV.whole (4 : Nat)) (CV.pure (Ty.pair (Ty.int IntKind.i64) Ty.unit) p5)))) :: (Blk.vec (34 : Nat) (Ty.int IntKind.u32) p6) :: (Blk.vec (3 : Nat) (Ty.int IntKind.i64) p7) :: (Blk.mem (CV.pure (Ty.pair (Ty.int IntKind.i64) (Ty.pair (Ty.int IntKind.u32) Ty.unit)) p8)) :: []) => gd (shapeOK T 63 [3, 5, 6, 7, 14, 15, 16] (0 : Nat)) (G p0 p1 p2 p3 p4 p5 p6 p7 p8 k)
  | _, _, _, _, _, _, _, _ => none
theorem o_30_0_inv {R : Type} {G : (List (Bool × Int × Int × PUnit)) → (Int) → (Int) → (List Int × List Int × Int × PUnit) → (Int × Int × PUnit) → (Int × PUnit) → (List Int) → (List Int) → (Int × Int × PUnit) → (Ex → St → Option R) → Option R} {T : St} {k : Ex → St → Option R} {r : R} (h : o_30_0 G T k = some r) : ∃ p0 p1 p2 p3 p4 p5 p6 p7 p8, T = T_30_0 p0 p1 p2 p3 p4 p5 p6 p7 p8 ∧ G p0 p1 p2 p3 p4 p5 p6 p7 p8 k = some r := by
  unfold o_30_0 at h
  split at h
  · obtain ⟨hs, h'⟩ := gd_some h
    refine ⟨_, _, _, _, _, _, _, _, _, (st_of (asg := [(3, _), (5, _), (6, _), (7, _), (14, _), (15, _), (16, _)]) hs ⟨by assumption, by assumption, by assumption, by assumption, by assumption, by assumption, by assumption, trivial⟩ (by assumption)).trans ?_, h'⟩
    kernel_rfl
  · cases h
def O_30_30_1 {R : Type} : St → (Ex → St → Option R) → Option R := fun T k => o_30_1 G_30_1 T k
def O_30_30_0 {R : Type} : St → (Ex → St → Option R) → Option R := fun T k => o_30_0 G_30_0 T k
theorem body_30_1 {R : Type} (K1 : Ex → St → Option R) (p0 : Int) (p1 : List (Bool × Int × Int × PUnit)) (p2 : Int) (p3 : Int) (p4 : List Int × List Int × Int × PUnit) (p5 : Int × Int × PUnit) (p6 : Int × PUnit) (p7 : List Int) (p8 : List Int) (p9 : Int × Int × PUnit) (p10 : List Int × List Int × Int × PUnit) : evJ (evCodeL sm_30 FU (ovr noO (evFn sm_30 fns FU 0)) .nil ir30_b1) (T_30_1 p0 p1 p2 p3 p4 p5 p6 p7 p8 p9 p10) K1 =
  bif p0 != (0 : Int) then K1 Ex.ret (X_30_1_0 p0 p5 p10) else gd (Sp.p_23 p4 p10) (bif !Prod.fst (Sp.v_23 p4 p10) then K1 Ex.ret (X_30_1_1 p5 p10) else K1 Ex.normal (X_30_1_2 p0 p1 p2 p3 p4 p5 p6 p7 p8 p9 p10)) := by kernel_rfl
theorem Bgd_30_1 {R : Type} {c : Bool} {x : Option R} {y : Option Sp.E_30_1} {k0 : (Int) → (Int × Int × PUnit) → (List Int × List Int × Int × PUnit) → Option R} {k1 : (Int × Int × PUnit) → (List Int × List Int × Int × PUnit) → Option R} {k2 : (Int) → (List (Bool × Int × Int × PUnit)) → (Int) → (Int) → (List Int × List Int × Int × PUnit) → (Int × Int × PUnit) → (Int × PUnit) → (List Int) → (List Int) → (Int × Int × PUnit) → (List Int × List Int × Int × PUnit) → Option R} (h : x = Sp.B_30_1 y k0 k1 k2) : gd c x = Sp.B_30_1 (gd c y) k0 k1 k2 := by cases c; rfl; exact h
theorem Bcond_30_1 {R : Type} {c : Bool} {x x' : Option R} {y y' : Option Sp.E_30_1} {k0 : (Int) → (Int × Int × PUnit) → (List Int × List Int × Int × PUnit) → Option R} {k1 : (Int × Int × PUnit) → (List Int × List Int × Int × PUnit) → Option R} {k2 : (Int) → (List (Bool × Int × Int × PUnit)) → (Int) → (Int) → (List Int × List Int × Int × PUnit) → (Int × Int × PUnit) → (Int × PUnit) → (List Int) → (List Int) → (Int × Int × PUnit) → (List Int × List Int × Int × PUnit) → Option R} (h : x = Sp.B_30_1 y k0 k1 k2) (h' : x' = Sp.B_30_1 y' k0 k1 k2) : (bif c then x else x') = Sp.B_30_1 (bif c then y else y') k0 k1 k2 := by cases c; exact h'; exact h
theorem loop_30_1 {R : Type} (k : Ex → St → Option R) (p0 : Int) (p1 : List (Bool × Int × Int × PUnit)) (p2 : Int) (p3 : Int) (p4 : List Int × List Int × Int × PUnit) (p5 : Int × Int × PUnit) (p6 : Int × PUnit) (p7 : List Int) (p8 : List Int) (p9 : Int × Int × PUnit) (p10 : List Int × List Int × Int × PUnit) : evJ (evCodeL sm_30 FU (ovr noO (evFn sm_30 fns FU 0)) .nil ir30_b1) (T_30_1 p0 p1 p2 p3 p4 p5 p6 p7 p8 p9 p10) k = Sp.B_30_1 (Sp.J_30_1 p0 p1 p2 p3 p4 p5 p6 p7 p8 p9 p10) (fun p0 p5 p10 => k Ex.ret (X_30_1_0 p0 p5 p10)) (fun p5 p10 => k Ex.ret (X_30_1_1 p5 p10)) (fun p0 p1 p2 p3 p4 p5 p6 p7 p8 p9 p10 => k Ex.normal (X_30_1_2 p0 p1 p2 p3 p4 p5 p6 p7 p8 p9 p10)) := by
  rw [body_30_1, Sp.J_30_1]
  repeat' first | apply Bgd_30_1 | apply Bcond_30_1 | rfl
theorem ok_30_1 {R : Type} (T : St) (k : Ex → St → Option R) (r : R) (h0 : o_30_1 G_30_1 T k = some r) : evCode sm_30 FU (evFn sm_30 fns FU 0) ir30_b1 T k = some r := by
  obtain ⟨p0, p1, p2, p3, p4, p5, p6, p7, p8, p9, p10, rfl, h⟩ := o_30_1_inv h0
  refine bodyL_sound (t := .nil) noO_ok trivial ((loop_30_1 k _ _ _ _ _ _ _ _ _ _ _).trans h)
theorem OK_30_30_1 {R : Type} (T : St) (k : Ex → St → Option R) (r : R) (h : O_30_30_1 T k = some r) : evCode sm_30 FU (evFn sm_30 fns FU 0) ir30_b1 T k = some r := ok_30_1 T k r h
theorem body_30_0 {R : Type} (K0 : St → Option R) (K1 : Ex → St → Option R) (p0 : List (Bool × Int × Int × PUnit)) (p1 : Int) (p2 : Int) (p3 : List Int × List Int × Int × PUnit) (p4 : Int × Int × PUnit) (p5 : Int × PUnit) (p6 : List Int) (p7 : List Int) (p8 : Int × Int × PUnit) : evLB (evCodeL sm_30 FU (ovr noO (evFn sm_30 fns FU 0)) (ir30_bt0 O_30_30_1) ir30_b0) (St.norm ir30_v0) (T_30_0 p0 p1 p2 p3 p4 p5 p6 p7 p8) K0 K1 =
  bif decide (p2 < p1) then gd (inB p2 (List.length p0)) (gd (!(↑(List.length (Prod.fst p3)) : Int) == (0 : Int)) (bif Prod.fst (List.getD p0 (Int.toNat p2) (Ty.dflt (Ty.pair Ty.bool (Ty.pair (Ty.int IntKind.u16) (Ty.pair (Ty.int IntKind.u32) Ty.unit))))) then gd (Sp.p_28 p3 (IntKind.wrap IntKind.i64 (Int.tdiv (Int.tmod (IntKind.wrap IntKind.i64 (Prod.fst (Prod.snd (List.getD p0 (Int.toNat p2) (Ty.dflt (Ty.pair Ty.bool (Ty.pair (Ty.int IntKind.u16) (Ty.pair (Ty.int IntKind.u32) Ty.unit)))))))) (↑(List.length (Prod.fst p3)) : Int)) (64 : Int))) p4) (Sp.B_30_1 (Sp.J_30_1 (Prod.fst (Prod.snd (Prod.snd (Sp.v_28 p3 (IntKind.wrap IntKind.i64 (Int.tdiv (Int.tmod (IntKind.wrap IntKind.i64 (Prod.fst (Prod.snd (List.getD p0 (Int.toNat p2) (Ty.dflt (Ty.pair Ty.bool (Ty.pair (Ty.int IntKind.u16) (Ty.pair (Ty.int IntKind.u32) Ty.unit)))))))) (↑(List.length (Prod.fst p3)) : Int)) (64 : Int))) p4)))) p0 p1 p2 p3 (Prod.fst (Prod.snd (Sp.v_28 p3 (IntKind.wrap IntKind.i64 (Int.tdiv (Int.tmod (IntKind.wrap IntKind.i64 (Prod.fst (Prod.snd (List.getD p0 (Int.toNat p2) (Ty.dflt (Ty.pair Ty.bool (Ty.pair (Ty.int IntKind.u16) (Ty.pair (Ty.int IntKind.u32) Ty.unit)))))))) (↑(List.length (Prod.fst p3)) : Int)) (64 : Int))) p4))) p5 p6 p7 p8 (Prod.fst (Sp.v_28 p3 (IntKind.wrap IntKind.i64 (Int.tdiv (Int.tmod (IntKind.wrap IntKind.i64 (Prod.fst (Prod.snd (List.getD p0 (Int.toNat p2) (Ty.dflt (Ty.pair Ty.bool (Ty.pair (Ty.int IntKind.u16) (Ty.pair (Ty.int IntKind.u32) Ty.unit)))))))) (↑(List.length (Prod.fst p3)) : Int)) (64 : Int))) p4))) (fun (y32 : Int) (y33 : Int × Int × PUnit) (y34 : List Int × List Int × Int × PUnit) => K1 Ex.ret (X_30_0_0 y32 y33 y34)) (fun (y35 : Int × Int × PUnit) (y36 : List Int × List Int × Int × PUnit) => K1 Ex.ret (X_30_0_1 y35 y36)) fun (y37 : Int) (y38 : List (Bool × Int × Int × PUnit)) (y39 y40 : Int) (y41 : List Int × List Int × Int × PUnit) (y42 : Int × Int × PUnit) (y43 : Int × PUnit) (y44 y45 : List Int) (y46 : Int × Int × PUnit) (y47 : List Int × List Int × Int × PUnit) => K0 (T_30_0 y38 y39 (IntKind.wrap IntKind.i64 (y40 + (1 : Int))) y47 y42 y43 y44 y45 y46)) else gd (Sp.p_19 p3 (Int.tmod (IntKind.wrap IntKind.i64 (Prod.fst (Prod.snd (List.getD p0 (Int.toNat p2) (Ty.dflt (Ty.pair Ty.bool (Ty.pair (Ty.int IntKind.u16) (Ty.pair (Ty.int IntKind.u32) Ty.unit)))))))) (↑(List.length (Prod.fst p3)) : Int)) (Prod.fst (Prod.snd (Prod.snd (List.getD p0 (Int.toNat p2) (Ty.dflt (Ty.pair Ty.bool (Ty.pair (Ty.int IntKind.u16) (Ty.pair (Ty.int IntKind.u32) Ty.unit)))))))) p4) (Sp.B_30_1 (Sp.J_30_1 (Prod.fst (Prod.snd (Prod.snd (Sp.v_19 p3 (Int.tmod (IntKind.wrap IntKind.i64 (Prod.fst (Prod.snd (List.getD p0 (Int.toNat p2) (Ty.dflt (Ty.pair Ty.bool (Ty.pair (Ty.int IntKind.u16) (Ty.pair (Ty.int IntKind.u32) Ty.unit)))))))) (↑(List.length (Prod.fst p3)) : Int)) (Prod.fst (Prod.snd (Prod.snd (List.getD p0 (Int.toNat p2) (Ty.dflt (Ty.pair Ty.bool (Ty.pair (Ty.int IntKind.u16) (Ty.pair (Ty.int IntKind.u32) Ty.unit)))))))) p4)))) p0 p1 p2 p3 (Prod.fst (Prod.snd (Sp.v_19 p3 (Int.tmod (IntKind.wrap IntKind.i64 (Prod.fst (Prod.snd (List.getD p0 (Int.toNat p2) (Ty.dflt (Ty.pair Ty.bool (Ty.pair (Ty.int IntKind.u16) (Ty.pair (Ty.int IntKind.u32) Ty.unit)))))))) (↑(List.length (Prod.fst p3)) : Int)) (Prod.fst (Prod.snd (Prod.snd (List.getD p0 (Int.toNat p2) (Ty.dflt (Ty.pair Ty.bool (Ty.pair (Ty.int IntKind.u16) (Ty.pair (Ty.int IntKind.u32) Ty.unit)))))))) p4))) p5 p6 p7 p8 (Prod.fst (Sp.v_19 p3 (Int.tmod (IntKind.wrap IntKind.i64 (Prod.fst (Prod.snd (List.getD p0 (Int.toNat p2) (Ty.dflt (Ty.pair Ty.bool (Ty.pair (Ty.int IntKind.u16) (Ty.pair (Ty.int IntKind.u32) Ty.unit)))))))) (↑(List.length (Prod.fst p3)) : Int)) (Prod.fst (Prod.snd (Prod.snd (List.getD p0 (Int.toNat p2) (Ty.dflt (Ty.pair Ty.bool (Ty.pair (Ty.int IntKind.u16) (Ty.pair (Ty.int IntKind.u32) Ty.unit)))))))) p4))) (fun (y48 : Int) (y49 : Int × Int × PUnit) (y50 : List Int × List Int × Int × PUnit) => K1 Ex.ret (X_30_0_0 y48 y49 y50)) (fun (y51 : Int × Int × PUnit) (y52 : List Int × List Int × Int × PUnit) => K1 Ex.ret (X_30_0_1 y51 y52)) fun (y53 : Int) (y54 : List (Bool × Int × Int × PUnit)) (y55 y56 : Int) (y57 : List Int × List Int × Int × PUnit) (y58 : Int × Int × PUnit) (y59 : Int × PUnit) (y60 y61 : List Int) (y62 : Int × Int × PUnit) (y63 : List Int × List Int × Int × PUnit) => K0 (T_30_0 y54 y55 (IntKind.wrap IntKind.i64 (y56 + (1 : Int))) y63 y58 y59 y60 y61 y62)))) else K1 (Ex.exit (0 : Nat)) (X_30_0_2 p3 p4 p5 p6 p7 p8) := by kernel_rfl
theorem Bgd_30_0 {R : Type} {c : Bool} {x : Option R} {y : Option Sp.E_30_0} {k0 : (Int) → (Int × Int × PUnit) → (List Int × List Int × Int × PUnit) → Option R} {k1 : (Int × Int × PUnit) → (List Int × List Int × Int × PUnit) → Option R} {k2 : (List Int × List Int × Int × PUnit) → (Int × Int × PUnit) → (Int × PUnit) → (List Int) → (List Int) → (Int × Int × PUnit) → Option R} (h : x = Sp.B_30_0 y k0 k1 k2) : gd c x = Sp.B_30_0 (gd c y) k0 k1 k2 := by cases c; rfl; exact h
theorem Bcond_30_0 {R : Type} {c : Bool} {x x' : Option R} {y y' : Option Sp.E_30_0} {k0 : (Int) → (Int × Int × PUnit) → (List Int × List Int × Int × PUnit) → Option R} {k1 : (Int × Int × PUnit) → (List Int × List Int × Int × PUnit) → Option R} {k2 : (List Int × List Int × Int × PUnit) → (Int × Int × PUnit) → (Int × PUnit) → (List Int) → (List Int) → (Int × Int × PUnit) → Option R} (h : x = Sp.B_30_0 y k0 k1 k2) (h' : x' = Sp.B_30_0 y' k0 k1 k2) : (bif c then x else x') = Sp.B_30_0 (bif c then y else y') k0 k1 k2 := by cases c; exact h'; exact h
theorem Bin_30_0_30_1 {R : Type} {r : Option Sp.E_30_1} {k0 : (Int) → (Int × Int × PUnit) → (List Int × List Int × Int × PUnit) → Option R} {k1 : (Int × Int × PUnit) → (List Int × List Int × Int × PUnit) → Option R} {k2 : (List Int × List Int × Int × PUnit) → (Int × Int × PUnit) → (Int × PUnit) → (List Int) → (List Int) → (Int × Int × PUnit) → Option R} {f0 : (Int) → (Int × Int × PUnit) → (List Int × List Int × Int × PUnit) → Option R} {f1 : (Int × Int × PUnit) → (List Int × List Int × Int × PUnit) → Option R} {f2 : (Int) → (List (Bool × Int × Int × PUnit)) → (Int) → (Int) → (List Int × List Int × Int × PUnit) → (Int × Int × PUnit) → (Int × PUnit) → (List Int) → (List Int) → (Int × Int × PUnit) → (List Int × List Int × Int × PUnit) → Option R} {g0 : (Int) → (Int × Int × PUnit) → (List Int × List Int × Int × PUnit) → Option Sp.E_30_0} {g1 : (Int × Int × PUnit) → (List Int × List Int × Int × PUnit) → Option Sp.E_30_0} {g2 : (Int) → (List (Bool × Int × Int × PUnit)) → (Int) → (Int) → (List Int × List Int × Int × PUnit) → (Int × Int × PUnit) → (Int × PUnit) → (List Int) → (List Int) → (Int × Int × PUnit) → (List Int × List Int × Int × PUnit) → Option Sp.E_30_0} (h0 : ∀ z0 z1 z2, f0 z0 z1 z2 = Sp.B_30_0 (g0 z0 z1 z2) k0 k1 k2) (h1 : ∀ z0 z1, f1 z0 z1 = Sp.B_30_0 (g1 z0 z1) k0 k1 k2) (h2 : ∀ z0 z1 z2 z3 z4 z5 z6 z7 z8 z9 z10, f2 z0 z1 z2 z3 z4 z5 z6 z7 z8 z9 z10 = Sp.B_30_0 (g2 z0 z1 z2 z3 z4 z5 z6 z7 z8 z9 z10) k0 k1 k2) : Sp.B_30_1 r f0 f1 f2 = Sp.B_30_0 (Sp.B_30_1 r g0 g1 g2) k0 k1 k2 := by
  cases r with
  | none => rfl
  | some e => cases e with
    | e0 z0 z1 z2 => exact h0 _ _ _
    | e1 z0 z1 => exact h1 _ _
    | e2 z0 z1 z2 z3 z4 z5 z6 z7 z8 z9 z10 => exact h2 _ _ _ _ _ _ _ _ _ _ _
theorem loop_30_0 {R : Type} (k : Ex → St → Option R) : ∀ (m : Nat) (p0 : List (Bool × Int × Int × PUnit)) (p1 : Int) (p2 : Int) (p3 : List Int × List Int × Int × PUnit) (p4 : Int × Int × PUnit) (p5 : Int × PUnit) (p6 : List Int) (p7 : List Int) (p8 : Int × Int × PUnit), evLoopN (evCodeL sm_30 FU (ovr noO (evFn sm_30 fns FU 0)) (ir30_bt0 O_30_30_1) ir30_b0) (St.norm ir30_v0) m (T_30_0 p0 p1 p2 p3 p4 p5 p6 p7 p8) k = Sp.B_30_0 (Sp.L_30_0 m p0 p1 p2 p3 p4 p5 p6 p7 p8) (fun y32 y33 y34 => k Ex.ret (X_30_0_0 y32 y33 y34)) (fun y35 y36 => k Ex.ret (X_30_0_1 y35 y36)) (fun p3 p4 p5 p6 p7 p8 => k (Ex.exit (0 : Nat)) (X_30_0_2 p3 p4 p5 p6 p7 p8))
  | 0, _, _, _, _, _, _, _, _, _ => rfl
  | m + 1, p0, p1, p2, p3, p4, p5, p6, p7, p8 => by
    rw [evLoopN_succ, body_30_0, Sp.L_30_0]
    repeat' first | apply Bgd_30_0 | apply Bcond_30_0 | (apply Bin_30_0_30_1 <;> intros) | exact loop_30_0 k m _ _ _ _ _ _ _ _ _ | rfl
theorem ok_30_0 {R : Type} (T : St) (k : Ex → St → Option R) (r : R) (h0 : o_30_0 G_30_0 T k = some r) : evLoopN (evCode sm_30 FU (evFn sm_30 fns FU 0) ir30_b0) (St.norm ir30_v0) FU T k = some r := by
  obtain ⟨p0, p1, p2, p3, p4, p5, p6, p7, p8, rfl, h⟩ := o_30_0_inv h0
  refine evLoopN_L (t := (ir30_bt0 O_30_30_1)) noO_ok (ir30_bt0ok (fun T k r => OK_30_30_1 T k r)) _ _ _ _ ?_
  rw [loop_30_0]
  exact h
theorem OK_30_30_0 {R : Type} (T : St) (k : Ex → St → Option R) (r : R) (h : O_30_30_0 T k = some r) : evLoopN (evCode sm_30 FU (evFn sm_30 fns FU 0) ir30_b0) (St.norm ir30_v0) FU T k = some r := ok_30_0 T k r h
def F_30 (a0 : ((List Int) × ((List Int) × (Int × Unit)))) (a1 : (List (Bool × (Int × (Int × Unit))))) (a2 : (Int × (Int × Unit))) : Option (((List Int) × ((List Int) × (Int × Unit))) × (Int × (Int × Unit)) × Int × Unit) :=
  Sp.B_30_0 (Sp.L_30_0 (4611686018427387904 : Nat) a1 (↑(List.length a1) : Int) (0 : Int) a0 a2 ((0 : Int), PUnit.unit) [] [] ((0 : Int), (0 : Int), PUnit.unit)) (fun (y11 : Int) (y12 : Int × Int × PUnit) (y13 : List Int × List Int × Int × PUnit) => some (y13, y12, y11, PUnit.unit)) (fun (y14 : Int × Int × PUnit) (y15 : List Int × List Int × Int × PUnit) => some (y15, y14, (3 : Int), PUnit.unit)) fun (y16 : List Int × List Int × Int × PUnit) (y17 : Int × Int × PUnit) (y18 : Int × PUnit) (y19 y20 : List Int) (y21 : Int × Int × PUnit) => some (y16, y17, (0 : Int), PUnit.unit)
theorem fn_30 (a0 : ((List Int) × ((List Int) × (Int × Unit)))) (a1 : (List (Bool × (Int × (Int × Unit))))) (a2 : (Int × (Int × Unit))) : evFnL sm_30 FU (ovr noO (evFn sm_30 fns FU 0)) (ir30_t O_30_30_0) ir30 (ofH [(.pair (.slice (.int .u32)) (.pair (.slice (.int .i64)) (.pair (.int .i64) .unit))), (.slice (.pair .bool (.pair (.int .u16) (.pair (.int .u32) .unit)))), (.pair (.int .i64) (.pair (.int .u32) .unit))] (a0, a1, a2, ())) [] (pureK [(.pair (.slice (.int .u32)) (.pair (.slice (.int .i64)) (.pair (.int .i64) .unit))), (.pair (.int .i64) (.pair (.int .u32) .unit)), (.int .i64)]) = F_30 a0 a1 a2 := by kernel_rfl
def Sp.p_30 (a0 : ((List Int) × ((List Int) × (Int × Unit)))) (a1 : (List (Bool × (Int × (Int × Unit))))) (a2 : (Int × (Int × Unit))) : Bool := (F_30 a0 a1 a2).isSome
def Sp.v_30 (a0 : ((List Int) × ((List Int) × (Int × Unit)))) (a1 : (List (Bool × (Int × (Int × Unit))))) (a2 : (Int × (Int × Unit))) : ((List Int) × ((List Int) × (Int × Unit))) × (Int × (Int × Unit)) × Int × Unit := (F_30 a0 a1 a2).getD (dfH [(.pair (.slice (.int .u32)) (.pair (.slice (.int .i64)) (.pair (.int .i64) .unit))), (.pair (.int .i64) (.pair (.int .u32) .unit)), (.int .i64)])
def s_30 : Summ := shS [(.pair (.slice (.int .u32)) (.pair (.slice (.int .i64)) (.pair (.int .i64) .unit))), (.slice (.pair .bool (.pair (.int .u16) (.pair (.int .u32) .unit)))), (.pair (.int .i64) (.pair (.int .u32) .unit))] [(.pair (.slice (.int .u32)) (.pair (.slice (.int .i64)) (.pair (.int .i64) .unit))), (.pair (.int .i64) (.pair (.int .u32) .unit)), (.int .i64)] (fun x => Sp.p_30 x.1 x.2.1 x.2.2.1) (fun x => Sp.v_30 x.1 x.2.1 x.2.2.1)
theorem pv_30 (a0 : ((List Int) × ((List Int) × (Int × Unit)))) (a1 : (List (Bool × (Int × (Int × Unit))))) (a2 : (Int × (Int × Unit))) {y : ((List Int) × ((List Int) × (Int × Unit))) × (Int × (Int × Unit)) × Int × Unit} (h : F_30 a0 a1 a2 = some y) : Sp.p_30 a0 a1 a2 = true ∧ Sp.v_30 a0 a1 a2 = y := ⟨by rw [Sp.p_30, h]; rfl, by rw [Sp.v_30, h]; rfl⟩
theorem run_30 (x : HDen [(.pair (.slice (.int .u32)) (.pair (.slice (.int .i64)) (.pair (.int .i64) .unit))), (.slice (.pair .bool (.pair (.int .u16) (.pair (.int .u32) .unit)))), (.pair (.int .i64) (.pair (.int .u32) .unit))]) (y : HDen [(.pair (.slice (.int .u32)) (.pair (.slice (.int .i64)) (.pair (.int .i64) .unit))), (.pair (.int .i64) (.pair (.int .u32) .unit)), (.int .i64)]) (h : F_30 x.1 x.2.1 x.2.2.1 = some y) : evFn sm_30 fns FU 1 30 (ofH [(.pair (.slice (.int .u32)) (.pair (.slice (.int .i64)) (.pair (.int .i64) .unit))), (.slice (.pair .bool (.pair (.int .u16) (.pair (.int .u32) .unit)))), (.pair (.int .i64) (.pair (.int .u32) .unit))] x) [] (pureK [(.pair (.slice (.int .u32)) (.pair (.slice (.int .i64)) (.pair (.int .i64) .unit))), (.pair (.int .i64) (.pair (.int .u32) .unit)), (.int .i64)]) = some y :=
  evFnL_sound (fn := ir30) (t := (ir30_t O_30_30_0)) (o := noO) rfl noO_ok (ir30_tok (fun T k r => OK_30_30_0 T k r)) ((fn_30 _ _ _).trans h)
end
end Go.Ev
set_option linter.unusedSimpArgs false
set_option linter.unusedVariables false
namespace Go.Ev
open Go
set_option maxRecDepth 100000
set_option maxHeartbeats 4000000
namespace Sp
def opK (f : FlT) (o : OpT) : Nat := o.2.1.toNat % f.1.length
def opV (f : FlT) (o : OpT) (p : PwT) : RsT := if o.1 = true then ers f (opK f o / 64) p else prg f (opK f o) o.2.2.1 p
def doL : List OpT → FlT → PwT → RsT
  | [], f, p => (f, p, 0, ())
  | o :: l, f, p => if (opV f o p).2.2.1 = 0 then doL l (opV f o p).1 (opV f o p).2.1 else opV f o p
end Sp
theorem orW_fv {f : FlT} {s : Nat} {b : Int} (h : Sp.fv f = true) (h2 : s < f.2.1.length) (h3 : ¬ f.2.1.getD s 0 = f.2.2.1) : Sp.fv (Sp.ew f s b) = true := by
  rw [fv_iff] at h ⊢
  unfold Sp.ew
  dsimp only
  rw [orW_len, List.length_set]
  refine ⟨h.1, h.2.1, h.2.2.1, h.2.2.2.1, h.2.2.2.2.1, fun j hj => ?_⟩
  rw [getD_set _ _ _ _ _ h2]
  have a := h.2.2.2.2.2 s h2
  split
  · omega
  · exact h.2.2.2.2.2 j hj
theorem pw_fv {f : FlT} {k : Nat} {w b : Int} (h : Sp.fv f = true) : Sp.fv (Sp.pw f k w b) = true := by
  rw [fv_iff] at h ⊢
  unfold Sp.pw
  dsimp only
  rw [List.length_set]
  exact h
/-- What an operation does: nothing is lost, and a valid memory stays valid. -/
theorem opK_lt {f : FlT} (h : Sp.fv f = true) (o : OpT) : Sp.opK f o < f.1.length := by
  have := fv_iff.1 h
  exact Nat.mod_lt _ (by omega)
theorem opK_s {f : FlT} (h : Sp.fv f = true) (o : OpT) : Sp.opK f o / 64 < f.2.1.length := by
  have := fv_iff.1 h
  have := opK_lt h o
  omega
theorem opV_ok {f : FlT} {o : OpT} {p : PwT} (h : Sp.fv f = true) (h0 : 0 ≤ p.1) (h1 : p.1 ≤ 1099511627776) (e : (Sp.opV f o p).2.2.1 = 0) : Sp.fv (Sp.opV f o p).1 = true ∧ Sp.shp f (Sp.opV f o p).1 = true ∧ 2 ≤ p.1 ∧ (Sp.opV f o p).2.1 = (p.1 - 1, p.2) := by
  unfold Sp.opV at e ⊢
  by_cases ho : o.1 = true
  · rw [if_pos ho] at e ⊢
    unfold Sp.ers at e ⊢
    by_cases e3 : f.2.1.getD (Sp.opK f o / 64) 0 = f.2.2.1
    · rw [if_pos e3] at e; cases e
    rw [if_neg e3] at e ⊢
    by_cases e0 : p.1 = 0
    · rw [if_pos e0] at e; cases e
    rw [if_neg e0] at e ⊢
    by_cases e1 : p.1 = 1
    · rw [if_pos e1] at e; cases e
    rw [if_neg e1] at e ⊢
    refine ⟨orW_fv h (opK_s h o) e3, ?_, by omega, rfl⟩
    simp [Sp.shp, Sp.ew, orW_len]
  · rw [if_neg ho] at e ⊢
    unfold Sp.prg at e ⊢
    by_cases e0 : p.1 = 0
    · rw [if_pos e0] at e; cases e
    rw [if_neg e0] at e ⊢
    by_cases e1 : p.1 = 1
    · rw [if_pos e1] at e; cases e
    rw [if_neg e1] at e ⊢
    refine ⟨pw_fv h, ?_, by omega, rfl⟩
    simp [Sp.shp, Sp.pw]
theorem do_loop (l : List OpT) (hl : ∀ x ∈ l, 0 ≤ x.2.1 ∧ x.2.1 < 65536) (hn : l.length ≤ 1000) (z1 : Int × Unit) (z2 z3 : List Int) (z4 : PwT) : ∀ (d m j : Nat) (f : FlT) (p : PwT), j + d = l.length → d < m → Sp.fv f = true → 0 ≤ p.1 → p.1 ≤ 1099511627776 →
    Sp.B_30_0 (Sp.L_30_0 m l l.length (j : Int) f p z1 z2 z3 z4) (fun (y11 : Int) (y12 : PwT) (y13 : FlT) => some (y13, y12, y11, PUnit.unit)) (fun (y14 : PwT) (y15 : FlT) => some (y15, y14, (3 : Int), PUnit.unit)) (fun (y16 : FlT) (y17 : PwT) (y18 : Int × PUnit) (y19 y20 : List Int) (y21 : PwT) => some (y16, y17, (0 : Int), PUnit.unit)) = some (Sp.doL (l.drop j) f p)
  | 0, m + 1, j, f, p, hj, _, _, _, _ => by
    have : j = l.length := by omega
    subst this
    rw [Sp.L_30_0, cond_dff (by omega), List.drop_length]
    rfl
  | d + 1, m + 1, j, f, p, hj, hm, hf, h0, h1 => by
    have hjl : j < l.length := by omega
    have hv := fv_iff.1 hf
    rw [List.drop_eq_getElem_cons hjl, Sp.doL]
    have hx : l.getD j (Ty.dflt (.pair .bool (.pair (.int .u16) (.pair (.int .u32) .unit)))) = l[j] := getD_at _ hjl
    have hb := hl l[j] (List.getElem_mem hjl)
    rw [Sp.L_30_0, cond_dtt (by omega)]
    simp only [gd_inB (show (0 : Int) ≤ (j : Int) by omega) (show (j : Int) < ((l.length : Nat) : Int) by omega), Int.toNat_natCast, hx]
    generalize l[j] = o at *
    have ek : Int.tmod (IntKind.wrap .i64 o.2.1) (f.1.length : Int) = (Sp.opK f o : Int) := by
      rw [wi64 (by omega) (by omega), Int.tmod_eq_emod_of_nonneg (by omega)]
      unfold Sp.opK
      rw [Int.natCast_emod, Int.toNat_of_nonneg hb.1]
    have es : IntKind.wrap .i64 (Int.tdiv (Sp.opK f o : Int) 64) = ((Sp.opK f o / 64 : Nat) : Int) := by
      have := opK_lt hf o
      rw [Int.tdiv_eq_ediv_of_nonneg (by omega), wi64 (by omega) (by omega)]
      omega
    rw [ek, es, (ers_pv hf h0 h1 (opK_s hf o)).1, (ers_pv hf h0 h1 (opK_s hf o)).2, (prg_pv hf h0 h1 (opK_lt hf o)).1, (prg_pv hf h0 h1 (opK_lt hf o)).2, gd_tt, gd_tt]
    have hz : ((f.1.length : Int) == 0) = false := beq_eq_false_iff_ne.2 (by omega)
    rw [hz, Bool.not_false, gd_tt]
    have hk : ∀ (o' : OpT) (r : RsT), r = Sp.opV f o p → Sp.B_30_0
        (Sp.B_30_1 (Sp.J_30_1 r.2.2.1 l l.length (j : Int) f r.2.1 z1 z2 z3 z4 r.1) (fun (y32 : Int) (y33 : PwT) (y34 : FlT) => some (Sp.E_30_0.e0 y32 y33 y34)) (fun (y35 : PwT) (y36 : FlT) => some (Sp.E_30_0.e1 y35 y36)) (fun (y37 : Int) (y38 : List OpT) (y39 y40 : Int) (y41 : FlT) (y42 : PwT) (y43 : Int × PUnit) (y44 y45 : List Int) (y46 : PwT) (y47 : FlT) => Sp.L_30_0 m y38 y39 (IntKind.wrap .i64 (y40 + (1 : Int))) y47 y42 y43 y44 y45 y46)) (fun (y11 : Int) (y12 : PwT) (y13 : FlT) => some (y13, y12, y11, PUnit.unit)) (fun (y14 : PwT) (y15 : FlT) => some (y15, y14, (3 : Int), PUnit.unit)) (fun (y16 : FlT) (y17 : PwT) (y18 : Int × PUnit) (y19 y20 : List Int) (y21 : PwT) => some (y16, y17, (0 : Int), PUnit.unit)) = some (if (Sp.opV f o p).2.2.1 = 0 then Sp.doL (l.drop (j + 1)) (Sp.opV f o p).1 (Sp.opV f o p).2.1 else Sp.opV f o p) := by
      rintro _ r rfl
      rw [Sp.J_30_1]
      by_cases e : (Sp.opV f o p).2.2.1 = 0
      · have hok := opV_ok hf h0 h1 e
        rw [cond_nff e, if_pos e, (shp_pv f _).1, (shp_pv f _).2, gd_tt, hok.2.1, Bool.not_true, cond_f]
        simp only [Sp.B_30_1]
        rw [wi64 (by omega) (by omega)]
        have hp : (Sp.opV f o p).2.1.1 = p.1 - 1 := by rw [hok.2.2.2]
        have := do_loop l hl hn z1 z2 z3 z4 d m (j + 1) (Sp.opV f o p).1 (Sp.opV f o p).2.1 (by omega) (by omega) hok.1 (by omega) (by omega)
        push_cast at this
        exact this
      · rw [cond_ntt e, if_neg e]
        rfl
    by_cases ho : o.1 = true
    · have hq := hk o (Sp.ers f (Sp.opK f o / 64) p) (by unfold Sp.opV; rw [if_pos ho])
      rw [ho, cond_t]
      exact hq
    · have hq := hk o (Sp.prg f (Sp.opK f o) o.2.2.1 p) (by unfold Sp.opV; rw [if_neg ho])
      rw [Bool.not_eq_true] at ho
      rw [ho, cond_f]
      exact hq
theorem do_pv (l : List OpT) (hl : ∀ x ∈ l, 0 ≤ x.2.1 ∧ x.2.1 < 65536) (hn : l.length ≤ 1000) {f : FlT} {p : PwT} (hf : Sp.fv f = true) (h0 : 0 ≤ p.1) (h1 : p.1 ≤ 1099511627776) : Sp.p_30 f l p = true ∧ Sp.v_30 f l p = Sp.doL l f p := by
  refine pv_30 f l p ?_
  have := do_loop l hl hn (0, ()) [] [] (0, 0, ()) l.length 4611686018427387904 0 f p (by omega) (by omega) hf h0 h1
  exact this
/-! The law's mathematics. -/
theorem doL_app (a b : List OpT) : ∀ (f : FlT) (p : PwT), Sp.doL (a ++ b) f p = if (Sp.doL a f p).2.2.1 = 0 then Sp.doL b (Sp.doL a f p).1 (Sp.doL a f p).2.1 else Sp.doL a f p := by
  induction a with
  | nil => intro f p; rfl
  | cons o a ih =>
    intro f p
    rw [List.cons_append, Sp.doL, Sp.doL]
    by_cases e : (Sp.opV f o p).2.2.1 = 0
    · rw [if_pos e, if_pos e, ih]
    · rw [if_neg e, if_neg e, if_neg e]
/-- Supplies that do not fail do the same. -/
theorem opV_two {f : FlT} {o : OpT} {p q : PwT} (hp : 2 ≤ p.1) (hq : 2 ≤ q.1) : (Sp.opV f o p).2.2.1 = (Sp.opV f o q).2.2.1 ∧ (Sp.opV f o p).1 = (Sp.opV f o q).1 ∧ ((Sp.opV f o p).2.2.1 = 0 ∨ (Sp.opV f o p).2.2.1 = 19 ∧ (Sp.opV f o p).1.1 = []) := by
  unfold Sp.opV
  split
  · unfold Sp.ers
    split
    · exact ⟨rfl, rfl, Or.inr ⟨rfl, rfl⟩⟩
    · rw [if_neg (by omega), if_neg (by omega), if_neg (by omega), if_neg (by omega)]
      exact ⟨rfl, rfl, Or.inl rfl⟩
  · unfold Sp.prg
    rw [if_neg (by omega), if_neg (by omega), if_neg (by omega), if_neg (by omega)]
    exact ⟨rfl, rfl, Or.inl rfl⟩
theorem doL_two : ∀ (l : List OpT) (f : FlT) (p q : PwT), Sp.fv f = true → (l.length : Int) + 1 ≤ p.1 → (l.length : Int) + 1 ≤ q.1 → p.1 ≤ 1099511627776 → q.1 ≤ 1099511627776 → (Sp.doL l f p).2.2.1 = (Sp.doL l f q).2.2.1 ∧ (Sp.doL l f p).1 = (Sp.doL l f q).1 ∧ ((Sp.doL l f p).2.2.1 = 0 ∧ (Sp.doL l f p).2.1 = (p.1 - l.length, p.2) ∧ Sp.fv (Sp.doL l f p).1 = true ∨ (Sp.doL l f p).2.2.1 = 19 ∧ (Sp.doL l f p).1.1 = [])
  | [], f, p, q, hf, _, _, _, _ => ⟨rfl, rfl, Or.inl ⟨rfl, by simp [Sp.doL], hf⟩⟩
  | o :: l, f, p, q, hf, hp, hq, hp2, hq2 => by
    rw [List.length_cons] at hp hq
    obtain ⟨a, b, c⟩ := opV_two (f := f) (o := o) (p := p) (q := q) (by omega) (by omega)
    rw [Sp.doL, Sp.doL]
    by_cases e : (Sp.opV f o p).2.2.1 = 0
    · have e' : (Sp.opV f o q).2.2.1 = 0 := by rw [← a]; exact e
      rw [if_pos e, if_pos e']
      obtain ⟨f1, _, _, f4⟩ := opV_ok hf (by omega) hp2 e
      obtain ⟨g1, _, _, g4⟩ := opV_ok hf (by omega) hq2 e'
      have e1 : (Sp.opV f o p).2.1.1 = p.1 - 1 := by rw [f4]
      have e2 : (Sp.opV f o q).2.1.1 = q.1 - 1 := by rw [g4]
      have := doL_two l (Sp.opV f o p).1 (Sp.opV f o p).2.1 (Sp.opV f o q).2.1 f1 (by omega) (by omega) (by omega) (by omega)
      rw [b] at this ⊢
      refine ⟨this.1, this.2.1, ?_⟩
      rcases this.2.2 with ⟨h1, h2, h3⟩ | h
      · refine Or.inl ⟨h1, ?_, h3⟩
        rw [h2, f4, List.length_cons]
        congr 1
        push_cast
        omega
      · exact Or.inr h
    · have e' : ¬ (Sp.opV f o q).2.2.1 = 0 := by rw [← a]; exact e
      rw [if_neg e, if_neg e']
      refine ⟨a, b, Or.inr ?_⟩
      rcases c with h | h
      · exact absurd h e
      · exact h
/-- An operation that is interrupted. -/
theorem opV_one {f : FlT} {o : OpT} {p : PwT} (hp : 2 ≤ p.1) (e : (Sp.opV f o p).2.2.1 = 0) (mix : Int) (hf : Sp.fv f = true) : (Sp.opV f o (1, mix, ())).2.2.1 = 18 ∧ (Sp.opV f o (1, mix, ())).2.1.1 = 0 ∧ Sp.fv (Sp.opV f o (1, mix, ())).1 = true := by
  unfold Sp.opV at e ⊢
  split
  · rename_i ho
    rw [if_pos ho] at e
    unfold Sp.ers at e ⊢
    by_cases e3 : f.2.1.getD (Sp.opK f o / 64) 0 = f.2.2.1
    · rw [if_pos e3] at e; cases e
    rw [if_neg e3, if_neg (show ¬ (1 : Int) = 0 by decide), if_pos rfl]
    exact ⟨rfl, rfl, orW_fv hf (opK_s hf o) e3⟩
  · unfold Sp.prg
    rw [if_neg (show ¬ (1 : Int) = 0 by decide), if_pos rfl]
    exact ⟨rfl, rfl, pw_fv hf⟩
end Go.Ev
namespace Go.Ev
open Go
set_option maxRecDepth 100000
set_option maxHeartbeats 4000000
set_option linter.unusedVariables false
noncomputable section

def sm_9 : Nat → Option Summ := fun f => bif Nat.beq f 11 then some s_11 else bif Nat.beq f 12 then some s_12 else bif Nat.beq f 16 then some s_16 else bif Nat.beq f 18 then some s_18 else bif Nat.beq f 23 then some s_23 else bif Nat.beq f 26 then some s_26 else bif Nat.beq f 28 then some s_28 else none
def T_9_1 (p0 : Int) (p1 : Int) (p2 : Int) (p3 : Int) (p4 : List Int × List Int × Int × PUnit) (p5 : List Int × List Int × Int × PUnit) (p6 : List Int × List Int × Int × PUnit) : St := St.mk [jk, jk, CV.ptr (0 : Nat) [], jk, jk, CV.int IntKind.i64 p0, CV.ptr (1 : Nat) [], jk, CV.ptr (2 : Nat) [], jk, jk, jk, jk, jk, jk, jk, jk, jk, jk, jk, jk, jk, jk, jk, jk, jk, jk, jk, jk, jk, jk, CV.int IntKind.i64 p1, jk, jk, jk, jk, jk, jk, jk, jk, jk, jk, jk, jk, jk, jk, jk, jk, jk, jk, jk, jk, jk, jk, jk, jk, jk, jk, jk, jk, jk, jk, jk, jk, jk, jk, jk, jk, jk, jk, jk, jk, jk, jk, jk, jk, jk, jk, jk, jk, jk, jk, jk, jk, jk, jk, jk, jk, jk, jk, jk, jk, jk, jk, jk, jk, jk, jk, CV.int IntKind.i64 p2, CV.int IntKind.i64 p3, jk, jk, jk, jk, jk, jk, jk, jk, jk, jk, jk, jk, jk, jk, jk, jk, jk, jk, jk, jk, jk, jk] [Blk.mem (CV.pure (Ty.pair (Ty.slice (Ty.int IntKind.u32)) (Ty.pair (Ty.slice (Ty.int IntKind.i64)) (Ty.pair (Ty.int IntKind.i64) Ty.unit))) p4), Blk.mem (CV.pure (Ty.pair (Ty.slice (Ty.int IntKind.u32)) (Ty.pair (Ty.slice (Ty.int IntKind.i64)) (Ty.pair (Ty.int IntKind.i64) Ty.unit))) p5), Blk.mem (CV.pure (Ty.pair (Ty.slice (Ty.int IntKind.u32)) (Ty.pair (Ty.slice (Ty.int IntKind.i64)) (Ty.pair (Ty.int IntKind.i64) Ty.unit))) p6)] (0 : Nat)
def X_9_1_0 : St := St.mk [jk, jk, jk, jk, CV.bool false, jk, jk, jk, jk, jk, jk, jk, jk, jk, jk, jk, jk, jk, jk, jk, jk, jk, jk, jk, jk, jk, jk, jk, jk, jk, jk, jk, jk, jk, jk, jk, jk, jk, jk, jk, jk, jk, jk, jk, jk, jk, jk, jk, jk, jk, jk, jk, jk, jk, jk, jk, jk, jk, jk, jk, jk, jk, jk, jk, jk, jk, jk, jk, jk, jk, jk, jk, jk, jk, jk, jk, jk, jk, jk, jk, jk, jk, jk, jk, jk, jk, jk, jk, jk, jk, jk, jk, jk, jk, jk, jk, jk, jk, jk, jk, jk, jk, jk, jk, jk, jk, jk, jk, jk, jk, jk, jk, jk, jk, jk, jk, jk, jk, jk, jk, jk, jk] [] (0 : Nat)
def X_9_1_1 (p0 : Int) (p1 : Int) (p4 : List Int × List Int × Int × PUnit) (p5 : List Int × List Int × Int × PUnit) (p6 : List Int × List Int × Int × PUnit) : St := St.mk [jk, jk, CV.ptr (0 : Nat) [], jk, jk, CV.int IntKind.i64 p0, CV.ptr (1 : Nat) [], jk, CV.ptr (2 : Nat) [], jk, jk, jk, jk, jk, jk, jk, jk, jk, jk, jk, jk, jk, jk, jk, jk, jk, jk, jk, jk, jk, jk, CV.int IntKind.i64 p1, jk, jk, jk, jk, jk, jk, jk, jk, jk, jk, jk, jk, jk, jk, jk, jk, jk, jk, jk, jk, jk, jk, jk, jk, jk, jk, jk, jk, jk, jk, jk, jk, jk, jk, jk, jk, jk, jk, jk, jk, jk, jk, jk, jk, jk, jk, jk, jk, jk, jk, jk, jk, jk, jk, jk, jk, jk, jk, jk, jk, jk, jk, jk, jk, jk, jk, jk, jk, jk, jk, jk, jk, jk, jk, jk, jk, jk, jk, jk, jk, jk, jk, jk, jk, jk, jk, jk, jk, jk, jk] [Blk.mem (CV.pure (Ty.pair (Ty.slice (Ty.int IntKind.u32)) (Ty.pair (Ty.slice (Ty.int IntKind.i64)) (Ty.pair (Ty.int IntKind.i64) Ty.unit))) p4), Blk.mem (CV.pure (Ty.pair (Ty.slice (Ty.int IntKind.u32)) (Ty.pair (Ty.slice (Ty.int IntKind.i64)) (Ty.pair (Ty.int IntKind.i64) Ty.unit))) p5), Blk.mem (CV.pure (Ty.pair (Ty.slice (Ty.int IntKind.u32)) (Ty.pair (Ty.slice (Ty.int IntKind.i64)) (Ty.pair (Ty.int IntKind.i64) Ty.unit))) p6)] (0 : Nat)
inductive Sp.E_9_1 where
  | e0
  | e1 (p0 : Int) (p1 : Int) (p4 : List Int × List Int × Int × PUnit) (p5 : List Int × List Int × Int × PUnit) (p6 : List Int × List Int × Int × PUnit)
def Sp.B_9_1 {R : Type} (r : Option Sp.E_9_1) (k0 : Option R) (k1 : (Int) → (Int) → (List Int × List Int × Int × PUnit) → (List Int × List Int × Int × PUnit) → (List Int × List Int × Int × PUnit) → Option R) : Option R := match r with
  | none => none
  | some (.e0) => k0
  | some (.e1 p0 p1 p4 p5 p6) => k1 p0 p1 p4 p5 p6
def Sp.L_9_1 : Nat → (Int) → (Int) → (Int) → (Int) → (List Int × List Int × Int × PUnit) → (List Int × List Int × Int × PUnit) → (List Int × List Int × Int × PUnit) → Option Sp.E_9_1
  | 0, _, _, _, _, _, _, _ => none
  | m + 1, p0, p1, p2, p3, p4, p5, p6 => bif decide (p3 < p2) then bif IntKind.wrap IntKind.i64 (Int.tdiv p3 (64 : Int)) != p0 then gd (inB p3 (List.length (Prod.fst p6))) (gd (inB p3 (List.length (Prod.fst p4))) (bif List.getD (Prod.fst p6) (Int.toNat p3) (0 : Int) != List.getD (Prod.fst p4) (Int.toNat p3) (0 : Int) then some (Sp.E_9_1.e0) else Sp.L_9_1 m p0 p1 p2 (IntKind.wrap IntKind.i64 (p3 + (1 : Int))) p4 p5 p6)) else Sp.L_9_1 m p0 p1 p2 (IntKind.wrap IntKind.i64 (p3 + (1 : Int))) p4 p5 p6 else some (Sp.E_9_1.e1 p0 p1 p4 p5 p6)
def G_9_1 {R : Type} (p0 : Int) (p1 : Int) (p2 : Int) (p3 : Int) (p4 : List Int × List Int × Int × PUnit) (p5 : List Int × List Int × Int × PUnit) (p6 : List Int × List Int × Int × PUnit) (k : Ex → St → Option R) : Option R := Sp.B_9_1 (Sp.L_9_1 FU p0 p1 p2 p3 p4 p5 p6) (k Ex.ret (X_9_1_0)) (fun p0 p1 p4 p5 p6 => k (Ex.exit (2 : Nat)) (X_9_1_1 p0 p1 p4 p5 p6))
def o_9_1 {R : Type} (G : (Int) → (Int) → (Int) → (Int) → (List Int × List Int × Int × PUnit) → (List Int × List Int × Int × PUnit) → (List Int × List Int × Int × PUnit) → (Ex → St → Option R) → Option R) : St → (Ex → St → Option R) → Option R := fun T k => match T.sl.getD 2 .junk, T.sl.getD 5 .junk, T.sl.getD 6 .junk, T.sl.getD 8 .junk, T.sl.getD 31 .junk, T.sl.getD 98 .junk, T.sl.getD 99 .junk, T.hp with
  | CV.ptr (0 : Nat) [], CV.int IntKind.i64 p0, CV.ptr (1 : Nat) [], CV.ptr (2 : Nat) [], CV.int IntKind.i64 p1, CV.int IntKind.i64 p2, CV.int IntKind.i64 p3, ((Blk.mem (CV.pure (Ty.pair (Ty.slice (Ty.int IntKind.u32)) (Ty.pair (Ty.slice (Ty.int IntKind.i64)) (Ty.pair (Ty.int IntKind.i64) Ty.unit))) p4)) :: (Blk.mem (CV.pure (Ty.pair (Ty.slice (Ty.int IntKind.u32)) (Ty.pair (Ty.slice (Ty.int IntKind.i64)) (Ty.pair (Ty.int IntKind.i64) Ty.unit))) p5)) :: (Blk.mem (CV.pure (Ty.pair (Ty.slice (Ty.int IntKind.u32)) (Ty.pair (Ty.slice (Ty.int IntKind.i64)) (Ty.pair (Ty.int IntKind.i64) Ty.unit))) p6)) :: []) => gd (shapeOK T 122 [2, 5, 6, 8, 31, 98, 99] (0 : Nat)) (G p0 p1 p2 p3 p4 p5 p6 k)
  | _, _, _, _, _, _, _, _ => none
theorem o_9_1_inv {R : Type} {G : (Int) → (Int) → (Int) → (Int) → (List Int × List Int × Int × PUnit) → (List Int × List Int × Int × PUnit) → (List Int × List Int × Int × PUnit) → (Ex → St → Option R) → Option R} {T : St} {k : Ex → St → Option R} {r : R} (h : o_9_1 G T k = some r) : ∃ p0 p1 p2 p3 p4 p5 p6, T = T_9_1 p0 p1 p2 p3 p4 p5 p6 ∧ G p0 p1 p2 p3 p4 p5 p6 k = some r := by
  unfold o_9_1 at h
  split at h
  · obtain ⟨hs, h'⟩ := gd_some h
    refine ⟨_, _, _, _, _, _, _, (st_of (asg := [(2, _), (5, _), (6, _), (8, _), (31, _), (98, _), (99, _)]) hs ⟨by assumption, by assumption, by assumption, by assumption, by assumption, by assumption, by assumption, trivial⟩ (by assumption)).trans ?_, h'⟩
    kernel_rfl
  · cases h
def T_9_0 (p0 : Int) (p1 : Int) (p2 : List Int × List Int × Int × PUnit) (p3 : List Int × List Int × Int × PUnit) : St := St.mk [jk, jk, CV.ptr (0 : Nat) [], jk, jk, CV.int IntKind.i64 p0, CV.ptr (1 : Nat) [], jk, jk, jk, jk, jk, jk, jk, jk, jk, jk, jk, jk, jk, jk, jk, jk, jk, jk, jk, jk, jk, jk, jk, jk, CV.int IntKind.i64 p1, jk, jk, jk, jk, jk, jk, jk, jk, jk, jk, jk, jk, jk, jk, jk, jk, jk, jk, jk, jk, jk, jk, jk, jk, jk, jk, jk, jk, jk, jk, jk, jk, jk, jk, jk, jk, jk, jk, jk, jk, jk, jk, jk, jk, jk, jk, jk, jk, jk, jk, jk, jk, jk, jk, jk, jk, jk, jk, jk, jk, jk, jk, jk, jk, jk, jk, jk, jk, jk, jk, jk, jk, jk, jk, jk, jk, jk, jk, jk, jk, jk, jk, jk, jk, jk, jk, jk, jk, jk, jk] [Blk.mem (CV.pure (Ty.pair (Ty.slice (Ty.int IntKind.u32)) (Ty.pair (Ty.slice (Ty.int IntKind.i64)) (Ty.pair (Ty.int IntKind.i64) Ty.unit))) p2), Blk.mem (CV.pure (Ty.pair (Ty.slice (Ty.int IntKind.u32)) (Ty.pair (Ty.slice (Ty.int IntKind.i64)) (Ty.pair (Ty.int IntKind.i64) Ty.unit))) p3)] (0 : Nat)
def X_9_0_0 (p0 : Int) (p3 : List Int × List Int × Int × PUnit) : St := St.mk [jk, jk, jk, jk, CV.bool ((↑(List.length (Prod.fst (Prod.fst (Sp.v_28 p3 p0 (Prod.fst Sp.v_18))))) : Int) == (0 : Int)), jk, jk, jk, jk, jk, jk, jk, jk, jk, jk, jk, jk, jk, jk, jk, jk, jk, jk, jk, jk, jk, jk, jk, jk, jk, jk, jk, jk, jk, jk, jk, jk, jk, jk, jk, jk, jk, jk, jk, jk, jk, jk, jk, jk, jk, jk, jk, jk, jk, jk, jk, jk, jk, jk, jk, jk, jk, jk, jk, jk, jk, jk, jk, jk, jk, jk, jk, jk, jk, jk, jk, jk, jk, jk, jk, jk, jk, jk, jk, jk, jk, jk, jk, jk, jk, jk, jk, jk, jk, jk, jk, jk, jk, jk, jk, jk, jk, jk, jk, jk, jk, jk, jk, jk, jk, jk, jk, jk, jk, jk, jk, jk, jk, jk, jk, jk, jk] [] (0 : Nat)
def X_9_0_1 : St := St.mk [jk, jk, jk, jk, CV.bool false, jk, jk, jk, jk, jk, jk, jk, jk, jk, jk, jk, jk, jk, jk, jk, jk, jk, jk, jk, jk, jk, jk, jk, jk, jk, jk, jk, jk, jk, jk, jk, jk, jk, jk, jk, jk, jk, jk, jk, jk, jk, jk, jk, jk, jk, jk, jk, jk, jk, jk, jk, jk, jk, jk, jk, jk, jk, jk, jk, jk, jk, jk, jk, jk, jk, jk, jk, jk, jk, jk, jk, jk, jk, jk, jk, jk, jk, jk, jk, jk, jk, jk, jk, jk, jk, jk, jk, jk, jk, jk, jk, jk, jk, jk, jk, jk, jk, jk, jk, jk, jk, jk, jk, jk, jk, jk, jk, jk, jk, jk, jk, jk, jk, jk, jk, jk, jk] [] (0 : Nat)
def X_9_0_2 : St := St.mk [jk, jk, jk, jk, jk, jk, jk, jk, jk, jk, jk, jk, jk, jk, jk, jk, jk, jk, jk, jk, jk, jk, jk, jk, jk, jk, jk, jk, jk, jk, jk, jk, jk, jk, jk, jk, jk, jk, jk, jk, jk, jk, jk, jk, jk, jk, jk, jk, jk, jk, jk, jk, jk, jk, jk, jk, jk, jk, jk, jk, jk, jk, jk, jk, jk, jk, jk, jk, jk, jk, jk, jk, jk, jk, jk, jk, jk, jk, jk, jk, jk, jk, jk, jk, jk, jk, jk, jk, jk, jk, jk, jk, jk, jk, jk, jk, jk, jk, jk, jk, jk, jk, jk, jk, jk, jk, jk, jk, jk, jk, jk, jk, jk, jk, jk, jk, jk, jk, jk, jk, jk, jk] [] (0 : Nat)
inductive Sp.E_9_0 where
  | e0 (p0 : Int) (p3 : List Int × List Int × Int × PUnit)
  | e1
  | e2
def Sp.B_9_0 {R : Type} (r : Option Sp.E_9_0) (k0 : (Int) → (List Int × List Int × Int × PUnit) → Option R) (k1 : Option R) (k2 : Option R) : Option R := match r with
  | none => none
  | some (.e0 p0 p3) => k0 p0 p3
  | some (.e1) => k1
  | some (.e2) => k2
def Sp.L_9_0 : Nat → (Int) → (Int) → (List Int × List Int × Int × PUnit) → (List Int × List Int × Int × PUnit) → Option Sp.E_9_0
  | 0, _, _, _, _ => none
  | m + 1, p0, p1, p2, p3 => bif decide (p1 < (12 : Int)) then gd Sp.p_18 (gd (Sp.p_28 p3 p0 (Prod.fst Sp.v_18)) (gd (inB p0 (List.length (Prod.fst (Prod.snd p2)))) (bif IntKind.wrap IntKind.i64 (List.getD (Prod.fst (Prod.snd p2)) (Int.toNat p0) (0 : Int) + p1) == Prod.fst (Prod.snd (Prod.snd p2)) then bif Prod.fst (Prod.snd (Prod.snd (Sp.v_28 p3 p0 (Prod.fst Sp.v_18)))) == (19 : Int) then some (Sp.E_9_0.e0 p0 p3) else some (Sp.E_9_0.e1) else bif Prod.fst (Prod.snd (Prod.snd (Sp.v_28 p3 p0 (Prod.fst Sp.v_18)))) != (0 : Int) then some (Sp.E_9_0.e1) else gd (Sp.p_23 p2 (Prod.fst (Sp.v_28 p3 p0 (Prod.fst Sp.v_18)))) (bif !Prod.fst (Sp.v_23 p2 (Prod.fst (Sp.v_28 p3 p0 (Prod.fst Sp.v_18)))) then some (Sp.E_9_0.e1) else gd (inB p0 (List.length (Prod.fst (Prod.snd (Prod.fst (Sp.v_28 p3 p0 (Prod.fst Sp.v_18))))))) (gd (inB p0 (List.length (Prod.fst (Prod.snd p2)))) (bif List.getD (Prod.fst (Prod.snd (Prod.fst (Sp.v_28 p3 p0 (Prod.fst Sp.v_18))))) (Int.toNat p0) (0 : Int) != IntKind.wrap IntKind.i64 (IntKind.wrap IntKind.i64 (List.getD (Prod.fst (Prod.snd p2)) (Int.toNat p0) (0 : Int) + p1) + (1 : Int)) then some (Sp.E_9_0.e1) else gd (Sp.p_26 (Prod.fst (Sp.v_28 p3 p0 (Prod.fst Sp.v_18))) p0) (bif !Prod.fst (Sp.v_26 (Prod.fst (Sp.v_28 p3 p0 (Prod.fst Sp.v_18))) p0) then some (Sp.E_9_0.e1) else bif Prod.fst (Prod.snd (Sp.v_26 (Prod.fst (Sp.v_28 p3 p0 (Prod.fst Sp.v_18))) p0)) != (0 : Int) then some (Sp.E_9_0.e1) else Sp.B_9_1 (Sp.L_9_1 (4611686018427387904 : Nat) p0 p1 (↑(List.length (Prod.fst p2)) : Int) (0 : Int) p2 p3 (Prod.fst (Sp.v_28 p3 p0 (Prod.fst Sp.v_18)))) (some (Sp.E_9_0.e1)) fun (y5 y6 : Int) (y7 y8 y9 : List Int × List Int × Int × PUnit) => Sp.L_9_0 m y5 (IntKind.wrap IntKind.i64 (y6 + (1 : Int))) y7 y9))))))) else some (Sp.E_9_0.e2)
def G_9_0 {R : Type} (p0 : Int) (p1 : Int) (p2 : List Int × List Int × Int × PUnit) (p3 : List Int × List Int × Int × PUnit) (k : Ex → St → Option R) : Option R := Sp.B_9_0 (Sp.L_9_0 FU p0 p1 p2 p3) (fun p0 p3 => k Ex.ret (X_9_0_0 p0 p3)) (k Ex.ret (X_9_0_1)) (k (Ex.exit (0 : Nat)) (X_9_0_2))
def o_9_0 {R : Type} (G : (Int) → (Int) → (List Int × List Int × Int × PUnit) → (List Int × List Int × Int × PUnit) → (Ex → St → Option R) → Option R) : St → (Ex → St → Option R) → Option R := fun T k => match T.sl.getD 2 .junk, T.sl.getD 5 .junk, T.sl.getD 6 .junk, T.sl.getD 31 .junk, T.hp with
  | CV.ptr (0 : Nat) [], CV.int IntKind.i64 p0, CV.ptr (1 : Nat) [], CV.int IntKind.i64 p1, ((Blk.mem (CV.pure (Ty.pair (Ty.slice (Ty.int IntKind.u32)) (Ty.pair (Ty.slice (Ty.int IntKind.i64)) (Ty.pair (Ty.int IntKind.i64) Ty.unit))) p2)) :: (Blk.mem (CV.pure (Ty.pair (Ty.slice (Ty.int IntKind.u32)) (Ty.pair (Ty.slice (Ty.int IntKind.i64)) (Ty.pair (Ty.int IntKind.i64) Ty.unit))) p3)) :: []) => gd (shapeOK T 122 [2, 5, 6, 31] (0 : Nat)) (G p0 p1 p2 p3 k)
  | _, _, _, _, _ => none
theorem o_9_0_inv {R : Type} {G : (Int) → (Int) → (List Int × List Int × Int × PUnit) → (List Int × List Int × Int × PUnit) → (Ex → St → Option R) → Option R} {T : St} {k : Ex → St → Option R} {r : R} (h : o_9_0 G T k = some r) : ∃ p0 p1 p2 p3, T = T_9_0 p0 p1 p2 p3 ∧ G p0 p1 p2 p3 k = some r := by
  unfold o_9_0 at h
  split at h
  · obtain ⟨hs, h'⟩ := gd_some h
    refine ⟨_, _, _, _, (st_of (asg := [(2, _), (5, _), (6, _), (31, _)]) hs ⟨by assumption, by assumption, by assumption, by assumption, trivial⟩ (by assumption)).trans ?_, h'⟩
    kernel_rfl
  · cases h
def O_9_9_1 {R : Type} : St → (Ex → St → Option R) → Option R := fun T k => o_9_1 G_9_1 T k
def O_9_9_0 {R : Type} : St → (Ex → St → Option R) → Option R := fun T k => o_9_0 G_9_0 T k
theorem body_9_1 {R : Type} (K0 : St → Option R) (K1 : Ex → St → Option R) (p0 : Int) (p1 : Int) (p2 : Int) (p3 : Int) (p4 : List Int × List Int × Int × PUnit) (p5 : List Int × List Int × Int × PUnit) (p6 : List Int × List Int × Int × PUnit) : evLB (evCodeL sm_9 FU (ovr noO (evFn sm_9 fns FU 0)) .nil ir9_b1) (St.norm ir9_v1) (T_9_1 p0 p1 p2 p3 p4 p5 p6) K0 K1 =
  bif decide (p3 < p2) then bif IntKind.wrap IntKind.i64 (Int.tdiv p3 (64 : Int)) != p0 then gd (inB p3 (List.length (Prod.fst p6))) (gd (inB p3 (List.length (Prod.fst p4))) (bif List.getD (Prod.fst p6) (Int.toNat p3) (0 : Int) != List.getD (Prod.fst p4) (Int.toNat p3) (0 : Int) then K1 Ex.ret X_9_1_0 else K0 (T_9_1 p0 p1 p2 (IntKind.wrap IntKind.i64 (p3 + (1 : Int))) p4 p5 p6))) else K0 (T_9_1 p0 p1 p2 (IntKind.wrap IntKind.i64 (p3 + (1 : Int))) p4 p5 p6) else K1 (Ex.exit (2 : Nat)) (X_9_1_1 p0 p1 p4 p5 p6) := by kernel_rfl
theorem Bgd_9_1 {R : Type} {c : Bool} {x : Option R} {y : Option Sp.E_9_1} {k0 : Option R} {k1 : (Int) → (Int) → (List Int × List Int × Int × PUnit) → (List Int × List Int × Int × PUnit) → (List Int × List Int × Int × PUnit) → Option R} (h : x = Sp.B_9_1 y k0 k1) : gd c x = Sp.B_9_1 (gd c y) k0 k1 := by cases c; rfl; exact h
theorem Bcond_9_1 {R : Type} {c : Bool} {x x' : Option R} {y y' : Option Sp.E_9_1} {k0 : Option R} {k1 : (Int) → (Int) → (List Int × List Int × Int × PUnit) → (List Int × List Int × Int × PUnit) → (List Int × List Int × Int × PUnit) → Option R} (h : x = Sp.B_9_1 y k0 k1) (h' : x' = Sp.B_9_1 y' k0 k1) : (bif c then x else x') = Sp.B_9_1 (bif c then y else y') k0 k1 := by cases c; exact h'; exact h
theorem loop_9_1 {R : Type} (k : Ex → St → Option R) : ∀ (m : Nat) (p0 : Int) (p1 : Int) (p2 : Int) (p3 : Int) (p4 : List Int × List Int × Int × PUnit) (p5 : List Int × List Int × Int × PUnit) (p6 : List Int × List Int × Int × PUnit), evLoopN (evCodeL sm_9 FU (ovr noO (evFn sm_9 fns FU 0)) .nil ir9_b1) (St.norm ir9_v1) m (T_9_1 p0 p1 p2 p3 p4 p5 p6) k = Sp.B_9_1 (Sp.L_9_1 m p0 p1 p2 p3 p4 p5 p6) (k Ex.ret (X_9_1_0)) (fun p0 p1 p4 p5 p6 => k (Ex.exit (2 : Nat)) (X_9_1_1 p0 p1 p4 p5 p6))
  | 0, _, _, _, _, _, _, _ => rfl
  | m + 1, p0, p1, p2, p3, p4, p5, p6 => by
    rw [evLoopN_succ, body_9_1, Sp.L_9_1]
    repeat' first | apply Bgd_9_1 | apply Bcond_9_1 | exact loop_9_1 k m _ _ _ _ _ _ _ | rfl
theorem ok_9_1 {R : Type} (T : St) (k : Ex → St → Option R) (r : R) (h0 : o_9_1 G_9_1 T k = some r) : evLoopN (evCode sm_9 FU (evFn sm_9 fns FU 0) ir9_b1) (St.norm ir9_v1) FU T k = some r := by
  obtain ⟨p0, p1, p2, p3, p4, p5, p6, rfl, h⟩ := o_9_1_inv h0
  refine evLoopN_L (t := .nil) noO_ok trivial _ _ _ _ ?_
  rw [loop_9_1]
  exact h
theorem OK_9_9_1 {R : Type} (T : St) (k : Ex → St → Option R) (r : R) (h : O_9_9_1 T k = some r) : evLoopN (evCode sm_9 FU (evFn sm_9 fns FU 0) ir9_b1) (St.norm ir9_v1) FU T k = some r := ok_9_1 T k r h
theorem body_9_0 {R : Type} (K0 : St → Option R) (K1 : Ex → St → Option R) (p0 : Int) (p1 : Int) (p2 : List Int × List Int × Int × PUnit) (p3 : List Int × List Int × Int × PUnit) : evLB (evCodeL sm_9 FU (ovr noO (evFn sm_9 fns FU 0)) (ir9_bt0 O_9_9_1) ir9_b0) (St.norm ir9_v0) (T_9_0 p0 p1 p2 p3) K0 K1 =
  bif decide (p1 < (12 : Int)) then gd Sp.p_18 (gd (Sp.p_28 p3 p0 (Prod.fst Sp.v_18)) (gd (inB p0 (List.length (Prod.fst (Prod.snd p2)))) (bif IntKind.wrap IntKind.i64 (List.getD (Prod.fst (Prod.snd p2)) (Int.toNat p0) (0 : Int) + p1) == Prod.fst (Prod.snd (Prod.snd p2)) then bif Prod.fst (Prod.snd (Prod.snd (Sp.v_28 p3 p0 (Prod.fst Sp.v_18)))) == (19 : Int) then K1 Ex.ret (X_9_0_0 p0 p3) else K1 Ex.ret X_9_0_1 else bif Prod.fst (Prod.snd (Prod.snd (Sp.v_28 p3 p0 (Prod.fst Sp.v_18)))) != (0 : Int) then K1 Ex.ret X_9_0_1 else gd (Sp.p_23 p2 (Prod.fst (Sp.v_28 p3 p0 (Prod.fst Sp.v_18)))) (bif !Prod.fst (Sp.v_23 p2 (Prod.fst (Sp.v_28 p3 p0 (Prod.fst Sp.v_18)))) then K1 Ex.ret X_9_0_1 else gd (inB p0 (List.length (Prod.fst (Prod.snd (Prod.fst (Sp.v_28 p3 p0 (Prod.fst Sp.v_18))))))) (gd (inB p0 (List.length (Prod.fst (Prod.snd p2)))) (bif List.getD (Prod.fst (Prod.snd (Prod.fst (Sp.v_28 p3 p0 (Prod.fst Sp.v_18))))) (Int.toNat p0) (0 : Int) != IntKind.wrap IntKind.i64 (IntKind.wrap IntKind.i64 (List.getD (Prod.fst (Prod.snd p2)) (Int.toNat p0) (0 : Int) + p1) + (1 : Int)) then K1 Ex.ret X_9_0_1 else gd (Sp.p_26 (Prod.fst (Sp.v_28 p3 p0 (Prod.fst Sp.v_18))) p0) (bif !Prod.fst (Sp.v_26 (Prod.fst (Sp.v_28 p3 p0 (Prod.fst Sp.v_18))) p0) then K1 Ex.ret X_9_0_1 else bif Prod.fst (Prod.snd (Sp.v_26 (Prod.fst (Sp.v_28 p3 p0 (Prod.fst Sp.v_18))) p0)) != (0 : Int) then K1 Ex.ret X_9_0_1 else Sp.B_9_1 (Sp.L_9_1 (4611686018427387904 : Nat) p0 p1 (↑(List.length (Prod.fst p2)) : Int) (0 : Int) p2 p3 (Prod.fst (Sp.v_28 p3 p0 (Prod.fst Sp.v_18)))) (K1 Ex.ret X_9_0_1) fun (y5 y6 : Int) (y7 y8 y9 : List Int × List Int × Int × PUnit) => K0 (T_9_0 y5 (IntKind.wrap IntKind.i64 (y6 + (1 : Int))) y7 y9)))))))) else K1 (Ex.exit (0 : Nat)) X_9_0_2 := by kernel_rfl
theorem Bgd_9_0 {R : Type} {c : Bool} {x : Option R} {y : Option Sp.E_9_0} {k0 : (Int) → (List Int × List Int × Int × PUnit) → Option R} {k1 : Option R} {k2 : Option R} (h : x = Sp.B_9_0 y k0 k1 k2) : gd c x = Sp.B_9_0 (gd c y) k0 k1 k2 := by cases c; rfl; exact h
theorem Bcond_9_0 {R : Type} {c : Bool} {x x' : Option R} {y y' : Option Sp.E_9_0} {k0 : (Int) → (List Int × List Int × Int × PUnit) → Option R} {k1 : Option R} {k2 : Option R} (h : x = Sp.B_9_0 y k0 k1 k2) (h' : x' = Sp.B_9_0 y' k0 k1 k2) : (bif c then x else x') = Sp.B_9_0 (bif c then y else y') k0 k1 k2 := by cases c; exact h'; exact h
theorem Bin_9_0_9_1 {R : Type} {r : Option Sp.E_9_1} {k0 : (Int) → (List Int × List Int × Int × PUnit) → Option R} {k1 : Option R} {k2 : Option R} {f0 : Option R} {f1 : (Int) → (Int) → (List Int × List Int × Int × PUnit) → (List Int × List Int × Int × PUnit) → (List Int × List Int × Int × PUnit) → Option R} {g0 : Option Sp.E_9_0} {g1 : (Int) → (Int) → (List Int × List Int × Int × PUnit) → (List Int × List Int × Int × PUnit) → (List Int × List Int × Int × PUnit) → Option Sp.E_9_0} (h0 : f0 = Sp.B_9_0 g0 k0 k1 k2) (h1 : ∀ z0 z1 z2 z3 z4, f1 z0 z1 z2 z3 z4 = Sp.B_9_0 (g1 z0 z1 z2 z3 z4) k0 k1 k2) : Sp.B_9_1 r f0 f1 = Sp.B_9_0 (Sp.B_9_1 r g0 g1) k0 k1 k2 := by
  cases r with
  | none => rfl
  | some e => cases e with
    | e0 => exact h0
    | e1 z0 z1 z2 z3 z4 => exact h1 _ _ _ _ _
theorem loop_9_0 {R : Type} (k : Ex → St → Option R) : ∀ (m : Nat) (p0 : Int) (p1 : Int) (p2 : List Int × List Int × Int × PUnit) (p3 : List Int × List Int × Int × PUnit), evLoopN (evCodeL sm_9 FU (ovr noO (evFn sm_9 fns FU 0)) (ir9_bt0 O_9_9_1) ir9_b0) (St.norm ir9_v0) m (T_9_0 p0 p1 p2 p3) k = Sp.B_9_0 (Sp.L_9_0 m p0 p1 p2 p3) (fun p0 p3 => k Ex.ret (X_9_0_0 p0 p3)) (k Ex.ret (X_9_0_1)) (k (Ex.exit (0 : Nat)) (X_9_0_2))
  | 0, _, _, _, _ => rfl
  | m + 1, p0, p1, p2, p3 => by
    rw [evLoopN_succ, body_9_0, Sp.L_9_0]
    repeat' first | apply Bgd_9_0 | apply Bcond_9_0 | (apply Bin_9_0_9_1 <;> intros) | exact loop_9_0 k m _ _ _ _ | rfl
theorem ok_9_0 {R : Type} (T : St) (k : Ex → St → Option R) (r : R) (h0 : o_9_0 G_9_0 T k = some r) : evLoopN (evCode sm_9 FU (evFn sm_9 fns FU 0) ir9_b0) (St.norm ir9_v0) FU T k = some r := by
  obtain ⟨p0, p1, p2, p3, rfl, h⟩ := o_9_0_inv h0
  refine evLoopN_L (t := (ir9_bt0 O_9_9_1)) noO_ok (ir9_bt0ok (fun T k r => OK_9_9_1 T k r)) _ _ _ _ ?_
  rw [loop_9_0]
  exact h
theorem OK_9_9_0 {R : Type} (T : St) (k : Ex → St → Option R) (r : R) (h : O_9_9_0 T k = some r) : evLoopN (evCode sm_9 FU (evFn sm_9 fns FU 0) ir9_b0) (St.norm ir9_v0) FU T k = some r := ok_9_0 T k r h
def F_9 (a0 : ((List Int) × ((List Int) × (Int × Unit)))) (a1 : Int) : Option (Bool) :=
  gd Sp.p_11 (bif !Prod.fst Sp.v_11 then some false else gd (Sp.p_12 a0) (bif !Prod.fst (Sp.v_12 a0) then some true else gd (Sp.p_16 a0) (bif !Prod.fst (Sp.v_16 a0) then some true else gd (!(↑(List.length (Prod.fst (Prod.snd a0))) : Int) == (0 : Int)) (Sp.B_9_0 (Sp.L_9_0 (4611686018427387904 : Nat) (Int.tmod (IntKind.wrap IntKind.i64 a1) (↑(List.length (Prod.fst (Prod.snd a0))) : Int)) (0 : Int) a0 a0) (fun (y2 : Int) (y3 : List Int × List Int × Int × PUnit) => some ((↑(List.length (Prod.fst (Prod.fst (Sp.v_28 y3 y2 (Prod.fst Sp.v_18))))) : Int) == (0 : Int))) (some false) (some true)))))
theorem fn_9 (a0 : ((List Int) × ((List Int) × (Int × Unit)))) (a1 : Int) : evFnL sm_9 FU (ovr noO (evFn sm_9 fns FU 0)) (ir9_t O_9_9_0) ir9 (ofH [(.pair (.slice (.int .u32)) (.pair (.slice (.int .i64)) (.pair (.int .i64) .unit))), (.int .u8)] (a0, a1, ())) [] bk = F_9 a0 a1 := by kernel_rfl
theorem run_9 (a0 : ((List Int) × ((List Int) × (Int × Unit)))) (a1 : Int) {b : Bool} (h : F_9 a0 a1 = some b) : evFn sm_9 fns FU 1 9 (ofH [(.pair (.slice (.int .u32)) (.pair (.slice (.int .i64)) (.pair (.int .i64) .unit))), (.int .u8)] (a0, a1, ())) [] bk = some b :=
  evFnL_sound (fn := ir9) (t := (ir9_t O_9_9_0)) (o := noO) rfl noO_ok (ir9_tok (fun T k r => OK_9_9_0 T k r)) ((fn_9 _ _).trans h)
end
end Go.Ev
set_option linter.unusedSimpArgs false
set_option linter.unusedVariables false
namespace Go.Ev
open Go
set_option maxRecDepth 100000
set_option maxHeartbeats 4000000
theorem or_all (x : Int) : Sp.orI .u32 x 4294967295 = 4294967295 := by
  show IntKind.wrap .u32 (((BitVec.ofInt 32 x ||| BitVec.ofInt 32 4294967295).toNat : Nat) : Int) = 4294967295
  rw [show BitVec.ofInt 32 4294967295 = BitVec.allOnes 32 from by decide, BitVec.or_allOnes]
  decide
theorem blank_pv {f : FlT} {s : Nat} (h : Sp.fv f = true) (h2 : s < f.2.1.length) (hb : ∀ i, i < 64 → f.1.getD (s * 64 + i) 0 = 4294967295) : Sp.p_26 f s = true ∧ Sp.v_26 f s = (true, 0, ()) := by
  have hv := fv_iff.1 h
  refine pv_26 f s ?_
  unfold F_26
  rw [(fv_pv f).1, (fv_pv f).2, gd_tt, h, Bool.not_true, cond_f, cond_dff (by omega), cond_dff (by omega), wi64 (n := (s : Int) + 1) (by omega) (by omega), wi64 (n := (s : Int) * 64) (by omega) (by omega), wi64 (n := ((s : Int) + 1) * 64) (by omega) (by omega), gd_sl3 (by omega) (by omega) (by omega),
    show (((s : Int) + 1) * 64).toNat - ((s : Int) * 64).toNat = 64 by omega, show ((s : Int) * 64).toNat = s * 64 by omega]
  have hl : (List.take 64 (List.drop (s * 64) f.1)).length = 64 := by rw [List.length_take, List.length_drop]; omega
  rw [hl]
  have hf := run0 (fun m i (_ : Unit) => Sp.L_26_49_0_0 m (List.take 64 (List.drop (s * 64) f.1)) ((64 : Nat) : Int) i f) (n := 64) (fun _ => ()) (r := some (.e1 f)) (by omega) (fun m j hj => by
    show Sp.L_26_49_0_0 (m + 1) (List.take 64 (List.drop (s * 64) f.1)) ((64 : Nat) : Int) (j : Int) f = Sp.L_26_49_0_0 m (List.take 64 (List.drop (s * 64) f.1)) ((64 : Nat) : Int) ((j + 1 : Nat) : Int) f
    have e : (List.take 64 (List.drop (s * 64) f.1)).getD j 0 = 4294967295 := by
      rw [← hb j hj]
      simp only [List.getD_eq_getElem?_getD, List.getElem?_take, List.getElem?_drop, if_pos hj]
    rw [Sp.L_26_49_0_0, cond_dtt (by omega), gd_inB (by omega) (by omega), Int.toNat_natCast, e, cond_nff rfl, wi64 (by omega) (by omega)]
    push_cast
    rfl) (fun m => by
    show Sp.L_26_49_0_0 (m + 1) (List.take 64 (List.drop (s * 64) f.1)) ((64 : Nat) : Int) ((64 : Nat) : Int) f = _
    rw [Sp.L_26_49_0_0, cond_dff (by omega)])
  have e1 : Sp.L_26_49_0_0 4611686018427387904 (List.take 64 (List.drop (s * 64) f.1)) ((64 : Nat) : Int) 0 f = _ := hf
  rw [e1]
  rfl
structure Wo (f : FlT) (s n : Nat) (g : FlT) : Prop where
  v : Sp.fv g = true
  sh : Sp.shp f g = true
  w : g.2.1.getD s 0 = f.2.1.getD s 0 + n
  o : ∀ i, i < f.1.length → i / 64 ≠ s → g.1.getD i 0 = f.1.getD i 0
theorem shp_iff {f g : FlT} : Sp.shp f g = true ↔ f.1.length = g.1.length ∧ f.2.1.length = g.2.1.length ∧ f.2.2.1 = g.2.2.1 := by
  simp [Sp.shp]
theorem Wo.next {f g : FlT} {s n : Nat} (h : Wo f s n g) (hs : s < f.2.1.length) (e : ¬ g.2.1.getD s 0 = g.2.2.1) : Wo f s (n + 1) (Sp.ew g s 4294967295) := by
  have h1 := shp_iff.1 h.sh
  have hsg : s < g.2.1.length := by omega
  refine ⟨orW_fv h.v hsg e, ?_, ?_, ?_⟩
  · rw [shp_iff]
    unfold Sp.ew
    dsimp only
    rw [orW_len, List.length_set]
    exact h1
  · unfold Sp.ew
    dsimp only
    rw [getD_set _ _ _ _ _ hsg, if_pos rfl, h.w]
    push_cast
    omega
  · intro i hi hne
    unfold Sp.ew
    dsimp only
    rw [orW_get _ _ _ _ _ (by omega), if_neg (by omega)]
    exact h.o i hi hne
theorem wears_loop (f : FlT) (s : Nat) (hf : Sp.fv f = true) (hs : s < f.2.1.length) : ∀ (d m j : Nat) (g : FlT), j + d = 12 → d < m → Wo f s j g →
    Sp.B_9_0 (Sp.L_9_0 m (s : Int) (j : Int) f g) (fun (y2 : Int) (y3 : FlT) => some ((↑(List.length (Prod.fst (Prod.fst (Sp.v_28 y3 y2 (Prod.fst Sp.v_18))))) : Int) == (0 : Int))) (some false) (some true) = some true
  | 0, m + 1, j, g, hj, _, _ => by
    rw [Sp.L_9_0, cond_dff (by omega)]
    rfl
  | d + 1, m + 1, j, g, hj, hm, hg => by
    have hv := fv_iff.1 hf
    have hvs := hv.2.2.2.2.2 s hs
    have hsh := shp_iff.1 hg.sh
    have hsg : s < g.2.1.length := by omega
    have hgs := (fv_iff.1 hg.v).2.2.2.2.2 s hsg
    have hgw := hg.w
    have he := ers_pv hg.v (p := (1099511627776, 0, ())) (by decide) (by decide) hsg
    rw [Sp.L_9_0, cond_dtt (by omega), full_pv.1, gd_tt]
    rw [full_pv.2]
    rw [he.1, gd_tt, he.2]
    simp only [gd_inB (show (0 : Int) ≤ (s : Int) by omega) (show (s : Int) < ((f.2.1.length : Nat) : Int) by omega), Int.toNat_natCast]
    rw [wi64 (n := f.2.1.getD s 0 + (j : Int)) (by omega) (by omega)]
    by_cases e : g.2.1.getD s 0 = g.2.2.1
    · have er : Sp.ers g s (1099511627776, 0, ()) = (([], [], 0, ()), (0, 0, ()), 19, ()) := by unfold Sp.ers; rw [if_pos e]
      rw [cond_ett (by omega), er, cond_ett rfl]
      simp only [Sp.B_9_0]
      rw [he.2, er]
      rfl
    · have er : Sp.ers g s (1099511627776, 0, ()) = (Sp.ew g s 4294967295, (1099511627775, 0, ()), 0, ()) := by
        unfold Sp.ers
        rw [if_neg e, if_neg (by decide), if_neg (by decide)]
        rfl
      have hn := hg.next hs e
      have hnsh := shp_iff.1 hn.sh
      rw [er]
      dsimp only
      have hb := blank_pv hn.v (s := s) (by omega) (fun i hi => by
        unfold Sp.ew
        dsimp only
        have := fv_iff.1 hg.v
        rw [orW_get _ _ _ _ _ (by omega), if_pos (by omega), or_all])
      generalize Sp.ew g s 4294967295 = nx at *
      rw [cond_eff (by omega), cond_nff rfl, (shp_pv f nx).1, (shp_pv f nx).2, gd_tt, hn.sh, Bool.not_true, cond_f, gd_inB (by omega) (by omega), wi64 (n := f.2.1.getD s 0 + (j : Int) + 1) (by omega) (by omega), cond_nff (by have := hn.w; push_cast at this; omega), hb.1, hb.2, gd_tt]
      simp only [Bool.not_true, cond_f]
      rw [cond_nff rfl]
      have hi := run0 (fun m i (_ : Unit) => Sp.L_9_1 m (s : Int) (j : Int) (f.1.length : Int) i f g nx) (n := f.1.length) (fun _ => ()) (r := some (.e1 (s : Int) (j : Int) f g nx)) (by omega) (fun m i hi => by
        show Sp.L_9_1 (m + 1) (s : Int) (j : Int) (f.1.length : Int) (i : Int) f g nx = Sp.L_9_1 m (s : Int) (j : Int) (f.1.length : Int) ((i + 1 : Nat) : Int) f g nx
        rw [Sp.L_9_1, cond_dtt (by omega), gd_inB (by omega) (by omega), gd_inB (by omega) (by omega), Int.toNat_natCast, Int.tdiv_eq_ediv_of_nonneg (by omega), wi64 (n := (i : Int) / 64) (by omega) (by omega), wi64 (n := (i : Int) + 1) (by omega) (by omega)]
        by_cases hd : i / 64 = s
        · rw [cond_nff (by omega)]
          push_cast
          rfl
        · rw [cond_ntt (by omega), cond_nff (hn.o i hi hd)]
          push_cast
          rfl) (fun m => by
        show Sp.L_9_1 (m + 1) (s : Int) (j : Int) (f.1.length : Int) (f.1.length : Int) f g nx = _
        rw [Sp.L_9_1, cond_dff (by omega)])
      have e1 : Sp.L_9_1 4611686018427387904 (s : Int) (j : Int) (f.1.length : Int) 0 f g nx = _ := hi
      rw [e1]
      simp only [Sp.B_9_1]
      rw [wi64 (by omega) (by omega)]
      have := wears_loop f s hf hs d m (j + 1) nx (by omega) (by omega) hn
      push_cast at this
      exact this
theorem plain_9 (f : FlT) (n : Int) (_ : wfD (.pair (.slice (.int .u32)) (.pair (.slice (.int .i64)) (.pair (.int .i64) .unit))) f) (wn : wfD (.int .u8) n) : F_9 f n = some true := by
  have hn : 0 ≤ n ∧ n < 256 := by
    simp [wfD, Lit.wf, IntKind.min, IntKind.max, IntKind.signed, IntKind.bits] at wn
    omega
  unfold F_9
  rw [aw_pv.1, aw_pv.2, gd_tt, Bool.not_true, cond_f, (few_pv f).1, (few_pv f).2, gd_tt]
  cases hfew : (decide (f.2.1.length ≤ 70) && decide (f.1.length ≤ 4480))
  · rfl
  rw [Bool.not_true, cond_f, (fv_pv f).1, (fv_pv f).2, gd_tt]
  cases hf : Sp.fv f
  · rfl
  have hv := fv_iff.1 hf
  rw [Bool.not_true, cond_f]
  have hz : ((f.2.1.length : Int) == 0) = false := beq_eq_false_iff_ne.2 (by omega)
  rw [hz, Bool.not_false, gd_tt]
  obtain ⟨k, hk, hkl⟩ : ∃ k : Nat, Int.tmod (IntKind.wrap .i64 n) (f.2.1.length : Int) = (k : Int) ∧ k < f.2.1.length := by
    refine ⟨n.toNat % f.2.1.length, ?_, Nat.mod_lt _ (by omega)⟩
    rw [wi64 (by omega) (by omega), Int.tmod_eq_emod_of_nonneg (by omega), Int.natCast_emod, Int.toNat_of_nonneg hn.1]
  rw [hk]
  exact wears_loop f k hf hkl 12 4611686018427387904 0 f (by omega) (by omega) ⟨hf, shp_iff.2 ⟨rfl, rfl, rfl⟩, by simp, fun _ _ _ => rfl⟩
end Go.Ev
set_option linter.unusedSimpArgs false
set_option linter.unusedVariables false
namespace Go.Ev
open Go
set_option maxRecDepth 100000
set_option maxHeartbeats 4000000
theorem bv_back (b : BitVec 32) : BitVec.ofInt 32 (IntKind.wrap .u32 ((b.toNat : Nat) : Int)) = b := by
  rw [u32_wrap_nat b.isLt]
  apply BitVec.eq_of_toNat_eq
  rw [ofInt_nat b.isLt]
theorem wrap_back {x : Int} (h0 : 0 ≤ x) (h1 : x < 4294967296) : IntKind.wrap .u32 (((BitVec.ofInt 32 x).toNat : Nat) : Int) = x := by
  obtain ⟨n, rfl⟩ := Int.eq_ofNat_of_zero_le h0
  have hn : n < 4294967296 := by omega
  rw [ofInt_nat (n := 32) hn, u32_wrap_nat hn]
theorem mix_same {x : Int} (m : Int) (h0 : 0 ≤ x) (h1 : x < 4294967296) : x = Sp.orI .u32 (Sp.andnI .u32 x m) (Sp.andI .u32 x m) := by
  show x = IntKind.wrap .u32 (((BitVec.ofInt 32 (IntKind.wrap .u32 (((BitVec.ofInt 32 x &&& ~~~ BitVec.ofInt 32 m).toNat : Nat) : Int)) ||| BitVec.ofInt 32 (IntKind.wrap .u32 (((BitVec.ofInt 32 x &&& BitVec.ofInt 32 m).toNat : Nat) : Int))).toNat : Nat) : Int)
  rw [bv_back, bv_back, show (BitVec.ofInt 32 x &&& ~~~ BitVec.ofInt 32 m ||| BitVec.ofInt 32 x &&& BitVec.ofInt 32 m) = BitVec.ofInt 32 x from by
    generalize BitVec.ofInt 32 x = a
    generalize BitVec.ofInt 32 m = b
    apply BitVec.eq_of_getLsbD_eq
    intro i hi
    simp only [BitVec.getLsbD_or, BitVec.getLsbD_and, BitVec.getLsbD_not, hi, decide_true, Bool.true_and]
    cases a.getLsbD i <;> cases b.getLsbD i <;> rfl, wrap_back h0 h1]
theorem mix_or (x m : Int) : Sp.orI .u32 x m = Sp.orI .u32 (Sp.andnI .u32 x m) (Sp.andI .u32 (Sp.orI .u32 x 4294967295) m) := by
  rw [or_all]
  show IntKind.wrap .u32 (((BitVec.ofInt 32 x ||| BitVec.ofInt 32 m).toNat : Nat) : Int) = IntKind.wrap .u32 (((BitVec.ofInt 32 (IntKind.wrap .u32 (((BitVec.ofInt 32 x &&& ~~~ BitVec.ofInt 32 m).toNat : Nat) : Int)) ||| BitVec.ofInt 32 (IntKind.wrap .u32 (((BitVec.ofInt 32 4294967295 &&& BitVec.ofInt 32 m).toNat : Nat) : Int))).toNat : Nat) : Int)
  rw [bv_back, bv_back, show BitVec.ofInt 32 4294967295 = BitVec.allOnes 32 from by decide]
  congr 3
  generalize BitVec.ofInt 32 x = a
  generalize BitVec.ofInt 32 m = b
  apply BitVec.eq_of_getLsbD_eq
  intro i hi
  simp only [BitVec.getLsbD_or, BitVec.getLsbD_and, BitVec.getLsbD_not, BitVec.getLsbD_allOnes, hi, decide_true, Bool.true_and]
  cases a.getLsbD i <;> cases b.getLsbD i <;> rfl
theorem mix_pr (x m w : Int) : Sp.andnI .u32 x (Sp.andnI .u32 m w) = Sp.orI .u32 (Sp.andnI .u32 x m) (Sp.andI .u32 (Sp.andnI .u32 x (Sp.andnI .u32 4294967295 w)) m) := by
  show IntKind.wrap .u32 (((BitVec.ofInt 32 x &&& ~~~ BitVec.ofInt 32 (IntKind.wrap .u32 (((BitVec.ofInt 32 m &&& ~~~ BitVec.ofInt 32 w).toNat : Nat) : Int))).toNat : Nat) : Int) =
    IntKind.wrap .u32 (((BitVec.ofInt 32 (IntKind.wrap .u32 (((BitVec.ofInt 32 x &&& ~~~ BitVec.ofInt 32 m).toNat : Nat) : Int)) ||| BitVec.ofInt 32 (IntKind.wrap .u32 (((BitVec.ofInt 32 (IntKind.wrap .u32 (((BitVec.ofInt 32 x &&& ~~~ BitVec.ofInt 32 (IntKind.wrap .u32 (((BitVec.ofInt 32 4294967295 &&& ~~~ BitVec.ofInt 32 w).toNat : Nat) : Int))).toNat : Nat) : Int)) &&& BitVec.ofInt 32 m).toNat : Nat) : Int))).toNat : Nat) : Int)
  rw [bv_back, bv_back, bv_back, bv_back, bv_back, show BitVec.ofInt 32 4294967295 = BitVec.allOnes 32 from by decide]
  congr 3
  generalize BitVec.ofInt 32 x = a
  generalize BitVec.ofInt 32 m = b
  generalize BitVec.ofInt 32 w = c
  apply BitVec.eq_of_getLsbD_eq
  intro i hi
  simp only [BitVec.getLsbD_or, BitVec.getLsbD_and, BitVec.getLsbD_not, BitVec.getLsbD_allOnes, hi, decide_true, Bool.true_and]
  cases a.getLsbD i <;> cases b.getLsbD i <;> cases c.getLsbD i <;> rfl
theorem eqw_pv (a : List Int) (h : a.length ≤ 1000) : Sp.p_24 a a = true ∧ Sp.v_24 a a = (true, ()) := by
  refine pv_24 a a ?_
  unfold F_24
  rw [cond_nff rfl]
  have h1 := run0 (fun m i (_ : Unit) => Sp.L_24_0 m a a a.length i) (n := a.length) (fun _ => ()) (r := some .e1) (by omega) (fun m j hj => by
    show Sp.L_24_0 (m + 1) a a a.length (j : Int) = Sp.L_24_0 m a a a.length ((j + 1 : Nat) : Int)
    rw [Sp.L_24_0, cond_dtt (by omega), gd_inB (by omega) (by omega), gd_inB (by omega) (by omega), cond_nff rfl, wi64 (by omega) (by omega)]
    push_cast
    rfl) (fun m => by
    show Sp.L_24_0 (m + 1) a a a.length a.length = _
    rw [Sp.L_24_0, cond_dff (by omega)])
  have e1 : Sp.L_24_0 4611686018427387904 a a a.length 0 = _ := h1
  rw [e1]
  rfl
theorem cuts7 {f w c : FlT} {mix : Int} (hf : Sp.fv f = true) (hw : Sp.fv w = true) (s1 : Sp.shp f w = true) (s2 : Sp.shp f c = true) (hwe : c.2.1 = w.2.1) (hb : ∀ j, j < f.1.length → c.1.getD j 0 = Sp.orI .u32 (Sp.andnI .u32 (f.1.getD j 0) mix) (Sp.andI .u32 (w.1.getD j 0) mix)) :
    Sp.J_10_7 f mix w (1, mix, ()) c (0, mix, ()) f w = some .e1 := by
  have hv := fv_iff.1 hf
  have hvw := fv_iff.1 hw
  have h1 := shp_iff.1 s1
  have h2 := shp_iff.1 s2
  unfold Sp.J_10_7
  rw [cond_nff rfl, cond_nff rfl, (same_pv f hf).1, (same_pv f hf).2, (same_pv w hw).1, (same_pv w hw).2, (shp_pv f w).1, (shp_pv f w).2, (shp_pv f c).1, (shp_pv f c).2, s1, s2, hwe, (eqw_pv w.2.1 (by omega)).1, (eqw_pv w.2.1 (by omega)).2]
  simp only [gd_tt, Bool.not_true, cond_f, Sp.J_10_8]
  have hi := run0 (fun m i (_ : Unit) => Sp.L_10_9 m f.1.length i f mix w c) (n := f.1.length) (fun _ => ()) (r := some .e1) (by omega) (fun m j hj => by
    show Sp.L_10_9 (m + 1) f.1.length (j : Int) f mix w c = Sp.L_10_9 m f.1.length ((j + 1 : Nat) : Int) f mix w c
    rw [Sp.L_10_9, cond_dtt (by omega), gd_inB (by omega) (by omega), gd_inB (by omega) (by omega), gd_inB (by omega) (by omega), Int.toNat_natCast, cond_nff (hb j hj), wi64 (by omega) (by omega)]
    push_cast
    rfl) (fun m => by
    show Sp.L_10_9 (m + 1) f.1.length f.1.length f mix w c = _
    rw [Sp.L_10_9, cond_dff (by omega)])
  have e1 : Sp.L_10_9 4611686018427387904 f.1.length 0 f mix w c = _ := hi
  rw [e1]
  rfl
theorem plain_10 (f : FlT) (at' w mix : Int) (b : Bool) (wf : wfD (.pair (.slice (.int .u32)) (.pair (.slice (.int .i64)) (.pair (.int .i64) .unit))) f) (wn : wfD (.int .u16) at') (_ : wfD (.int .u32) w) (_ : wfD (.int .u32) mix) (_ : wfD .bool b) : F_10 f at' w mix b = some true := by
  have hn : 0 ≤ at' ∧ at' < 65536 := by
    simp [wfD, Lit.wf, IntKind.min, IntKind.max, IntKind.signed, IntKind.bits] at wn
    omega
  have hws : ∀ j, j < f.1.length → 0 ≤ f.1.getD j 0 ∧ f.1.getD j 0 < 4294967296 := by
    intro j hj
    rw [getD_at 0 hj]
    have h := wf.1 f.1[j] (List.getElem_mem hj)
    simp [wfD, Lit.wf, IntKind.min, IntKind.max, IntKind.signed, IntKind.bits] at h
    omega
  unfold F_10
  rw [aw_pv.1, aw_pv.2, gd_tt, Bool.not_true, cond_f, (few_pv f).1, (few_pv f).2, gd_tt]
  cases hfew : (decide (f.2.1.length ≤ 70) && decide (f.1.length ≤ 4480))
  · rfl
  rw [Bool.not_true, cond_f, (fv_pv f).1, (fv_pv f).2, gd_tt]
  cases hf : Sp.fv f
  · rfl
  have hv := fv_iff.1 hf
  rw [Bool.not_true, cond_f]
  have hz : ((f.1.length : Int) == 0) = false := beq_eq_false_iff_ne.2 (by omega)
  unfold Sp.J_10_0
  rw [hz, Bool.not_false, gd_tt]
  obtain ⟨k, hk, hkl⟩ : ∃ k : Nat, Int.tmod (IntKind.wrap .i64 at') (f.1.length : Int) = (k : Int) ∧ k < f.1.length := by
    refine ⟨at'.toNat % f.1.length, ?_, Nat.mod_lt _ (by omega)⟩
    rw [wi64 (by omega) (by omega), Int.tmod_eq_emod_of_nonneg (by omega), Int.natCast_emod, Int.toNat_of_nonneg hn.1]
  rw [hk]
  have hks : k / 64 < f.2.1.length := by omega
  have es : IntKind.wrap .i64 (Int.tdiv (k : Int) 64) = ((k / 64 : Nat) : Int) := by
    rw [Int.tdiv_eq_ediv_of_nonneg (by omega), wi64 (by omega) (by omega)]
    omega
  cases b
  · have p2 := prg_pv hf (p := (2, mix, ())) (w := w) (show (0 : Int) ≤ 2 by decide) (show (2 : Int) ≤ 1099511627776 by decide) hkl
    have p1 := prg_pv hf (p := (1, mix, ())) (w := w) (show (0 : Int) ≤ 1 by decide) (show (1 : Int) ≤ 1099511627776 by decide) hkl
    have p0 := prg_pv hf (p := (0, mix, ())) (w := w) (show (0 : Int) ≤ 0 by decide) (show (0 : Int) ≤ 1099511627776 by decide) hkl
    have pm := prg_pv hf (p := (1000, mix, ())) (w := w) (show (0 : Int) ≤ 1000 by decide) (show (1000 : Int) ≤ 1099511627776 by decide) hkl
    have v2 : Sp.prg f k w (2, mix, ()) = (Sp.pw f k w 4294967295, (1, mix, ()), 0, ()) := rfl
    have v1 : Sp.prg f k w (1, mix, ()) = (Sp.pw f k w mix, (0, mix, ()), 18, ()) := rfl
    have v0 : Sp.prg f k w (0, mix, ()) = (f, (0, mix, ()), 18, ()) := rfl
    have vm : Sp.prg f k w (1000, mix, ()) = (Sp.pw f k w 4294967295, (999, mix, ()), 0, ()) := rfl
    have h7 := cuts7 (f := f) (w := Sp.pw f k w 4294967295) (c := Sp.pw f k w mix) (mix := mix) hf (pw_fv hf) (by simp [Sp.shp, Sp.pw]) (by simp [Sp.shp, Sp.pw]) rfl (fun j hj => by
      unfold Sp.pw
      dsimp only
      rw [getD_set _ _ _ _ _ hkl, getD_set _ _ _ _ _ hkl]
      by_cases e : k = j
      · subst e
        rw [if_pos rfl, if_pos rfl]
        exact mix_pr _ _ _
      · rw [if_neg e, if_neg e]
        exact mix_same mix (hws j hj).1 (hws j hj).2)
    rw [Sp.J_10_31_0_0, cond_f, p2.1, gd_tt]
    simp only [Sp.B_10_31_0_0]
    rw [p2.2, v2, Sp.J_10_1, Sp.J_10_31_0_1, cond_f, p1.1, gd_tt]
    simp only [Sp.B_10_31_0_1]
    rw [p1.2, v1, Sp.J_10_2, Sp.J_10_31_0_2, cond_f, p0.1, gd_tt]
    simp only [Sp.B_10_31_0_2]
    rw [p0.2, v0, Sp.J_10_3, Sp.J_10_31_0_3, cond_f, pm.1, gd_tt]
    simp only [Sp.B_10_31_0_3]
    rw [pm.2, vm, Sp.J_10_4, cond_f, Sp.J_10_5, cond_f]
    simp only [Sp.B_10_5]
    rw [Sp.J_10_6]
    dsimp only
    rw [h7]
    rfl
  · have p2 := ers_pv hf (p := (2, mix, ())) (show (0 : Int) ≤ 2 by decide) (show (2 : Int) ≤ 1099511627776 by decide) hks
    have p1 := ers_pv hf (p := (1, mix, ())) (show (0 : Int) ≤ 1 by decide) (show (1 : Int) ≤ 1099511627776 by decide) hks
    have p0 := ers_pv hf (p := (0, mix, ())) (show (0 : Int) ≤ 0 by decide) (show (0 : Int) ≤ 1099511627776 by decide) hks
    have pm := ers_pv hf (p := (1000, mix, ())) (show (0 : Int) ≤ 1000 by decide) (show (1000 : Int) ≤ 1099511627776 by decide) hks
    rw [Sp.J_10_31_0_0, cond_t, es, p2.1, gd_tt]
    simp only [Sp.B_10_31_0_0]
    rw [es, p2.2, Sp.J_10_1, Sp.J_10_31_0_1, cond_t, es, p1.1, gd_tt]
    simp only [Sp.B_10_31_0_1]
    rw [es, p1.2, Sp.J_10_2, Sp.J_10_31_0_2, cond_t, es, p0.1, gd_tt]
    simp only [Sp.B_10_31_0_2]
    rw [es, p0.2, Sp.J_10_3, Sp.J_10_31_0_3, cond_t, es, pm.1, gd_tt]
    simp only [Sp.B_10_31_0_3]
    rw [es, pm.2, Sp.J_10_4, cond_t, es, gd_inB (by omega) (by omega), Int.toNat_natCast]
    by_cases e : f.2.1.getD (k / 64) 0 = f.2.2.1
    · have er : ∀ p : PwT, Sp.ers f (k / 64) p = (([], [], 0, ()), (0, 0, ()), 19, ()) := by intro p; unfold Sp.ers; rw [if_pos e]
      rw [er, er, er, er, beq_iff_eq.2 e]
      rfl
    have v2 : Sp.ers f (k / 64) (2, mix, ()) = (Sp.ew f (k / 64) 4294967295, (1, mix, ()), 0, ()) := by unfold Sp.ers; rw [if_neg e]; rfl
    have v1 : Sp.ers f (k / 64) (1, mix, ()) = (Sp.ew f (k / 64) mix, (0, mix, ()), 18, ()) := by unfold Sp.ers; rw [if_neg e]; rfl
    have v0 : Sp.ers f (k / 64) (0, mix, ()) = (f, (0, mix, ()), 18, ()) := by unfold Sp.ers; rw [if_neg e]; rfl
    have vm : Sp.ers f (k / 64) (1000, mix, ()) = (Sp.ew f (k / 64) 4294967295, (999, mix, ()), 0, ()) := by unfold Sp.ers; rw [if_neg e]; rfl
    have h7 := cuts7 (f := f) (w := Sp.ew f (k / 64) 4294967295) (c := Sp.ew f (k / 64) mix) (mix := mix) hf (orW_fv hf hks e) (by simp [Sp.shp, Sp.ew, orW_len]) (by simp [Sp.shp, Sp.ew, orW_len]) rfl (fun j hj => by
      unfold Sp.ew
      dsimp only
      rw [orW_get _ _ _ _ _ hj, orW_get _ _ _ _ _ hj]
      by_cases e : k / 64 * 64 ≤ j ∧ j < k / 64 * 64 + 64
      · rw [if_pos e, if_pos e]
        exact mix_or _ _
      · rw [if_neg e, if_neg e]
        exact mix_same mix (hws j hj).1 (hws j hj).2)
    rw [v2, v1, v0, vm, beq_eq_false_iff_ne.2 e, Sp.J_10_5, cond_f]
    simp only [Sp.B_10_5]
    rw [Sp.J_10_6]
    dsimp only
    rw [h7]
    rfl
end Go.Ev
