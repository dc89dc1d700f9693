/- Helpers: what functions compute, proved by the evaluator. No condition. -/
import Derived.Test.YtimddfofkpgclaaFlSm
import Derived.Test.YtimddfofkpgclaaFlG
set_option maxRecDepth 10000
set_option linter.unusedVariables false
set_option linter.unusedSimpArgs false
namespace Go.Ev
open Go
/-! flash.Blank -/
def T_49_0 (p0 : List Int) (p1 : Int) (p2 : Int) (p3 : List Int × List Int × Int × PUnit) : St := St.mk [CV.pure (Ty.slice (Ty.int IntKind.u32)) p0, CV.clo (44 : Nat) (CV.pure Ty.unit PUnit.unit), CV.junk, CV.junk, CV.junk, CV.junk, CV.junk, CV.int IntKind.i64 p1, CV.int IntKind.i64 p2, CV.junk, CV.junk, CV.junk, CV.junk, CV.junk, CV.junk, CV.junk, CV.junk, CV.junk, CV.junk] [Blk.mem (CV.pure (Ty.pair (Ty.slice (Ty.int IntKind.u32)) (Ty.pair (Ty.slice (Ty.int IntKind.i64)) (Ty.pair (Ty.int IntKind.i64) Ty.unit))) p3)] (1 : Nat)
def o_49_0 {R : Type} (G : (List Int) → (Int) → (Int) → (List Int × List Int × Int × PUnit) → (Ex → St → Option R) → Option R) : St → (Ex → St → Option R) → Option R := fun T k => match T.sl.getD 0 .junk, T.sl.getD 1 .junk, T.sl.getD 7 .junk, T.sl.getD 8 .junk, T.hp with
  | CV.pure (Ty.slice (Ty.int IntKind.u32)) p0, CV.clo (44 : Nat) (CV.pure Ty.unit PUnit.unit), CV.int IntKind.i64 p1, CV.int IntKind.i64 p2, ((Blk.mem (CV.pure (Ty.pair (Ty.slice (Ty.int IntKind.u32)) (Ty.pair (Ty.slice (Ty.int IntKind.i64)) (Ty.pair (Ty.int IntKind.i64) Ty.unit))) p3)) :: []) => gd (shapeOK T 19 [0, 1, 7, 8] (1 : Nat)) (G p0 p1 p2 p3 k)
  | _, _, _, _, _ => none
theorem o_49_0_inv {R : Type} {G : (List Int) → (Int) → (Int) → (List Int × List Int × Int × PUnit) → (Ex → St → Option R) → Option R} {T : St} {k : Ex → St → Option R} {r : R} (h : o_49_0 G T k = some r) : ∃ p0 p1 p2 p3, T = T_49_0 p0 p1 p2 p3 ∧ G p0 p1 p2 p3 k = some r := by
  unfold o_49_0 at h
  split at h
  · obtain ⟨hs, h'⟩ := gd_some h
    refine ⟨_, _, _, _, (st_of (asg := [(0, _), (1, _), (7, _), (8, _)]) hs ⟨by assumption, by assumption, by assumption, by assumption, trivial⟩ (by assumption)).trans ?_, h'⟩
    kernel_rfl
  · cases h
def X_49_0_0 (xs : List Int) (m : Int) (i : Int) (x : List Int × List Int × Int × PUnit) : St := St.mk [CV.pure (Ty.slice (Ty.int IntKind.u32)) xs, CV.clo (44 : Nat) (CV.pure Ty.unit PUnit.unit), CV.junk, CV.junk, CV.int IntKind.i64 i, CV.int IntKind.i64 i, CV.junk, CV.int IntKind.i64 m, CV.int IntKind.i64 i, CV.bool true, CV.int IntKind.i64 i, CV.clo (44 : Nat) (CV.pure Ty.unit PUnit.unit), CV.pure (Ty.slice (Ty.int IntKind.u32)) xs, CV.int IntKind.i64 i, CV.ref (Ty.int IntKind.u32) (List.getD xs (Int.toNat i) (0 : Int)), CV.int IntKind.u32 (List.getD xs (Int.toNat i) (0 : Int)), CV.bool true, CV.int IntKind.i64 i, CV.junk] [Blk.mem (CV.pure (Ty.pair (Ty.slice (Ty.int IntKind.u32)) (Ty.pair (Ty.slice (Ty.int IntKind.i64)) (Ty.pair (Ty.int IntKind.i64) Ty.unit))) x)] (1 : Nat)
def X_49_0_1 (xs : List Int) (m : Int) (i : Int) (x : List Int × List Int × Int × PUnit) : St := St.mk [CV.pure (Ty.slice (Ty.int IntKind.u32)) xs, CV.clo (44 : Nat) (CV.pure Ty.unit PUnit.unit), CV.junk, CV.junk, CV.junk, CV.junk, CV.junk, CV.int IntKind.i64 m, CV.int IntKind.i64 i, CV.bool false, CV.junk, CV.junk, CV.junk, CV.junk, CV.junk, CV.junk, CV.junk, CV.junk, CV.junk] [Blk.mem (CV.pure (Ty.pair (Ty.slice (Ty.int IntKind.u32)) (Ty.pair (Ty.slice (Ty.int IntKind.i64)) (Ty.pair (Ty.int IntKind.i64) Ty.unit))) x)] (1 : Nat)
theorem body_49_0 {R : Type} (summ : Nat → Option Summ) (fu n : Nat) (K0 : St → Option R) (K1 : Ex → St → Option R) (xs : List Int) (m i : Int) (x : FT.den) : evLB (evCode summ fu (evFn summ fns fu (n+3)) ir49_b0) (St.norm ir49_v0) (T_49_0 xs m i x) K0 K1 =
  bif decide (i < m) then gd (inB i (List.length xs)) (bif List.getD xs (Int.toNat i) (0 : Int) != (4294967295 : Int) then K1 Ex.ret (X_49_0_0 xs m i x) else K0 (T_49_0 xs m ( IntKind.wrap IntKind.i64 ( i + ( 1 : Int ) ) ) x)) else K1 (Ex.exit (0 : Nat)) (X_49_0_1 xs m i x) := by kernel_rfl
def G_49_0 {R : Type} (xs : List Int) (m i : Int) (x : FT.den) (k : Ex → St → Option R) : Option R :=
  gd (decide (m = xs.length) && (decide (i = 0) && decide (xs.length < 4611686018427387904))) (bif fndB (fun j => xs.getD j 0 != 4294967295) 0 xs.length then k .ret (X_49_0_0 xs xs.length ((fstB (fun j => xs.getD j 0 != 4294967295) 0 xs.length : Nat) : Int) x) else k (.exit 0) (X_49_0_1 xs xs.length xs.length x))
theorem ok_49_0 {R : Type} (summ : Nat → Option Summ) (fu n : Nat) (hfu : 4611686018427387904 ≤ fu) (T : St) (k : Ex → St → Option R) (r : R) (h0 : o_49_0 G_49_0 T k = some r) : evLoopN (evCode summ fu (evFn summ fns fu (n+3)) ir49_b0) (St.norm ir49_v0) fu T k = some r := by
  obtain ⟨xs, m, i, x, rfl, h1⟩ := o_49_0_inv h0
  obtain ⟨hc, h⟩ := gd_some h1
  simp only [Bool.and_eq_true, decide_eq_true_eq] at hc
  obtain ⟨rfl, rfl, hl⟩ := hc
  refine (search_loop0 (T := fun j => T_49_0 xs xs.length j x) (Kb := fun j K => K .ret (X_49_0_0 xs xs.length j x)) (fun j hj K0 K1 => ?_) (fun K0 K1 => ?_) k (by omega)).trans h
  · rw [body_49_0, cond_tt (by simp; omega), gd_true (inB_nat hj), wrap_in (by omega), Int.toNat_natCast]
    rfl
  · rw [body_49_0, cond_ff (by simp)]
theorem fn49 {R : Type} (summ : Nat → Option Summ) (fu n : Nat) (xs : List Int) (x : FT.den) (k : CV → List Blk → Option R) : evFnL summ fu (ovr noO (evFn summ fns fu (n+3))) (ir49_t (o_49_0 G_49_0)) ir49 [.pure WT xs, .clo 44 cunit] [.mem (.pure FT x)] k =
  gd (decide ((↑(List.length xs) : Int) = (↑(List.length xs) : Int)) && (true && decide (List.length xs < (4611686018427387904 : Nat)))) (bif fndB (fun (j : Nat) => List.getD xs j (0 : Int) != (4294967295 : Int)) (0 : Nat) (List.length xs) then k (CV.int IntKind.i64 (↑(fstB (fun (j : Nat) => List.getD xs j (0 : Int) != (4294967295 : Int)) (0 : Nat) (List.length xs)) : Int)) [Blk.mem (CV.pure (Ty.pair (Ty.slice (Ty.int IntKind.u32)) (Ty.pair (Ty.slice (Ty.int IntKind.i64)) (Ty.pair (Ty.int IntKind.i64) Ty.unit))) x)] else k (CV.int IntKind.i64 (-1 : Int)) [Blk.mem (CV.pure (Ty.pair (Ty.slice (Ty.int IntKind.u32)) (Ty.pair (Ty.slice (Ty.int IntKind.i64)) (Ty.pair (Ty.int IntKind.i64) Ty.unit))) x)]) := by kernel_rfl
def g49 {R : Type} : List CV → List Blk → (CV → List Blk → Option R) → Option R := fun args hp k => match args, hp with
  | [.pure (.slice (.int .u32)) xs, .clo 44 (.pure .unit ())], [.mem (.pure (.pair (.slice (.int .u32)) (.pair (.slice (.int .i64)) (.pair (.int .i64) .unit))) x)] => gd (decide (xs.length < 4611686018427387904)) (bif fndB (fun j => xs.getD j 0 != 4294967295) 0 xs.length then k (.int .i64 (fstB (fun j => xs.getD j 0 != 4294967295) 0 xs.length : Nat)) [.mem (.pure FT x)] else k (.int .i64 (-1)) [.mem (.pure FT x)])
  | _, _ => none
theorem g49_ok {R : Type} (summ : Nat → Option Summ) (fu n : Nat) (hfu : 4611686018427387904 ≤ fu) : OvrOK (R := R) (only 49 g49) (evFn summ fns fu (n+4)) := by
  refine only_ok fun args hp k r h => ?_
  unfold g49 at h
  split at h
  · obtain ⟨hl, h1⟩ := gd_some h
    refine evFnL_sound (fn := ir49) (o := noO) (t := ir49_t (o_49_0 G_49_0)) rfl noO_ok (ir49_tok (ok_49_0 summ fu n hfu)) ?_
    refine (fn49 summ fu n _ _ k).trans ?_
    rw [gd_true (by simpa using hl)]
    exact h1
  · cases h
theorem fn42 {R : Type} (summ : Nat → Option Summ) (fu n : Nat) (xs : List Int) (x : FT.den) (k : CV → List Blk → Option R) : evFnL summ fu (ovr (only 49 g49) (evFn summ fns fu (n+4))) .nil ir42 [.pure WT xs, .clo 44 cunit] [.mem (.pure FT x)] k =
  gd (decide (List.length xs < (4611686018427387904 : Nat))) (bif fndB (fun (j : Nat) => List.getD xs j (0 : Int) != (4294967295 : Int)) (0 : Nat) (List.length xs) then k (CV.bool true) [Blk.mem (CV.pure (Ty.pair (Ty.slice (Ty.int IntKind.u32)) (Ty.pair (Ty.slice (Ty.int IntKind.i64)) (Ty.pair (Ty.int IntKind.i64) Ty.unit))) x)] else k (CV.bool false) [Blk.mem (CV.pure (Ty.pair (Ty.slice (Ty.int IntKind.u32)) (Ty.pair (Ty.slice (Ty.int IntKind.i64)) (Ty.pair (Ty.int IntKind.i64) Ty.unit))) x)]) := by kernel_rfl
def g42 {R : Type} : List CV → List Blk → (CV → List Blk → Option R) → Option R := fun args hp k => match args, hp with
  | [.pure (.slice (.int .u32)) xs, .clo 44 (.pure .unit ())], [.mem (.pure (.pair (.slice (.int .u32)) (.pair (.slice (.int .i64)) (.pair (.int .i64) .unit))) x)] => gd (decide (xs.length < 4611686018427387904)) (k (.bool (fndB (fun j => xs.getD j 0 != 4294967295) 0 xs.length)) [.mem (.pure FT x)])
  | _, _ => none
theorem g42_ok {R : Type} (summ : Nat → Option Summ) (fu n : Nat) (hfu : 4611686018427387904 ≤ fu) : OvrOK (R := R) (only 42 g42) (evFn summ fns fu (n+5)) := by
  refine only_ok fun args hp k r h => ?_
  unfold g42 at h
  split at h
  · obtain ⟨hl, h1⟩ := gd_some h
    refine evFnL_sound (fn := ir42) (t := .nil) rfl (g49_ok summ fu n hfu) trivial ?_
    refine (fn42 summ fu n _ _ k).trans ?_
    rw [gd_true hl]
    rw [← h1]
    cases fndB _ _ _ <;> rfl
  · cases h
theorem fn26 (fu n : Nat) (ws wr : List Int) (life s : Int) : evFnL sm1 fu (ovr (only 42 g42) (evFn sm1 fns fu (n+5))) .nil ir26 [.pure FT (ws, wr, life, ()), .int .i64 s] [] (fun v h => some (v, h)) =
  bif !Sp.fvalid (ws, wr, life, PUnit.unit) then some (CV.tup (CV.pair (CV.bool false) (CV.pair (CV.int IntKind.i64 (1 : Int)) (CV.pure Ty.unit PUnit.unit))), []) else bif decide (s < (0 : Int)) then some (CV.tup (CV.pair (CV.bool false) (CV.pair (CV.int IntKind.i64 (2 : Int)) (CV.pure Ty.unit PUnit.unit))), []) else bif decide (s ≥ (↑(List.length wr) : Int)) then some (CV.tup (CV.pair (CV.bool false) (CV.pair (CV.int IntKind.i64 (2 : Int)) (CV.pure Ty.unit PUnit.unit))), []) else gd (sl3 (IntKind.wrap IntKind.i64 (s * (64 : Int))) (IntKind.wrap IntKind.i64 (IntKind.wrap IntKind.i64 (s + (1 : Int)) * (64 : Int))) (↑(List.length ws) : Int)) (gd (decide (List.length (List.take (Int.toNat (IntKind.wrap IntKind.i64 (IntKind.wrap IntKind.i64 (s + (1 : Int)) * (64 : Int))) - Int.toNat (IntKind.wrap IntKind.i64 (s * (64 : Int)))) (List.drop (Int.toNat (IntKind.wrap IntKind.i64 (s * (64 : Int)))) ws)) < (4611686018427387904 : Nat))) (some (CV.tup (CV.pair (CV.bool !fndB (fun (j : Nat) => List.getD (List.take (Int.toNat (IntKind.wrap IntKind.i64 (IntKind.wrap IntKind.i64 (s + (1 : Int)) * (64 : Int))) - Int.toNat (IntKind.wrap IntKind.i64 (s * (64 : Int)))) (List.drop (Int.toNat (IntKind.wrap IntKind.i64 (s * (64 : Int)))) ws)) j (0 : Int) != (4294967295 : Int)) (0 : Nat) (List.length (List.take (Int.toNat (IntKind.wrap IntKind.i64 (IntKind.wrap IntKind.i64 (s + (1 : Int)) * (64 : Int))) - Int.toNat (IntKind.wrap IntKind.i64 (s * (64 : Int)))) (List.drop (Int.toNat (IntKind.wrap IntKind.i64 (s * (64 : Int)))) ws)))) (CV.pair (CV.int IntKind.i64 (0 : Int)) (CV.pure Ty.unit PUnit.unit))), []))) := by kernel_rfl
theorem val26 (fu n : Nat) (hfu : 4611686018427387904 ≤ fu) (ws wr : List Int) (life s : Int) : Rets [.bool, IT] (evFn sm1 fns fu (n+6) 26 [.pure FT (ws, wr, life, ()), .int .i64 s] [] fun v h => some (v, h)) ((Sp.blankF (ws, wr, life, ()) s).1, (Sp.blankF (ws, wr, life, ()) s).2, ()) := by
  have hs := fun {r} => evFnL_sound (summ := sm1) (fu := fu) (n := n+5) (fns := fns) (f := 26) (fn := ir26) (t := .nil) (args := [.pure FT (ws, wr, life, ()), .int .i64 s]) (hp := []) (k := fun v h => some (v, h)) (r := r) rfl (g42_ok sm1 fu n hfu) trivial
  rw [fn26] at hs
  unfold Sp.blankF
  cases h1 : Sp.fvalid (ws, wr, life, ())
  · rw [h1] at hs
    exact Rets.of (l0 := [_, _]) (hs rfl) rfl rfl
  have hl := fvalid_len h1
  rw [h1, cond_ff (by rfl)] at hs
  rw [cond_ff (by rfl)]
  by_cases h2 : s < 0
  · rw [cond_tt (by simp [h2])] at hs
    rw [cond_tt (by simp [h2])]
    exact Rets.of (l0 := [_, _]) (hs rfl) rfl rfl
  by_cases h3 : s ≥ wr.length
  · rw [cond_ff (by simp [h2]), cond_tt (by simp [h3])] at hs
    rw [cond_tt (by simp [h3])]
    exact Rets.of (l0 := [_, _]) (hs rfl) rfl rfl
  rw [cond_ff (by simp [h2]), cond_ff (by simp [h3])] at hs
  rw [cond_ff (by simp [h2, h3])]
  rw [wrap_in (n := s * 64) (by omega), wrap_in (n := s + 1) (by omega), wrap_in (n := (s + 1) * 64) (by omega)] at hs
  have e : ((s + 1) * 64).toNat - (s * 64).toNat = 64 := by omega
  rw [e] at hs
  rw [gd_true (by simp [sl3]; omega), gd_true (by simp; omega)] at hs
  have hf := fndB_list (List.take 64 (List.drop (s * 64).toNat ws)) 0 (fun w => w != 4294967295)
  rw [hf] at hs
  exact Rets.of (l0 := [_, _]) (hs rfl) rfl rfl
end Go.Ev
