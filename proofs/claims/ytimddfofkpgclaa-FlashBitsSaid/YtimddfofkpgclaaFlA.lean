/- Helpers: what functions compute, proved by the evaluator. No condition. -/
import Derived.Test.YtimddfofkpgclaaFlSp
set_option maxRecDepth 10000
set_option linter.unusedVariables false
set_option linter.unusedSimpArgs false
namespace Go.Ev
open Go
/-! flash.Valid -/
def T_47_0 (p0 : List Int) (p1 : Int) (p2 : Int) (p3 : List Int × List Int × Int × PUnit) : St := St.mk [CV.pure (Ty.slice (Ty.int IntKind.i64)) p0, CV.clo (35 : Nat) (CV.pair (CV.ptr (0 : Nat) []) (CV.pure Ty.unit PUnit.unit)), CV.junk, CV.junk, CV.junk, CV.junk, CV.junk, CV.int IntKind.i64 p1, CV.int IntKind.i64 p2, CV.junk, CV.junk, CV.junk, CV.junk, CV.junk, CV.junk, CV.junk, CV.junk, CV.junk, CV.junk] [Blk.mem (CV.pure (Ty.pair (Ty.slice (Ty.int IntKind.u32)) (Ty.pair (Ty.slice (Ty.int IntKind.i64)) (Ty.pair (Ty.int IntKind.i64) Ty.unit))) p3)] (1 : Nat)
def o_47_0 {R : Type} (G : (List Int) → (Int) → (Int) → (List Int × List Int × Int × PUnit) → (Ex → St → Option R) → Option R) : St → (Ex → St → Option R) → Option R := fun T k => match T.sl.getD 0 .junk, T.sl.getD 1 .junk, T.sl.getD 7 .junk, T.sl.getD 8 .junk, T.hp with
  | CV.pure (Ty.slice (Ty.int IntKind.i64)) p0, CV.clo (35 : Nat) (CV.pair (CV.ptr (0 : Nat) []) (CV.pure Ty.unit PUnit.unit)), CV.int IntKind.i64 p1, CV.int IntKind.i64 p2, ((Blk.mem (CV.pure (Ty.pair (Ty.slice (Ty.int IntKind.u32)) (Ty.pair (Ty.slice (Ty.int IntKind.i64)) (Ty.pair (Ty.int IntKind.i64) Ty.unit))) p3)) :: []) => gd (shapeOK T 19 [0, 1, 7, 8] (1 : Nat)) (G p0 p1 p2 p3 k)
  | _, _, _, _, _ => none
theorem o_47_0_inv {R : Type} {G : (List Int) → (Int) → (Int) → (List Int × List Int × Int × PUnit) → (Ex → St → Option R) → Option R} {T : St} {k : Ex → St → Option R} {r : R} (h : o_47_0 G T k = some r) : ∃ p0 p1 p2 p3, T = T_47_0 p0 p1 p2 p3 ∧ G p0 p1 p2 p3 k = some r := by
  unfold o_47_0 at h
  split at h
  · obtain ⟨hs, h'⟩ := gd_some h
    refine ⟨_, _, _, _, (st_of (asg := [(0, _), (1, _), (7, _), (8, _)]) hs ⟨by assumption, by assumption, by assumption, by assumption, trivial⟩ (by assumption)).trans ?_, h'⟩
    kernel_rfl
  · cases h
def X_47_0_0 (xs : List Int) (m : Int) (i : Int) (x : List Int × List Int × Int × PUnit) : St := St.mk [CV.pure (Ty.slice (Ty.int IntKind.i64)) xs, CV.clo (35 : Nat) (CV.pair (CV.ptr (0 : Nat) []) (CV.pure Ty.unit PUnit.unit)), CV.junk, CV.junk, CV.int IntKind.i64 i, CV.int IntKind.i64 i, CV.junk, CV.int IntKind.i64 m, CV.int IntKind.i64 i, CV.bool true, CV.int IntKind.i64 i, CV.clo (35 : Nat) (CV.pair (CV.ptr (0 : Nat) []) (CV.pure Ty.unit PUnit.unit)), CV.pure (Ty.slice (Ty.int IntKind.i64)) xs, CV.int IntKind.i64 i, CV.ref (Ty.int IntKind.i64) (List.getD xs (Int.toNat i) (0 : Int)), CV.int IntKind.i64 (List.getD xs (Int.toNat i) (0 : Int)), CV.bool true, CV.int IntKind.i64 i, CV.junk] [Blk.mem (CV.pure (Ty.pair (Ty.slice (Ty.int IntKind.u32)) (Ty.pair (Ty.slice (Ty.int IntKind.i64)) (Ty.pair (Ty.int IntKind.i64) Ty.unit))) x)] (1 : Nat)
def X_47_0_1 (xs : List Int) (m : Int) (i : Int) (x : List Int × List Int × Int × PUnit) : St := St.mk [CV.pure (Ty.slice (Ty.int IntKind.i64)) xs, CV.clo (35 : Nat) (CV.pair (CV.ptr (0 : Nat) []) (CV.pure Ty.unit PUnit.unit)), CV.junk, CV.junk, CV.junk, CV.junk, CV.junk, CV.int IntKind.i64 m, CV.int IntKind.i64 i, CV.bool false, CV.junk, CV.junk, CV.junk, CV.junk, CV.junk, CV.junk, CV.junk, CV.junk, CV.junk] [Blk.mem (CV.pure (Ty.pair (Ty.slice (Ty.int IntKind.u32)) (Ty.pair (Ty.slice (Ty.int IntKind.i64)) (Ty.pair (Ty.int IntKind.i64) Ty.unit))) x)] (1 : Nat)
theorem body_47_0 {R : Type} (summ : Nat → Option Summ) (fu n : Nat) (K0 : St → Option R) (K1 : Ex → St → Option R) (xs : List Int) (m i : Int) (x : FT.den) : evLB (evCode summ fu (evFn summ fns fu (n+3)) ir47_b0) (St.norm ir47_v0) (T_47_0 xs m i x) K0 K1 =
  bif decide (i < m) then gd (inB i (List.length xs)) (bif decide (List.getD xs (Int.toNat i) (0 : Int) < (0 : Int)) then K1 Ex.ret (X_47_0_0 xs m i x) else bif decide (List.getD xs (Int.toNat i) (0 : Int) > Prod.fst (Prod.snd (Prod.snd x))) then K1 Ex.ret (X_47_0_0 xs m i x) else K0 (T_47_0 xs m ( IntKind.wrap IntKind.i64 ( i + ( 1 : Int ) ) ) x)) else K1 (Ex.exit (0 : Nat)) (X_47_0_1 xs m i x) := by kernel_rfl
def G_47_0 {R : Type} (xs : List Int) (m i : Int) (x : FT.den) (k : Ex → St → Option R) : Option R :=
  gd (decide (m = xs.length) && (decide (i = 0) && decide (xs.length < 4611686018427387904))) (bif fndB (fun j => Sp.wearBad x.2.2.1 (xs.getD j 0)) 0 xs.length then k .ret (X_47_0_0 xs xs.length ((fstB (fun j => Sp.wearBad x.2.2.1 (xs.getD j 0)) 0 xs.length : Nat) : Int) x) else k (.exit 0) (X_47_0_1 xs xs.length xs.length x))
theorem ok_47_0 {R : Type} (summ : Nat → Option Summ) (fu n : Nat) (hfu : 4611686018427387904 ≤ fu) (T : St) (k : Ex → St → Option R) (r : R) (h0 : o_47_0 G_47_0 T k = some r) : evLoopN (evCode summ fu (evFn summ fns fu (n+3)) ir47_b0) (St.norm ir47_v0) fu T k = some r := by
  obtain ⟨xs, m, i, x, rfl, h1⟩ := o_47_0_inv h0
  obtain ⟨hc, h⟩ := gd_some h1
  simp only [Bool.and_eq_true, decide_eq_true_eq] at hc
  obtain ⟨rfl, rfl, hl⟩ := hc
  refine (search_loop0 (T := fun j => T_47_0 xs xs.length j x) (Kb := fun j K => K .ret (X_47_0_0 xs xs.length j x)) (fun j hj K0 K1 => ?_) (fun K0 K1 => ?_) k (by omega)).trans h
  · rw [body_47_0, cond_tt (by simp; omega), gd_true (inB_nat hj), wrap_in (by omega), Int.toNat_natCast]
    unfold Sp.wearBad
    cases decide (xs.getD j 0 < 0) <;> cases decide (xs.getD j 0 > x.2.2.1) <;> rfl
  · rw [body_47_0, cond_ff (by simp)]
theorem fn47 {R : Type} (summ : Nat → Option Summ) (fu n : Nat) (xs : List Int) (x : FT.den) (k : CV → List Blk → Option R) : evFnL summ fu (ovr noO (evFn summ fns fu (n+3))) (ir47_t (o_47_0 G_47_0)) ir47 [.pure (.slice (.int .i64)) xs, .clo 35 (.pair (.ptr 0 []) cunit)] [.mem (.pure FT x)] k =
  gd (decide ((↑(List.length xs) : Int) = (↑(List.length xs) : Int)) && (true && decide (List.length xs < (4611686018427387904 : Nat)))) (bif fndB (fun (j : Nat) => Sp.wearBad (Prod.fst (Prod.snd (Prod.snd x))) (List.getD xs j (0 : Int))) (0 : Nat) (List.length xs) then k (CV.int IntKind.i64 (↑(fstB (fun (j : Nat) => Sp.wearBad (Prod.fst (Prod.snd (Prod.snd x))) (List.getD xs j (0 : Int))) (0 : Nat) (List.length xs)) : Int)) [Blk.mem (CV.pure (Ty.pair (Ty.slice (Ty.int IntKind.u32)) (Ty.pair (Ty.slice (Ty.int IntKind.i64)) (Ty.pair (Ty.int IntKind.i64) Ty.unit))) x)] else k (CV.int IntKind.i64 (-1 : Int)) [Blk.mem (CV.pure (Ty.pair (Ty.slice (Ty.int IntKind.u32)) (Ty.pair (Ty.slice (Ty.int IntKind.i64)) (Ty.pair (Ty.int IntKind.i64) Ty.unit))) x)]) := by kernel_rfl
def g47 {R : Type} : List CV → List Blk → (CV → List Blk → Option R) → Option R := fun args hp k => match args, hp with
  | [.pure (.slice (.int .i64)) xs, .clo 35 (.pair (.ptr 0 []) (.pure .unit ()))], [.mem (.pure (.pair (.slice (.int .u32)) (.pair (.slice (.int .i64)) (.pair (.int .i64) .unit))) x)] => gd (decide (xs.length < 4611686018427387904)) (bif fndB (fun j => Sp.wearBad x.2.2.1 (xs.getD j 0)) 0 xs.length then k (.int .i64 (fstB (fun j => Sp.wearBad x.2.2.1 (xs.getD j 0)) 0 xs.length : Nat)) [.mem (.pure FT x)] else k (.int .i64 (-1)) [.mem (.pure FT x)])
  | _, _ => none
theorem g47_ok {R : Type} (summ : Nat → Option Summ) (fu n : Nat) (hfu : 4611686018427387904 ≤ fu) : OvrOK (R := R) (only 47 g47) (evFn summ fns fu (n+4)) := by
  refine only_ok fun args hp k r h => ?_
  unfold g47 at h
  split at h
  · obtain ⟨hl, h1⟩ := gd_some h
    refine evFnL_sound (fn := ir47) (o := noO) (t := ir47_t (o_47_0 G_47_0)) rfl noO_ok (ir47_tok (ok_47_0 summ fu n hfu)) ?_
    refine (fn47 summ fu n _ _ k).trans ?_
    rw [gd_true (by simpa using hl)]
    exact h1
  · cases h
theorem fn34 {R : Type} (summ : Nat → Option Summ) (fu n : Nat) (xs : List Int) (x : FT.den) (k : CV → List Blk → Option R) : evFnL summ fu (ovr (only 47 g47) (evFn summ fns fu (n+4))) .nil ir34 [.pure (.slice (.int .i64)) xs, .clo 35 (.pair (.ptr 0 []) cunit)] [.mem (.pure FT x)] k =
  gd (decide (List.length xs < (4611686018427387904 : Nat))) (bif fndB (fun (j : Nat) => Sp.wearBad (Prod.fst (Prod.snd (Prod.snd x))) (List.getD xs j (0 : Int))) (0 : Nat) (List.length xs) then k (CV.bool true) [Blk.mem (CV.pure (Ty.pair (Ty.slice (Ty.int IntKind.u32)) (Ty.pair (Ty.slice (Ty.int IntKind.i64)) (Ty.pair (Ty.int IntKind.i64) Ty.unit))) x)] else k (CV.bool false) [Blk.mem (CV.pure (Ty.pair (Ty.slice (Ty.int IntKind.u32)) (Ty.pair (Ty.slice (Ty.int IntKind.i64)) (Ty.pair (Ty.int IntKind.i64) Ty.unit))) x)]) := by kernel_rfl
def g34 {R : Type} : List CV → List Blk → (CV → List Blk → Option R) → Option R := fun args hp k => match args, hp with
  | [.pure (.slice (.int .i64)) xs, .clo 35 (.pair (.ptr 0 []) (.pure .unit ()))], [.mem (.pure (.pair (.slice (.int .u32)) (.pair (.slice (.int .i64)) (.pair (.int .i64) .unit))) x)] => gd (decide (xs.length < 4611686018427387904)) (k (.bool (fndB (fun j => Sp.wearBad x.2.2.1 (xs.getD j 0)) 0 xs.length)) [.mem (.pure FT x)])
  | _, _ => none
theorem g34_ok {R : Type} (summ : Nat → Option Summ) (fu n : Nat) (hfu : 4611686018427387904 ≤ fu) : OvrOK (R := R) (only 34 g34) (evFn summ fns fu (n+5)) := by
  refine only_ok fun args hp k r h => ?_
  unfold g34 at h
  split at h
  · obtain ⟨hl, h1⟩ := gd_some h
    refine evFnL_sound (fn := ir34) (t := .nil) rfl (g47_ok summ fu n hfu) trivial ?_
    refine (fn34 summ fu n _ _ k).trans ?_
    rw [gd_true hl]
    rw [← h1]
    cases fndB _ _ _ <;> rfl
  · cases h
theorem fn16 (summ : Nat → Option Summ) (fu n : Nat) (ws wr : List Int) (life : Int) : evFnL summ fu (ovr (only 34 g34) (evFn summ fns fu (n+5))) .nil ir16 [.pure FT (ws, wr, life, ())] [] (fun v h => some (v, h)) =
  bif decide ((↑(List.length wr) : Int) < (1 : Int)) then some (CV.bool false, []) else bif decide ((↑(List.length wr) : Int) > (64 : Int)) then some (CV.bool false, []) else bif (↑(List.length ws) : Int) != IntKind.wrap IntKind.i64 ((↑(List.length wr) : Int) * (64 : Int)) then some (CV.bool false, []) else bif decide (life < (1 : Int)) then some (CV.bool false, []) else bif decide (life > (1000000 : Int)) then some (CV.bool false, []) else gd (decide (List.length wr < (4611686018427387904 : Nat))) (some (CV.bool !fndB (fun (j : Nat) => Sp.wearBad life (List.getD wr j (0 : Int))) (0 : Nat) (List.length wr), [])) := by kernel_rfl
theorem ret16 (summ : Nat → Option Summ) (fu n : Nat) (hfu : 4611686018427387904 ≤ fu) (x : HDen [FT]) : Rets [.bool] (evFn summ fns fu (n+6) 16 (ofH [FT] x) [] fun v h => some (v, h)) (Sp.fvalid x.1, ()) := by
  obtain ⟨⟨ws, wr, life, u⟩, v⟩ := x
  refine Rets.of (l0 := [.bool (Sp.fvalid (ws, wr, life, ()))]) (hp2 := []) (evFnL_sound (fn := ir16) (t := .nil) rfl (g34_ok summ fu n hfu) trivial ((fn16 summ fu n ws wr life).trans ?_)) rfl rfl
  unfold Sp.fvalid
  by_cases h1 : (wr.length : Int) < 1
  · simp [h1, tupOf]
  by_cases h2 : (wr.length : Int) > 64
  · simp [h2, tupOf]
  rw [wrap_in (by omega), gd_true (by simp; omega), fndB_list wr 0 (Sp.wearBad life)]
  simp only [h1, h2]
  cases (ws.length : Int) != (wr.length : Int) * 64 <;> cases decide (life < 1) <;> cases decide (life > 1000000) <;> cases wr.any (Sp.wearBad life) <;> rfl
end Go.Ev
