/- Helpers: what functions compute, proved by the evaluator. No condition. -/
import Derived.Test.YtimddfofkpgclaaFlSp
set_option maxRecDepth 10000
set_option linter.unusedVariables false
set_option linter.unusedSimpArgs false
namespace Go.Ev
open Go
/-! slices.Equal, twice -/
theorem eq_fin {R : Type} {a b : R} {r : Option R} (x y : List Int) (hp : Sp.small x.length = true) (hr : ∀ c, c = Sp.eqI x y → (bif c then some a else some b) = r) :
    (bif (x.length : Int) != (y.length : Int) then some b else gd (true && (decide ((x.length : Int) = (x.length : Int)) && (decide (x.length = y.length) && Sp.small x.length))) (bif fndB (fun j => x.getD j 0 != y.getD j 0) 0 x.length then some b else some a)) = r := by
  by_cases h : x.length = y.length
  · rw [show ((x.length : Int) != (y.length : Int)) = false by simp [h], cond_false, gd_true (by rw [show decide (x.length = y.length) = true by simp [h], hp]; simp), fndB_ne x y 0 h]
    rw [← hr _ rfl]
    simp only [Sp.eqI]
    cases x == y <;> rfl
  · rw [show ((x.length : Int) != (y.length : Int)) = true by simp; omega, cond_true, ← hr _ rfl, show Sp.eqI x y = false by simp only [Sp.eqI]; rw [beq_eq_false_iff_ne]; intro e; exact h (by rw [e])]
    rfl
def T_22_0 (p0 : List Int) (p1 : List Int) (p2 : Int) (p3 : Int) : St := St.mk [CV.pure (Ty.slice (Ty.int IntKind.u32)) p0, CV.pure (Ty.slice (Ty.int IntKind.u32)) p1, CV.junk, CV.junk, CV.junk, CV.junk, CV.junk, CV.junk, CV.junk, CV.junk, CV.junk, CV.junk, CV.int IntKind.i64 p2, CV.int IntKind.i64 p3, CV.junk, CV.junk, CV.junk, CV.junk, CV.junk, CV.junk, CV.junk, CV.junk, CV.junk, CV.junk, CV.junk, CV.junk] [] (0 : Nat)
def o_22_0 {R : Type} (G : (List Int) → (List Int) → (Int) → (Int) → (Ex → St → Option R) → Option R) : St → (Ex → St → Option R) → Option R := fun T k => match T.sl.getD 0 .junk, T.sl.getD 1 .junk, T.sl.getD 12 .junk, T.sl.getD 13 .junk, T.hp with
  | CV.pure (Ty.slice (Ty.int IntKind.u32)) p0, CV.pure (Ty.slice (Ty.int IntKind.u32)) p1, CV.int IntKind.i64 p2, CV.int IntKind.i64 p3, [] => gd (shapeOK T 26 [0, 1, 12, 13] (0 : Nat)) (G p0 p1 p2 p3 k)
  | _, _, _, _, _ => none
theorem o_22_0_inv {R : Type} {G : (List Int) → (List Int) → (Int) → (Int) → (Ex → St → Option R) → Option R} {T : St} {k : Ex → St → Option R} {r : R} (h : o_22_0 G T k = some r) : ∃ p0 p1 p2 p3, T = T_22_0 p0 p1 p2 p3 ∧ G p0 p1 p2 p3 k = some r := by
  unfold o_22_0 at h
  split at h
  · obtain ⟨hs, h'⟩ := gd_some h
    refine ⟨_, _, _, _, (st_of (asg := [(0, _), (1, _), (12, _), (13, _)]) hs ⟨by assumption, by assumption, by assumption, by assumption, trivial⟩ (by assumption)).trans ?_, h'⟩
    kernel_rfl
  · cases h
def X_22_0_0 (x : List Int) (y : List Int) (m : Int) (i : Int) : St := St.mk [CV.pure (Ty.slice (Ty.int IntKind.u32)) x, CV.pure (Ty.slice (Ty.int IntKind.u32)) y, CV.junk, CV.junk, CV.bool false, CV.int IntKind.i64 i, CV.junk, CV.junk, CV.junk, CV.junk, CV.junk, CV.junk, CV.int IntKind.i64 m, CV.int IntKind.i64 i, CV.bool true, CV.int IntKind.i64 i, CV.pure (Ty.slice (Ty.int IntKind.u32)) x, CV.int IntKind.i64 i, CV.ref (Ty.int IntKind.u32) (List.getD x (Int.toNat i) (0 : Int)), CV.int IntKind.u32 (List.getD x (Int.toNat i) (0 : Int)), CV.pure (Ty.slice (Ty.int IntKind.u32)) y, CV.int IntKind.i64 i, CV.ref (Ty.int IntKind.u32) (List.getD y (Int.toNat i) (0 : Int)), CV.int IntKind.u32 (List.getD y (Int.toNat i) (0 : Int)), CV.bool true, CV.junk] [] (0 : Nat)
def X_22_0_1 (x : List Int) (y : List Int) (m : Int) (i : Int) : St := St.mk [CV.pure (Ty.slice (Ty.int IntKind.u32)) x, CV.pure (Ty.slice (Ty.int IntKind.u32)) y, CV.junk, CV.junk, CV.junk, CV.junk, CV.junk, CV.junk, CV.junk, CV.junk, CV.junk, CV.junk, CV.int IntKind.i64 m, CV.int IntKind.i64 i, CV.bool false, CV.junk, CV.junk, CV.junk, CV.junk, CV.junk, CV.junk, CV.junk, CV.junk, CV.junk, CV.junk, CV.junk] [] (0 : Nat)
theorem body_22_0 {R : Type} (summ : Nat → Option Summ) (fu n : Nat) (K0 : St → Option R) (K1 : Ex → St → Option R) (x y : List Int) (m i : Int) : evLB (evCode summ fu (evFn summ fns fu (n+3)) ir22_b0) (St.norm ir22_v0) (T_22_0 x y m i) K0 K1 =
  bif decide (i < m) then gd (inB i (List.length x)) (gd (inB i (List.length y)) (bif List.getD x (Int.toNat i) (0 : Int) != List.getD y (Int.toNat i) (0 : Int) then K1 Ex.ret (X_22_0_0 x y m i) else K0 (T_22_0 x y m ( IntKind.wrap IntKind.i64 ( i + ( 1 : Int ) ) )))) else K1 (Ex.exit (0 : Nat)) (X_22_0_1 x y m i) := by kernel_rfl
def G_22_0 {R : Type} (x y : List Int) (m i : Int) (k : Ex → St → Option R) : Option R :=
  gd (decide (i = 0) && (decide (m = x.length) && (decide (x.length = y.length) && Sp.small x.length))) (bif fndB (fun j => x.getD j 0 != y.getD j 0) 0 x.length then k .ret (X_22_0_0 x y x.length ((fstB (fun j => x.getD j 0 != y.getD j 0) 0 x.length : Nat) : Int)) else k (.exit 0) (X_22_0_1 x y x.length x.length))
theorem ok_22_0 {R : Type} (summ : Nat → Option Summ) (fu n : Nat) (hfu : 4611686018427387904 ≤ fu) (T : St) (k : Ex → St → Option R) (r : R) (h0 : o_22_0 G_22_0 T k = some r) : evLoopN (evCode summ fu (evFn summ fns fu (n+3)) ir22_b0) (St.norm ir22_v0) fu T k = some r := by
  obtain ⟨x, y, m, i, rfl, h1⟩ := o_22_0_inv h0
  obtain ⟨hc, h⟩ := gd_some h1
  simp only [Bool.and_eq_true, decide_eq_true_eq, Sp.small] at hc
  obtain ⟨rfl, rfl, he, hl⟩ := hc
  refine (search_loop0 (T := fun j => T_22_0 x y x.length j) (Kb := fun j K => K .ret (X_22_0_0 x y x.length (j : Nat))) (fun j hj K0 K1 => ?_) (fun K0 K1 => ?_) k (by omega)).trans h
  · rw [body_22_0, cond_tt (by simp; omega), gd_true (inB_nat hj), gd_true (inB_nat (by omega)), wrap_in (by omega), Int.toNat_natCast]
    rfl
  · rw [body_22_0, cond_ff (by simp)]
theorem fn22 (summ : Nat → Option Summ) (fu n : Nat) (x y : List Int) : evFnL summ fu (ovr noO (evFn summ fns fu (n+3))) (ir22_t (o_22_0 G_22_0)) ir22 [.pure WT x, .pure WT y] [] (fun v h => some (v, h)) =
  bif (↑(List.length x) : Int) != (↑(List.length y) : Int) then some (CV.bool false, []) else gd (true && (decide ((↑(List.length x) : Int) = (↑(List.length x) : Int)) && (decide (List.length x = List.length y) && Sp.small (List.length x)))) (bif fndB (fun (j : Nat) => List.getD x j (0 : Int) != List.getD y j (0 : Int)) (0 : Nat) (List.length x) then some (CV.bool false, []) else some (CV.bool true, [])) := by kernel_rfl
theorem ret22 (summ : Nat → Option Summ) (fu n : Nat) (hfu : 4611686018427387904 ≤ fu) (x : HDen [WT, WT]) (hp : Sp.small (show List Int from x.1).length = true) : Rets [.bool] (evFn summ fns fu (n+4) 22 (ofH [WT, WT] x) [] fun v h => some (v, h)) (Sp.eqI x.1 x.2.1, ()) := by
  obtain ⟨x, y, u⟩ := x
  refine Rets.of (l0 := [.bool (Sp.eqI x y)]) (hp2 := []) (evFnL_sound (fn := ir22) (o := noO) (t := ir22_t (o_22_0 G_22_0)) rfl noO_ok (ir22_tok (ok_22_0 summ fu n hfu)) ((fn22 summ fu n x y).trans ?_)) rfl rfl
  exact eq_fin x y hp (fun c hc => by subst hc; show _ = some (CV.bool (Sp.eqI x y), []); cases Sp.eqI x y <;> rfl)
def T_24_0 (p0 : List Int) (p1 : List Int) (p2 : Int) (p3 : Int) : St := St.mk [CV.pure (Ty.slice (Ty.int IntKind.i64)) p0, CV.pure (Ty.slice (Ty.int IntKind.i64)) p1, CV.junk, CV.junk, CV.junk, CV.junk, CV.junk, CV.junk, CV.junk, CV.junk, CV.junk, CV.junk, CV.int IntKind.i64 p2, CV.int IntKind.i64 p3, CV.junk, CV.junk, CV.junk, CV.junk, CV.junk, CV.junk, CV.junk, CV.junk, CV.junk, CV.junk, CV.junk, CV.junk] [] (0 : Nat)
def o_24_0 {R : Type} (G : (List Int) → (List Int) → (Int) → (Int) → (Ex → St → Option R) → Option R) : St → (Ex → St → Option R) → Option R := fun T k => match T.sl.getD 0 .junk, T.sl.getD 1 .junk, T.sl.getD 12 .junk, T.sl.getD 13 .junk, T.hp with
  | CV.pure (Ty.slice (Ty.int IntKind.i64)) p0, CV.pure (Ty.slice (Ty.int IntKind.i64)) p1, CV.int IntKind.i64 p2, CV.int IntKind.i64 p3, [] => gd (shapeOK T 26 [0, 1, 12, 13] (0 : Nat)) (G p0 p1 p2 p3 k)
  | _, _, _, _, _ => none
theorem o_24_0_inv {R : Type} {G : (List Int) → (List Int) → (Int) → (Int) → (Ex → St → Option R) → Option R} {T : St} {k : Ex → St → Option R} {r : R} (h : o_24_0 G T k = some r) : ∃ p0 p1 p2 p3, T = T_24_0 p0 p1 p2 p3 ∧ G p0 p1 p2 p3 k = some r := by
  unfold o_24_0 at h
  split at h
  · obtain ⟨hs, h'⟩ := gd_some h
    refine ⟨_, _, _, _, (st_of (asg := [(0, _), (1, _), (12, _), (13, _)]) hs ⟨by assumption, by assumption, by assumption, by assumption, trivial⟩ (by assumption)).trans ?_, h'⟩
    kernel_rfl
  · cases h
def X_24_0_0 (x : List Int) (y : List Int) (m : Int) (i : Int) : St := St.mk [CV.pure (Ty.slice (Ty.int IntKind.i64)) x, CV.pure (Ty.slice (Ty.int IntKind.i64)) y, CV.junk, CV.junk, CV.bool false, CV.int IntKind.i64 i, CV.junk, CV.junk, CV.junk, CV.junk, CV.junk, CV.junk, CV.int IntKind.i64 m, CV.int IntKind.i64 i, CV.bool true, CV.int IntKind.i64 i, CV.pure (Ty.slice (Ty.int IntKind.i64)) x, CV.int IntKind.i64 i, CV.ref (Ty.int IntKind.i64) (List.getD x (Int.toNat i) (0 : Int)), CV.int IntKind.i64 (List.getD x (Int.toNat i) (0 : Int)), CV.pure (Ty.slice (Ty.int IntKind.i64)) y, CV.int IntKind.i64 i, CV.ref (Ty.int IntKind.i64) (List.getD y (Int.toNat i) (0 : Int)), CV.int IntKind.i64 (List.getD y (Int.toNat i) (0 : Int)), CV.bool true, CV.junk] [] (0 : Nat)
def X_24_0_1 (x : List Int) (y : List Int) (m : Int) (i : Int) : St := St.mk [CV.pure (Ty.slice (Ty.int IntKind.i64)) x, CV.pure (Ty.slice (Ty.int IntKind.i64)) y, CV.junk, CV.junk, CV.junk, CV.junk, CV.junk, CV.junk, CV.junk, CV.junk, CV.junk, CV.junk, CV.int IntKind.i64 m, CV.int IntKind.i64 i, CV.bool false, CV.junk, CV.junk, CV.junk, CV.junk, CV.junk, CV.junk, CV.junk, CV.junk, CV.junk, CV.junk, CV.junk] [] (0 : Nat)
theorem body_24_0 {R : Type} (summ : Nat → Option Summ) (fu n : Nat) (K0 : St → Option R) (K1 : Ex → St → Option R) (x y : List Int) (m i : Int) : evLB (evCode summ fu (evFn summ fns fu (n+3)) ir24_b0) (St.norm ir24_v0) (T_24_0 x y m i) K0 K1 =
  bif decide (i < m) then gd (inB i (List.length x)) (gd (inB i (List.length y)) (bif List.getD x (Int.toNat i) (0 : Int) != List.getD y (Int.toNat i) (0 : Int) then K1 Ex.ret (X_24_0_0 x y m i) else K0 (T_24_0 x y m ( IntKind.wrap IntKind.i64 ( i + ( 1 : Int ) ) )))) else K1 (Ex.exit (0 : Nat)) (X_24_0_1 x y m i) := by kernel_rfl
def G_24_0 {R : Type} (x y : List Int) (m i : Int) (k : Ex → St → Option R) : Option R :=
  gd (decide (i = 0) && (decide (m = x.length) && (decide (x.length = y.length) && Sp.small x.length))) (bif fndB (fun j => x.getD j 0 != y.getD j 0) 0 x.length then k .ret (X_24_0_0 x y x.length ((fstB (fun j => x.getD j 0 != y.getD j 0) 0 x.length : Nat) : Int)) else k (.exit 0) (X_24_0_1 x y x.length x.length))
theorem ok_24_0 {R : Type} (summ : Nat → Option Summ) (fu n : Nat) (hfu : 4611686018427387904 ≤ fu) (T : St) (k : Ex → St → Option R) (r : R) (h0 : o_24_0 G_24_0 T k = some r) : evLoopN (evCode summ fu (evFn summ fns fu (n+3)) ir24_b0) (St.norm ir24_v0) fu T k = some r := by
  obtain ⟨x, y, m, i, rfl, h1⟩ := o_24_0_inv h0
  obtain ⟨hc, h⟩ := gd_some h1
  simp only [Bool.and_eq_true, decide_eq_true_eq, Sp.small] at hc
  obtain ⟨rfl, rfl, he, hl⟩ := hc
  refine (search_loop0 (T := fun j => T_24_0 x y x.length j) (Kb := fun j K => K .ret (X_24_0_0 x y x.length (j : Nat))) (fun j hj K0 K1 => ?_) (fun K0 K1 => ?_) k (by omega)).trans h
  · rw [body_24_0, cond_tt (by simp; omega), gd_true (inB_nat hj), gd_true (inB_nat (by omega)), wrap_in (by omega), Int.toNat_natCast]
    rfl
  · rw [body_24_0, cond_ff (by simp)]
theorem fn24 (summ : Nat → Option Summ) (fu n : Nat) (x y : List Int) : evFnL summ fu (ovr noO (evFn summ fns fu (n+3))) (ir24_t (o_24_0 G_24_0)) ir24 [.pure NT x, .pure NT y] [] (fun v h => some (v, h)) =
  bif (↑(List.length x) : Int) != (↑(List.length y) : Int) then some (CV.bool false, []) else gd (true && (decide ((↑(List.length x) : Int) = (↑(List.length x) : Int)) && (decide (List.length x = List.length y) && Sp.small (List.length x)))) (bif fndB (fun (j : Nat) => List.getD x j (0 : Int) != List.getD y j (0 : Int)) (0 : Nat) (List.length x) then some (CV.bool false, []) else some (CV.bool true, [])) := by kernel_rfl
theorem ret24 (summ : Nat → Option Summ) (fu n : Nat) (hfu : 4611686018427387904 ≤ fu) (x : HDen [NT, NT]) (hp : Sp.small (show List Int from x.1).length = true) : Rets [.bool] (evFn summ fns fu (n+4) 24 (ofH [NT, NT] x) [] fun v h => some (v, h)) (Sp.eqI x.1 x.2.1, ()) := by
  obtain ⟨x, y, u⟩ := x
  refine Rets.of (l0 := [.bool (Sp.eqI x y)]) (hp2 := []) (evFnL_sound (fn := ir24) (o := noO) (t := ir24_t (o_24_0 G_24_0)) rfl noO_ok (ir24_tok (ok_24_0 summ fu n hfu)) ((fn24 summ fu n x y).trans ?_)) rfl rfl
  exact eq_fin x y hp (fun c hc => by subst hc; show _ = some (CV.bool (Sp.eqI x y), []); cases Sp.eqI x y <;> rfl)
/-! magnetoref50.Blank -/
def T_27_0 (p0 : Int) (p1 : Int) (p2 : List Int × List Int × Int × PUnit) : St := St.mk [CV.junk, CV.int IntKind.i64 p0, CV.ptr (0 : Nat) [], CV.junk, CV.junk, CV.int IntKind.i64 p1, CV.junk, CV.junk, CV.junk, CV.junk, CV.junk, CV.junk, CV.junk, CV.junk, CV.junk, CV.junk, CV.junk, CV.junk, CV.junk] [Blk.mem (CV.pure (Ty.pair (Ty.slice (Ty.int IntKind.u32)) (Ty.pair (Ty.slice (Ty.int IntKind.i64)) (Ty.pair (Ty.int IntKind.i64) Ty.unit))) p2)] (0 : Nat)
def o_27_0 {R : Type} (G : (Int) → (Int) → (List Int × List Int × Int × PUnit) → (Ex → St → Option R) → Option R) : St → (Ex → St → Option R) → Option R := fun T k => match T.sl.getD 1 .junk, T.sl.getD 2 .junk, T.sl.getD 5 .junk, T.hp with
  | CV.int IntKind.i64 p0, CV.ptr (0 : Nat) [], CV.int IntKind.i64 p1, ((Blk.mem (CV.pure (Ty.pair (Ty.slice (Ty.int IntKind.u32)) (Ty.pair (Ty.slice (Ty.int IntKind.i64)) (Ty.pair (Ty.int IntKind.i64) Ty.unit))) p2)) :: []) => gd (shapeOK T 19 [1, 2, 5] (0 : Nat)) (G p0 p1 p2 k)
  | _, _, _, _ => none
theorem o_27_0_inv {R : Type} {G : (Int) → (Int) → (List Int × List Int × Int × PUnit) → (Ex → St → Option R) → Option R} {T : St} {k : Ex → St → Option R} {r : R} (h : o_27_0 G T k = some r) : ∃ p0 p1 p2, T = T_27_0 p0 p1 p2 ∧ G p0 p1 p2 k = some r := by
  unfold o_27_0 at h
  split at h
  · obtain ⟨hs, h'⟩ := gd_some h
    refine ⟨_, _, _, (st_of (asg := [(1, _), (2, _), (5, _)]) hs ⟨by assumption, by assumption, by assumption, trivial⟩ (by assumption)).trans ?_, h'⟩
    kernel_rfl
  · cases h
def X_27_0_0 (s : Int) (i : Int) (x : List Int × List Int × Int × PUnit) : St := St.mk [CV.junk, CV.int IntKind.i64 s, CV.ptr (0 : Nat) [], CV.junk, CV.bool false, CV.int IntKind.i64 i, CV.int IntKind.i64 i, CV.bool true, CV.junk, CV.junk, CV.ptr (0 : Nat) [Step.f (0 : Nat) (0 : Nat)], CV.pure (Ty.slice (Ty.int IntKind.u32)) (Prod.fst x), CV.int IntKind.i64 s, CV.int IntKind.i64 (IntKind.wrap IntKind.i64 (s * (64 : Int))), CV.int IntKind.i64 i, CV.int IntKind.i64 (IntKind.wrap IntKind.i64 (IntKind.wrap IntKind.i64 (s * (64 : Int)) + i)), CV.ref (Ty.int IntKind.u32) (List.getD (Prod.fst x) (Int.toNat (IntKind.wrap IntKind.i64 (IntKind.wrap IntKind.i64 (s * (64 : Int)) + i))) (0 : Int)), CV.int IntKind.u32 (List.getD (Prod.fst x) (Int.toNat (IntKind.wrap IntKind.i64 (IntKind.wrap IntKind.i64 (s * (64 : Int)) + i))) (0 : Int)), CV.bool true] [Blk.mem (CV.pure (Ty.pair (Ty.slice (Ty.int IntKind.u32)) (Ty.pair (Ty.slice (Ty.int IntKind.i64)) (Ty.pair (Ty.int IntKind.i64) Ty.unit))) x)] (0 : Nat)
def X_27_0_1 (s : Int) (i : Int) (x : List Int × List Int × Int × PUnit) : St := St.mk [CV.junk, CV.int IntKind.i64 s, CV.ptr (0 : Nat) [], CV.junk, CV.junk, CV.int IntKind.i64 i, CV.int IntKind.i64 i, CV.bool false, CV.junk, CV.junk, CV.junk, CV.junk, CV.junk, CV.junk, CV.junk, CV.junk, CV.junk, CV.junk, CV.junk] [Blk.mem (CV.pure (Ty.pair (Ty.slice (Ty.int IntKind.u32)) (Ty.pair (Ty.slice (Ty.int IntKind.i64)) (Ty.pair (Ty.int IntKind.i64) Ty.unit))) x)] (0 : Nat)
theorem body_27_0 {R : Type} (summ : Nat → Option Summ) (fu n : Nat) (K0 : St → Option R) (K1 : Ex → St → Option R) (s i : Int) (x : FT.den) : evLB (evCode summ fu (evFn summ fns fu (n+3)) ir27_b0) (St.norm ir27_v0) (T_27_0 s i x) K0 K1 =
  bif decide (i < (64 : Int)) then gd (inB (IntKind.wrap IntKind.i64 (IntKind.wrap IntKind.i64 (s * (64 : Int)) + i)) (List.length (Prod.fst x))) (bif List.getD (Prod.fst x) (Int.toNat (IntKind.wrap IntKind.i64 (IntKind.wrap IntKind.i64 (s * (64 : Int)) + i))) (0 : Int) != (4294967295 : Int) then K1 Ex.ret (X_27_0_0 s i x) else K0 (T_27_0 s ( IntKind.wrap IntKind.i64 ( i + ( 1 : Int ) ) ) x)) else K1 (Ex.exit (0 : Nat)) (X_27_0_1 s i x) := by kernel_rfl
def G_27_0 {R : Type} (s i : Int) (x : FT.den) (k : Ex → St → Option R) : Option R :=
  gd (decide (i = 0) && Sp.blankOK x.1.length s) (bif fndB (fun j => x.1.getD (s * 64 + (j : Int)).toNat 0 != 4294967295) 0 64 then k .ret (X_27_0_0 s ((fstB (fun j => x.1.getD (s * 64 + (j : Int)).toNat 0 != 4294967295) 0 64 : Nat) : Int) x) else k (.exit 0) (X_27_0_1 s 64 x))
theorem ok_27_0 {R : Type} (summ : Nat → Option Summ) (fu n : Nat) (hfu : 4611686018427387904 ≤ fu) (T : St) (k : Ex → St → Option R) (r : R) (h0 : o_27_0 G_27_0 T k = some r) : evLoopN (evCode summ fu (evFn summ fns fu (n+3)) ir27_b0) (St.norm ir27_v0) fu T k = some r := by
  obtain ⟨s, i, x, rfl, h1⟩ := o_27_0_inv h0
  obtain ⟨hc, h⟩ := gd_some h1
  simp only [Bool.and_eq_true, decide_eq_true_eq, Sp.blankOK] at hc
  obtain ⟨rfl, hs0, hs1, hl⟩ := hc
  refine (search_loop0 (n := 64) (T := fun j => T_27_0 s j x) (Kb := fun j K => K .ret (X_27_0_0 s (j : Nat) x)) (fun j hj K0 K1 => ?_) (fun K0 K1 => ?_) k (by omega)).trans h
  · have e : inB (s * 64 + (j : Int)) x.1.length = true := by unfold inB; simp; omega
    rw [body_27_0, cond_tt (by simp; omega), wrap_in (n := s * 64) (by omega), wrap_in (n := s * 64 + (j : Int)) (by omega), wrap_in (n := (j : Int) + 1) (by omega), gd_true e]
    rfl
  · rw [body_27_0, cond_ff (by simp)]
    rfl
theorem fn27 (summ : Nat → Option Summ) (fu n : Nat) (s : Int) (x : FT.den) : evFnL summ fu (ovr noO (evFn summ fns fu (n+3))) (ir27_t (o_27_0 G_27_0)) ir27 [.pure FT x, .int .i64 s] [] (fun v h => some (v, h)) =
  gd (true && Sp.blankOK (List.length (Prod.fst x)) s) (bif fndB (fun (j : Nat) => List.getD (Prod.fst x) (Int.toNat (s * (64 : Int) + (↑j : Int))) (0 : Int) != (4294967295 : Int)) (0 : Nat) (64 : Nat) then some (CV.bool false, []) else some (CV.bool true, [])) := by kernel_rfl
theorem ret27 (summ : Nat → Option Summ) (fu n : Nat) (hfu : 4611686018427387904 ≤ fu) (x : HDen [FT, IT]) (hp : Sp.blankOK x.1.1.length x.2.1 = true) : Rets [.bool] (evFn summ fns fu (n+4) 27 (ofH [FT, IT] x) [] fun v h => some (v, h)) (Sp.secBlank x.1.1 x.2.1, ()) := by
  obtain ⟨x, s, u⟩ := x
  refine Rets.of (l0 := [.bool (Sp.secBlank x.1 s)]) (hp2 := []) (evFnL_sound (fn := ir27) (o := noO) (t := ir27_t (o_27_0 G_27_0)) rfl noO_ok (ir27_tok (ok_27_0 summ fu n hfu)) ((fn27 summ fu n s x).trans ?_)) rfl rfl
  rw [gd_true (by rw [Bool.true_and]; exact hp)]
  unfold Sp.secBlank
  cases fndB _ _ _ <;> rfl
/-! magnetoref50.New -/
def T_14_0 (p0 : Int) (p1 : Int) (p2 : Int) (p3 : List Int) (p4 : List Int) (p5 : Int) (p6 : List Int) (p7 : List Int) : St := St.mk [CV.int IntKind.i64 p0, CV.junk, CV.junk, CV.junk, CV.ptr (0 : Nat) [], CV.junk, CV.ptr (3 : Nat) [], CV.int IntKind.i64 p1, CV.junk, CV.junk, CV.junk, CV.junk, CV.junk, CV.junk, CV.junk, CV.junk, CV.junk, CV.junk, CV.junk, CV.junk, CV.junk, CV.junk, CV.junk, CV.junk, CV.junk, CV.junk, CV.junk, CV.junk, CV.junk, CV.junk, CV.junk, CV.junk, CV.junk, CV.junk, CV.junk, CV.junk, CV.junk, CV.junk, CV.junk, CV.junk, CV.junk, CV.junk, CV.junk] [Blk.mem (CV.pair (CV.whole (1 : Nat)) (CV.pair (CV.whole (2 : Nat)) (CV.pure (Ty.pair (Ty.int IntKind.i64) Ty.unit) (p2, PUnit.unit)))), Blk.vec (34 : Nat) (Ty.int IntKind.u32) p3, Blk.vec (3 : Nat) (Ty.int IntKind.i64) p4, Blk.mem (CV.pair (CV.whole (4 : Nat)) (CV.pair (CV.whole (5 : Nat)) (CV.pure (Ty.pair (Ty.int IntKind.i64) Ty.unit) (p5, PUnit.unit)))), Blk.vec (34 : Nat) (Ty.int IntKind.u32) p6, Blk.vec (3 : Nat) (Ty.int IntKind.i64) p7] (0 : Nat)
def o_14_0 {R : Type} (G : (Int) → (Int) → (Int) → (List Int) → (List Int) → (Int) → (List Int) → (List Int) → (Ex → St → Option R) → Option R) : St → (Ex → St → Option R) → Option R := fun T k => match T.sl.getD 0 .junk, T.sl.getD 4 .junk, T.sl.getD 6 .junk, T.sl.getD 7 .junk, T.hp with
  | CV.int IntKind.i64 p0, CV.ptr (0 : Nat) [], CV.ptr (3 : Nat) [], CV.int IntKind.i64 p1, ((Blk.mem (CV.pair (CV.whole (1 : Nat)) (CV.pair (CV.whole (2 : Nat)) (CV.pure (Ty.pair (Ty.int IntKind.i64) Ty.unit) (p2, PUnit.unit))))) :: (Blk.vec (34 : Nat) (Ty.int IntKind.u32) p3) :: (Blk.vec (3 : Nat) (Ty.int IntKind.i64) p4) :: (Blk.mem (CV.pair (CV.whole (4 : Nat)) (CV.pair (CV.whole (5 : Nat)) (CV.pure (Ty.pair (Ty.int IntKind.i64) Ty.unit) (p5, PUnit.unit))))) :: (Blk.vec (34 : Nat) (Ty.int IntKind.u32) p6) :: (Blk.vec (3 : Nat) (Ty.int IntKind.i64) p7) :: []) => gd (shapeOK T 43 [0, 4, 6, 7] (0 : Nat)) (G p0 p1 p2 p3 p4 p5 p6 p7 k)
  | _, _, _, _, _ => none
theorem o_14_0_inv {R : Type} {G : (Int) → (Int) → (Int) → (List Int) → (List Int) → (Int) → (List Int) → (List Int) → (Ex → St → Option R) → Option R} {T : St} {k : Ex → St → Option R} {r : R} (h : o_14_0 G T k = some r) : ∃ p0 p1 p2 p3 p4 p5 p6 p7, T = T_14_0 p0 p1 p2 p3 p4 p5 p6 p7 ∧ G p0 p1 p2 p3 p4 p5 p6 p7 k = some r := by
  unfold o_14_0 at h
  split at h
  · obtain ⟨hs, h'⟩ := gd_some h
    refine ⟨_, _, _, _, _, _, _, _, (st_of (asg := [(0, _), (4, _), (6, _), (7, _)]) hs ⟨by assumption, by assumption, by assumption, by assumption, trivial⟩ (by assumption)).trans ?_, h'⟩
    kernel_rfl
  · cases h
def T_14_1 (p0 : Int) (p1 : Int) (p2 : Int) (p3 : Int) (p4 : List Int) (p5 : List Int) (p6 : Int) (p7 : List Int) (p8 : List Int) : St := St.mk [CV.int IntKind.i64 p0, CV.junk, CV.junk, CV.junk, CV.ptr (0 : Nat) [], CV.junk, CV.ptr (3 : Nat) [], CV.int IntKind.i64 p1, CV.int IntKind.i64 p2, CV.junk, CV.junk, CV.junk, CV.junk, CV.junk, CV.junk, CV.junk, CV.junk, CV.junk, CV.junk, CV.junk, CV.junk, CV.junk, CV.junk, CV.junk, CV.junk, CV.junk, CV.junk, CV.junk, CV.junk, CV.junk, CV.junk, CV.junk, CV.junk, CV.junk, CV.junk, CV.junk, CV.junk, CV.junk, CV.junk, CV.junk, CV.junk, CV.junk, CV.junk] [Blk.mem (CV.pair (CV.whole (1 : Nat)) (CV.pair (CV.whole (2 : Nat)) (CV.pure (Ty.pair (Ty.int IntKind.i64) Ty.unit) (p3, PUnit.unit)))), Blk.vec (34 : Nat) (Ty.int IntKind.u32) p4, Blk.vec (3 : Nat) (Ty.int IntKind.i64) p5, Blk.mem (CV.pair (CV.whole (4 : Nat)) (CV.pair (CV.whole (5 : Nat)) (CV.pure (Ty.pair (Ty.int IntKind.i64) Ty.unit) (p6, PUnit.unit)))), Blk.vec (34 : Nat) (Ty.int IntKind.u32) p7, Blk.vec (3 : Nat) (Ty.int IntKind.i64) p8] (0 : Nat)
def o_14_1 {R : Type} (G : (Int) → (Int) → (Int) → (Int) → (List Int) → (List Int) → (Int) → (List Int) → (List Int) → (Ex → St → Option R) → Option R) : St → (Ex → St → Option R) → Option R := fun T k => match T.sl.getD 0 .junk, T.sl.getD 4 .junk, T.sl.getD 6 .junk, T.sl.getD 7 .junk, T.sl.getD 8 .junk, T.hp with
  | CV.int IntKind.i64 p0, CV.ptr (0 : Nat) [], CV.ptr (3 : Nat) [], CV.int IntKind.i64 p1, CV.int IntKind.i64 p2, ((Blk.mem (CV.pair (CV.whole (1 : Nat)) (CV.pair (CV.whole (2 : Nat)) (CV.pure (Ty.pair (Ty.int IntKind.i64) Ty.unit) (p3, PUnit.unit))))) :: (Blk.vec (34 : Nat) (Ty.int IntKind.u32) p4) :: (Blk.vec (3 : Nat) (Ty.int IntKind.i64) p5) :: (Blk.mem (CV.pair (CV.whole (4 : Nat)) (CV.pair (CV.whole (5 : Nat)) (CV.pure (Ty.pair (Ty.int IntKind.i64) Ty.unit) (p6, PUnit.unit))))) :: (Blk.vec (34 : Nat) (Ty.int IntKind.u32) p7) :: (Blk.vec (3 : Nat) (Ty.int IntKind.i64) p8) :: []) => gd (shapeOK T 43 [0, 4, 6, 7, 8] (0 : Nat)) (G p0 p1 p2 p3 p4 p5 p6 p7 p8 k)
  | _, _, _, _, _, _ => none
theorem o_14_1_inv {R : Type} {G : (Int) → (Int) → (Int) → (Int) → (List Int) → (List Int) → (Int) → (List Int) → (List Int) → (Ex → St → Option R) → Option R} {T : St} {k : Ex → St → Option R} {r : R} (h : o_14_1 G T k = some r) : ∃ p0 p1 p2 p3 p4 p5 p6 p7 p8, T = T_14_1 p0 p1 p2 p3 p4 p5 p6 p7 p8 ∧ G p0 p1 p2 p3 p4 p5 p6 p7 p8 k = some r := by
  unfold o_14_1 at h
  split at h
  · obtain ⟨hs, h'⟩ := gd_some h
    refine ⟨_, _, _, _, _, _, _, _, _, (st_of (asg := [(0, _), (4, _), (6, _), (7, _), (8, _)]) hs ⟨by assumption, by assumption, by assumption, by assumption, by assumption, trivial⟩ (by assumption)).trans ?_, h'⟩
    kernel_rfl
  · cases h
def X_14_1_0 (s : Int) (i : Int) (j : Int) (a : Int) (b : List Int) (c : List Int) (d : Int) (e : List Int) (f : List Int) : St := St.mk [CV.int IntKind.i64 s, CV.junk, CV.junk, CV.junk, CV.ptr (0 : Nat) [], CV.junk, CV.ptr (3 : Nat) [], CV.int IntKind.i64 i, CV.int IntKind.i64 j, CV.junk, CV.junk, CV.junk, CV.junk, CV.junk, CV.junk, CV.junk, CV.junk, CV.junk, CV.junk, CV.junk, CV.junk, CV.junk, CV.junk, CV.junk, CV.junk, CV.junk, CV.junk, CV.junk, CV.junk, CV.junk, CV.junk, CV.junk, CV.junk, CV.int IntKind.i64 j, CV.bool false, CV.junk, CV.junk, CV.junk, CV.junk, CV.junk, CV.junk, CV.junk, CV.junk] [Blk.mem (CV.pair (CV.whole (1 : Nat)) (CV.pair (CV.whole (2 : Nat)) (CV.pure (Ty.pair (Ty.int IntKind.i64) Ty.unit) (a, PUnit.unit)))), Blk.vec (34 : Nat) (Ty.int IntKind.u32) b, Blk.vec (3 : Nat) (Ty.int IntKind.i64) c, Blk.mem (CV.pair (CV.whole (4 : Nat)) (CV.pair (CV.whole (5 : Nat)) (CV.pure (Ty.pair (Ty.int IntKind.i64) Ty.unit) (d, PUnit.unit)))), Blk.vec (34 : Nat) (Ty.int IntKind.u32) e, Blk.vec (3 : Nat) (Ty.int IntKind.i64) f] (0 : Nat)
theorem body_14_1 {R : Type} (summ : Nat → Option Summ) (fu n : Nat) (K0 : St → Option R) (K1 : Ex → St → Option R) (s i j a : Int) (b c : List Int) (d : Int) (e f : List Int) : evLB (evCode summ fu (evFn summ fns fu (n+3)) ir14_b1) (St.norm ir14_v1) (T_14_1 s i j a b c d e f) K0 K1 =
  bif decide (j < (64 : Int)) then gd (true && room (List.length e + (1 : Nat)) (4 : Nat)) (K0 (T_14_1 s i ( IntKind.wrap IntKind.i64 ( j + ( 1 : Int ) ) ) a b c d ( e ++ [ ( 4294967295 : Int ) ] ) f)) else K1 (Ex.exit (2 : Nat)) (X_14_1_0 s i j a b c d e f) := by kernel_rfl
def G_14_1 {R : Type} (s i j a : Int) (b c : List Int) (d : Int) (e f : List Int) (k : Ex → St → Option R) : Option R :=
  gd (decide (j = 0) && Sp.small e.length) (k (.exit 2) (X_14_1_0 s i 64 a b c d (e ++ List.replicate 64 4294967295) f))
theorem ok_14_1 {R : Type} (summ : Nat → Option Summ) (fu n : Nat) (hfu : 4611686018427387904 ≤ fu) (T : St) (k : Ex → St → Option R) (r : R) (h0 : o_14_1 G_14_1 T k = some r) : evLoopN (evCode summ fu (evFn summ fns fu (n+3)) ir14_b1) (St.norm ir14_v1) fu T k = some r := by
  obtain ⟨s, i, j, a, b, c, d, e, f, rfl, h1⟩ := o_14_1_inv h0
  obtain ⟨hc, h⟩ := gd_some h1
  simp only [Bool.and_eq_true, decide_eq_true_eq, Sp.small] at hc
  obtain ⟨rfl, hl⟩ := hc
  have := fold_loop (n := 64) (T := fun j e => T_14_1 s i j a b c d e f) (inv := fun j e' => e'.length = e.length + j) (step := fun _ e => e ++ [4294967295]) (Xe := fun e => X_14_1_0 s i 64 a b c d e f) (ee := .exit 2) (body := evCode summ fu (evFn summ fns fu (n+3)) ir14_b1) (nrm := St.norm ir14_v1)
    (fun j e hj he => by simp [he]; omega)
    (fun j e hj he K0 K1 => by
      rw [body_14_1, cond_tt (by simp; omega), gd_true (by rw [Bool.true_and]; exact room_ok (by omega) (by omega)), wrap_in (by omega)]
      rfl)
    (fun e he K0 K1 => by rw [body_14_1, cond_ff (by simp)]; rfl) k 64 fu 0 e (by omega) rfl (by omega)
  rw [foldB_const] at this
  exact this.trans h
def X_14_0_0 (s : Int) (i : Int) (a : Int) (b : List Int) (c : List Int) (d : Int) (e : List Int) (f : List Int) : St := St.mk [CV.int IntKind.i64 s, CV.junk, CV.junk, CV.junk, CV.ptr (0 : Nat) [], CV.junk, CV.ptr (3 : Nat) [], CV.int IntKind.i64 i, CV.junk, CV.junk, CV.junk, CV.junk, CV.junk, CV.junk, CV.junk, CV.junk, CV.junk, CV.junk, CV.junk, CV.junk, CV.junk, CV.junk, CV.junk, CV.int IntKind.i64 i, CV.int IntKind.i64 s, CV.bool false, CV.junk, CV.junk, CV.junk, CV.junk, CV.junk, CV.junk, CV.junk, CV.junk, CV.junk, CV.junk, CV.junk, CV.junk, CV.junk, CV.junk, CV.junk, CV.junk, CV.junk] [Blk.mem (CV.pair (CV.whole (1 : Nat)) (CV.pair (CV.whole (2 : Nat)) (CV.pure (Ty.pair (Ty.int IntKind.i64) Ty.unit) (a, PUnit.unit)))), Blk.vec (34 : Nat) (Ty.int IntKind.u32) b, Blk.vec (3 : Nat) (Ty.int IntKind.i64) c, Blk.mem (CV.pair (CV.whole (4 : Nat)) (CV.pair (CV.whole (5 : Nat)) (CV.pure (Ty.pair (Ty.int IntKind.i64) Ty.unit) (d, PUnit.unit)))), Blk.vec (34 : Nat) (Ty.int IntKind.u32) e, Blk.vec (3 : Nat) (Ty.int IntKind.i64) f] (0 : Nat)
theorem body_14_0 {R : Type} (summ : Nat → Option Summ) (fu n : Nat) (K0 : St → Option R) (K1 : Ex → St → Option R) (s i a : Int) (b c : List Int) (d : Int) (e f : List Int) : evLB (evCodeL summ fu (ovr noO (evFn summ fns fu (n+3))) (ir14_bt0 (o_14_1 G_14_1)) ir14_b0) (St.norm ir14_v0) (T_14_0 s i a b c d e f) K0 K1 =
  bif decide (i < s) then gd (true && room (List.length f + (1 : Nat)) (8 : Nat)) (gd (true && Sp.small (List.length e)) (K0 (T_14_0 s ( IntKind.wrap IntKind.i64 ( i + ( 1 : Int ) ) ) a b c d ( e ++ List.replicate ( 64 : Nat ) ( 4294967295 : Int ) ) ( f ++ [ ( 0 : Int ) ] )))) else K1 (Ex.exit (0 : Nat)) (X_14_0_0 s i a b c d e f) := by kernel_rfl
def step14 (_ : Nat) (p : List Int × List Int) : List Int × List Int := (p.1 ++ List.replicate 64 4294967295, p.2 ++ [0])
theorem step14_fold : ∀ d j p, foldB step14 j d p = (p.1 ++ List.replicate (64 * d) 4294967295, p.2 ++ List.replicate d 0)
  | 0, _, p => by simp [foldB]
  | d + 1, j, p => by
    rw [foldB, step14_fold d]
    simp only [step14, List.append_assoc, List.replicate_append_replicate]
    rw [show 64 + 64 * d = 64 * (d + 1) by omega, show List.replicate (d + 1) (0 : Int) = [0] ++ List.replicate d 0 from List.replicate_succ]
def G_14_0 {R : Type} (s i a : Int) (b c : List Int) (d : Int) (e f : List Int) (k : Ex → St → Option R) : Option R :=
  gd (decide (i = 0) && (decide (e = []) && (decide (f = []) && (decide (0 ≤ s) && decide (s ≤ 64))))) (k (.exit 0) (X_14_0_0 s s a b c d (List.replicate (64 * s.toNat) 4294967295) (List.replicate s.toNat 0)))
theorem ok_14_0 {R : Type} (summ : Nat → Option Summ) (fu n : Nat) (hfu : 4611686018427387904 ≤ fu) (T : St) (k : Ex → St → Option R) (r : R) (h0 : o_14_0 G_14_0 T k = some r) : evLoopN (evCode summ fu (evFn summ fns fu (n+3)) ir14_b0) (St.norm ir14_v0) fu T k = some r := by
  obtain ⟨s, i, a, b, c, d, e, f, rfl, h1⟩ := o_14_0_inv h0
  obtain ⟨hc, h⟩ := gd_some h1
  simp only [Bool.and_eq_true, decide_eq_true_eq] at hc
  obtain ⟨rfl, rfl, rfl, hs0, hs1⟩ := hc
  obtain ⟨m, rfl⟩ : ∃ m : Nat, s = m := ⟨s.toNat, by omega⟩
  refine evLoopN_L noO_ok (ir14_bt0ok (ok_14_1 summ fu n hfu)) _ _ _ _ ?_
  have := fold_loop (n := m) (T := fun j p => T_14_0 m j a b c d p.1 p.2) (inv := fun j p => p.1.length = 64 * j ∧ p.2.length = j) (step := step14) (Xe := fun p => X_14_0_0 m m a b c d p.1 p.2) (ee := .exit 0) (body := evCodeL summ fu (ovr noO (evFn summ fns fu (n+3))) (ir14_bt0 (o_14_1 G_14_1)) ir14_b0) (nrm := St.norm ir14_v0)
    (fun j e hj he => by simp [step14, he]; omega)
    (fun j e hj he K0 K1 => by
      rw [body_14_0, cond_tt (by simp; omega), gd_true (by rw [Bool.true_and]; exact room_ok (by omega) (by omega)), gd_true (by simp [Sp.small]; omega), wrap_in (by omega)]
      rfl)
    (fun e he K0 K1 => by rw [body_14_0, cond_ff (by simp)]) k m fu 0 ([], []) (by omega) (by simp) (by omega)
  rw [step14_fold] at this
  exact this.trans h
theorem fn14 (summ : Nat → Option Summ) (fu n : Nat) (s l : Int) : evFnL summ fu (ovr noO (evFn summ fns fu (n+3))) (ir14_t (o_14_0 G_14_0)) ir14 [.int .i64 s, .int .i64 l] [] (fun v h => some (v, h)) =
  bif decide (s < (1 : Int)) then some (CV.tup (CV.pair (CV.pair (CV.nil (34 : Nat) (Ty.int IntKind.u32)) (CV.pair (CV.nil (3 : Nat) (Ty.int IntKind.i64)) (CV.pure (Ty.pair (Ty.int IntKind.i64) Ty.unit) ((0 : Int), PUnit.unit)))) (CV.pair (CV.int IntKind.i64 (2 : Int)) (CV.pure Ty.unit PUnit.unit))), []) else bif decide (s > (64 : Int)) then some (CV.tup (CV.pair (CV.pair (CV.nil (34 : Nat) (Ty.int IntKind.u32)) (CV.pair (CV.nil (3 : Nat) (Ty.int IntKind.i64)) (CV.pure (Ty.pair (Ty.int IntKind.i64) Ty.unit) ((0 : Int), PUnit.unit)))) (CV.pair (CV.int IntKind.i64 (2 : Int)) (CV.pure Ty.unit PUnit.unit))), []) else bif decide (l ≥ (1 : Int)) then bif !decide (l ≤ (1000000 : Int)) then some (CV.tup (CV.pair (CV.pair (CV.nil (34 : Nat) (Ty.int IntKind.u32)) (CV.pair (CV.nil (3 : Nat) (Ty.int IntKind.i64)) (CV.pure (Ty.pair (Ty.int IntKind.i64) Ty.unit) ((0 : Int), PUnit.unit)))) (CV.pair (CV.int IntKind.i64 (2 : Int)) (CV.pure Ty.unit PUnit.unit))), []) else gd (true && (true && (true && (decide ((0 : Int) ≤ s) && decide (s ≤ (64 : Int)))))) (some (CV.tup (CV.pair (CV.pair (CV.whole (0 : Nat)) (CV.pair (CV.whole (1 : Nat)) (CV.pure (Ty.pair (Ty.int IntKind.i64) Ty.unit) (l, PUnit.unit)))) (CV.pair (CV.int IntKind.i64 (0 : Int)) (CV.pure Ty.unit PUnit.unit))), [Blk.vec (34 : Nat) (Ty.int IntKind.u32) (List.replicate ((64 : Nat) * Int.toNat s) (4294967295 : Int)), Blk.vec (3 : Nat) (Ty.int IntKind.i64) (List.replicate (Int.toNat s) (0 : Int))])) else some (CV.tup (CV.pair (CV.pair (CV.nil (34 : Nat) (Ty.int IntKind.u32)) (CV.pair (CV.nil (3 : Nat) (Ty.int IntKind.i64)) (CV.pure (Ty.pair (Ty.int IntKind.i64) Ty.unit) ((0 : Int), PUnit.unit)))) (CV.pair (CV.int IntKind.i64 (2 : Int)) (CV.pure Ty.unit PUnit.unit))), []) := by kernel_rfl
theorem val14 (summ : Nat → Option Summ) (fu n : Nat) (hfu : 4611686018427387904 ≤ fu) (s l : Int) : Rets [FT, IT] (evFn summ fns fu (n+4) 14 [.int .i64 s, .int .i64 l] [] fun v h => some (v, h)) ((Sp.newF s l).1, (Sp.newF s l).2, ()) := by
  have hs := fun {r} => evFnL_sound (summ := summ) (fu := fu) (n := n+3) (fns := fns) (f := 14) (fn := ir14) (o := noO) (t := ir14_t (o_14_0 G_14_0)) (args := [.int .i64 s, .int .i64 l]) (hp := []) (k := fun v h => some (v, h)) (r := r) rfl noO_ok (ir14_tok (ok_14_0 summ fu n hfu))
  rw [fn14] at hs
  by_cases h1 : s < 1
  · have e : Sp.newF s l = (([], [], 0, ()), 2) := by simp [Sp.newF, h1]
    rw [cond_tt (by simp [h1])] at hs
    rw [e]
    exact Rets.of (l0 := [_, _]) (hs rfl) rfl rfl
  by_cases h2 : s > 64
  · have e : Sp.newF s l = (([], [], 0, ()), 2) := by simp [Sp.newF, h2]
    rw [cond_ff (by simp [h1]), cond_tt (by simp [h2])] at hs
    rw [e]
    exact Rets.of (l0 := [_, _]) (hs rfl) rfl rfl
  by_cases h3 : l < 1
  · have e : Sp.newF s l = (([], [], 0, ()), 2) := by simp [Sp.newF, h3]
    rw [cond_ff (by simp [h1]), cond_ff (by simp [h2]), cond_ff (by simp; omega)] at hs
    rw [e]
    exact Rets.of (l0 := [_, _]) (hs rfl) rfl rfl
  by_cases h4 : l > 1000000
  · have e : Sp.newF s l = (([], [], 0, ()), 2) := by simp [Sp.newF, h4]
    rw [cond_ff (by simp [h1]), cond_ff (by simp [h2]), cond_tt (by simp; omega), cond_tt (by simp; omega)] at hs
    rw [e]
    exact Rets.of (l0 := [_, _]) (hs rfl) rfl rfl
  · have e : Sp.newF s l = ((List.replicate (64 * s.toNat) 4294967295, List.replicate s.toNat 0, l, ()), 0) := by simp [Sp.newF, h1, h2, h3, h4]
    rw [cond_ff (by simp [h1]), cond_ff (by simp [h2]), cond_tt (by simp; omega), cond_ff (by simp; omega), gd_true (by simp; omega)] at hs
    rw [e]
    exact Rets.of (l0 := [_, _]) (hs rfl) rfl rfl
theorem ret14 (summ : Nat → Option Summ) (fu n : Nat) (hfu : 4611686018427387904 ≤ fu) (x : HDen [IT, IT]) : Rets [FT, IT] (evFn summ fns fu (n+4) 14 (ofH [IT, IT] x) [] fun v h => some (v, h)) ((Sp.newF x.1 x.2.1).1, (Sp.newF x.1 x.2.1).2, ()) := by
  obtain ⟨s, l, u⟩ := x
  exact val14 summ fu n hfu s l
end Go.Ev
