/- Helpers: what functions compute, proved by the evaluator. No condition. -/
import Derived.Test.YtimddfofkpgclaaFlSp
set_option maxRecDepth 10000
set_option linter.unusedVariables false
set_option linter.unusedSimpArgs false
namespace Go.Ev
open Go
/-! slices.Repeat of one element -/
def T_32_0 (p0 : Int) (p1 : List Int) : St := St.mk [CV.junk, CV.junk, CV.junk, CV.junk, CV.junk, CV.junk, CV.junk, CV.whole (0 : Nat), CV.int IntKind.i64 p0, CV.junk, CV.junk, CV.junk, CV.junk, CV.junk, CV.junk, CV.junk, CV.junk, CV.junk, CV.junk, CV.junk, CV.junk, CV.junk, CV.junk, CV.junk, CV.junk, CV.junk, CV.junk, CV.junk, CV.junk, CV.junk, CV.junk, CV.junk, CV.junk, CV.junk, CV.junk, CV.junk, CV.junk, CV.junk, CV.junk, CV.junk, CV.junk, CV.junk, CV.junk, CV.junk, CV.junk, CV.junk, CV.junk, CV.junk] [Blk.vec (34 : Nat) (Ty.int IntKind.u32) p1] (0 : Nat)
def o_32_0 {R : Type} (G : (Int) → (List Int) → (Ex → St → Option R) → Option R) : St → (Ex → St → Option R) → Option R := fun T k => match T.sl.getD 7 .junk, T.sl.getD 8 .junk, T.hp with
  | CV.whole (0 : Nat), CV.int IntKind.i64 p0, ((Blk.vec (34 : Nat) (Ty.int IntKind.u32) p1) :: []) => gd (shapeOK T 48 [7, 8] (0 : Nat)) (G p0 p1 k)
  | _, _, _ => none
theorem o_32_0_inv {R : Type} {G : (Int) → (List Int) → (Ex → St → Option R) → Option R} {T : St} {k : Ex → St → Option R} {r : R} (h : o_32_0 G T k = some r) : ∃ p0 p1, T = T_32_0 p0 p1 ∧ G p0 p1 k = some r := by
  unfold o_32_0 at h
  split at h
  · obtain ⟨hs, h'⟩ := gd_some h
    refine ⟨_, _, (st_of (asg := [(7, _), (8, _)]) hs ⟨by assumption, by assumption, trivial⟩ (by assumption)).trans ?_, h'⟩
    kernel_rfl
  · cases h
def X_32_0_0 (m : Int) (xs : List Int) : St := St.mk [CV.junk, CV.junk, CV.junk, CV.junk, CV.junk, CV.junk, CV.junk, CV.whole (0 : Nat), CV.int IntKind.i64 m, CV.junk, CV.junk, CV.junk, CV.junk, CV.junk, CV.junk, CV.junk, CV.junk, CV.junk, CV.junk, CV.junk, CV.junk, CV.junk, CV.junk, CV.junk, CV.junk, CV.junk, CV.junk, CV.junk, CV.junk, CV.junk, CV.junk, CV.junk, CV.junk, CV.junk, CV.int IntKind.i64 m, CV.whole (0 : Nat), CV.int IntKind.i64 (↑(List.length xs) : Int), CV.bool false, CV.junk, CV.junk, CV.junk, CV.junk, CV.junk, CV.junk, CV.junk, CV.junk, CV.junk, CV.junk] [Blk.vec (34 : Nat) (Ty.int IntKind.u32) xs] (0 : Nat)
theorem body_32_0 {R : Type} (summ : Nat → Option Summ) (fu n : Nat) (K0 : St → Option R) (K1 : Ex → St → Option R) (m : Int) (xs : List Int) : evLB (evCode summ fu (evFn summ fns fu (n+3)) ir32_b0) (St.norm ir32_v0) (T_32_0 m xs) K0 K1 =
  bif decide (m < (↑(List.length xs) : Int)) then gd (sl3 m (↑(List.length xs) : Int) (↑(List.length xs) : Int)) (gd (sl3 (0 : Int) m (↑(List.length xs) : Int)) (gd (decide ((0 : Nat) + (Int.toNat m - (0 : Nat)) ≤ List.length xs) && (decide (Int.toNat m + (Int.toNat (↑(List.length xs) : Int) - Int.toNat m) ≤ List.length xs) && decide ((0 : Nat) < List.length xs))) (K0 (T_32_0 ( IntKind.wrap IntKind.i64 ( m + ( ↑ ( Nat.min ( List.length ( List.take ( Int.toNat m - ( 0 : Nat ) ) ( List.drop ( 0 : Nat ) xs ) ) ) ( Int.toNat ( ↑ ( List.length xs ) : Int ) - Int.toNat m ) ) : Int ) ) ) ( over xs ( Int.toNat m ) ( List.take ( Int.toNat ( ↑ ( List.length xs ) : Int ) - Int.toNat m ) ( List.take ( Int.toNat m - ( 0 : Nat ) ) ( List.drop ( 0 : Nat ) xs ) ) ) ))))) else K1 (Ex.exit (0 : Nat)) (X_32_0_0 m xs) := by kernel_rfl
theorem sl3_ok {a b c : Int} (h1 : 0 ≤ a) (h2 : a ≤ b) (h3 : b ≤ c) : sl3 a b c = true := by simp [sl3, h1, h2, h3]
theorem over_run (ys : List Int) (m N : Nat) (v : Int) (hN : ys.length = N) (hm : m ≤ N) (hv : ys.take m = List.replicate m v) :
    (over ys m ((ys.take m).take (N - m))).length = N ∧ (over ys m ((ys.take m).take (N - m))).take (m + Nat.min m (N - m)) = List.replicate (m + Nat.min m (N - m)) v := by
  rw [hv, List.take_replicate]
  have h1 : Nat.min m (N - m) = min (N - m) m := Nat.min_comm _ _
  rw [h1]
  generalize hK : min (N - m) m = K
  have hK1 : K ≤ N - m := by omega
  simp only [over, List.length_replicate]
  constructor
  · simp; omega
  · rw [hv, List.replicate_append_replicate, List.take_append_of_le_length (by simp), List.take_of_length_le (by simp)]
theorem loop32 {R : Type} (summ : Nat → Option Summ) (fu n N : Nat) (v : Int) (hN : N ≤ 1099511627776) (k : Ex → St → Option R) : ∀ f m ys, ys.length = N → 1 ≤ m → m ≤ N → ys.take m = List.replicate m v → N - m < f →
    evLoopN (evCode summ fu (evFn summ fns fu (n+3)) ir32_b0) (St.norm ir32_v0) f (T_32_0 (m : Nat) ys) k = k (.exit 0) (X_32_0_0 N (List.replicate N v)) := by
  intro f
  induction f with
  | zero => intro m ys _ _ _ _ h; omega
  | succ f ih =>
    intro m ys hl h1 h2 hv hf
    rw [evLoopN_succ, body_32_0]
    simp only [Int.toNat_natCast, Nat.sub_zero, List.drop_zero, List.length_take, hl, Nat.min_eq_left h2]
    by_cases h : m < N
    · rw [cond_tt (by simp; omega), gd_true (sl3_ok (by omega) (by omega) (by omega)), gd_true (sl3_ok (by omega) (by omega) (by omega)), gd_true (by simp; omega)]
      obtain ⟨o1, o2⟩ := over_run ys m N v hl h2 hv
      have hK1 : Nat.min m (N - m) ≤ N - m := Nat.min_le_right _ _
      have hK2 : 0 < Nat.min m (N - m) := Nat.lt_min.2 ⟨by omega, by omega⟩
      rw [wrap_in (by omega), show (m : Int) + (Nat.min m (N - m) : Nat) = ((m + Nat.min m (N - m) : Nat) : Int) from rfl]
      exact ih _ _ o1 (by omega) (by omega) o2 (by omega)
    · have : m = N := by omega
      subst this
      rw [cond_ff (by simp)]
      have hv' : ys = List.replicate m v := by rw [← hv, List.take_of_length_le (by omega)]
      rw [hv']
def G_32_0 {R : Type} (m : Int) (xs : List Int) (k : Ex → St → Option R) : Option R :=
  gd (decide (m = 1) && (decide (0 < xs.length) && Sp.small xs.length)) (k (.exit 0) (X_32_0_0 xs.length (List.replicate xs.length (xs.getD 0 0))))
theorem ok_32_0 {R : Type} (summ : Nat → Option Summ) (fu n : Nat) (hfu : 4611686018427387904 ≤ fu) (T : St) (k : Ex → St → Option R) (r : R) (h0 : o_32_0 G_32_0 T k = some r) : evLoopN (evCode summ fu (evFn summ fns fu (n+3)) ir32_b0) (St.norm ir32_v0) fu T k = some r := by
  obtain ⟨m, xs, rfl, h1⟩ := o_32_0_inv h0
  obtain ⟨hc, h⟩ := gd_some h1
  simp only [Bool.and_eq_true, decide_eq_true_eq, Sp.small] at hc
  obtain ⟨rfl, hp, hl⟩ := hc
  refine (loop32 summ fu n xs.length (xs.getD 0 0) hl k fu 1 xs rfl (by omega) (by omega) ?_ (by omega)).trans h
  cases xs with
  | nil => simp at hp
  | cons x xs => simp
theorem wrap_u64 {x : Int} (h : 0 ≤ x ∧ x < 9223372036854775808) : IntKind.wrap .u64 x = x := IntWalk.u64_in x (by omega)
theorem fn46 {R : Type} (summ : Nat → Option Summ) (fu n : Nat) (y : Int) (k : CV → List Blk → Option R) : evFn summ fns fu (n+4) 46 [.int .u64 1, .int .u64 y] [] k =
  k (CV.tup (CV.pair (CV.int IntKind.u64 (IntKind.wrap IntKind.u64 (IntKind.wrap IntKind.u64 (IntKind.wrap IntKind.u64 ((0 : Int) * Int.fdiv y (4294967296 : Int)) + Int.fdiv (IntKind.wrap IntKind.u64 (IntKind.wrap IntKind.u64 ((0 : Int) * IntKind.wrap IntKind.u64 (↑(BitVec.toNat (BitVec.ofInt (64 : Nat) y &&& BitVec.ofInt (64 : Nat) (4294967295 : Int))) : Int)) + Int.fdiv (IntKind.wrap IntKind.u64 ((1 : Int) * IntKind.wrap IntKind.u64 (↑(BitVec.toNat (BitVec.ofInt (64 : Nat) y &&& BitVec.ofInt (64 : Nat) (4294967295 : Int))) : Int))) (4294967296 : Int))) (4294967296 : Int)) + Int.fdiv (IntKind.wrap IntKind.u64 (IntKind.wrap IntKind.u64 (↑(BitVec.toNat (BitVec.ofInt (64 : Nat) (IntKind.wrap IntKind.u64 (IntKind.wrap IntKind.u64 ((0 : Int) * IntKind.wrap IntKind.u64 (↑(BitVec.toNat (BitVec.ofInt (64 : Nat) y &&& BitVec.ofInt (64 : Nat) (4294967295 : Int))) : Int)) + Int.fdiv (IntKind.wrap IntKind.u64 ((1 : Int) * IntKind.wrap IntKind.u64 (↑(BitVec.toNat (BitVec.ofInt (64 : Nat) y &&& BitVec.ofInt (64 : Nat) (4294967295 : Int))) : Int))) (4294967296 : Int))) &&& BitVec.ofInt (64 : Nat) (4294967295 : Int))) : Int) + IntKind.wrap IntKind.u64 ((1 : Int) * Int.fdiv y (4294967296 : Int)))) (4294967296 : Int)))) (CV.pair (CV.int IntKind.u64 (IntKind.wrap IntKind.u64 ((1 : Int) * y))) (CV.pure Ty.unit PUnit.unit)))) [] := by kernel_rfl
theorem and_low {y : Int} (h0 : 0 ≤ y) (h1 : y < 4294967296) : ((BitVec.ofInt 64 y &&& BitVec.ofInt 64 4294967295).toNat : Int) = y := by
  obtain ⟨m, rfl⟩ : ∃ m : Nat, y = m := ⟨y.toNat, by omega⟩
  have e1 : (BitVec.ofInt 64 (m : Int)).toNat = m := by rw [BitVec.toNat_ofInt]; omega
  have e2 : (BitVec.ofInt 64 4294967295).toNat = 2 ^ 32 - 1 := by decide
  rw [BitVec.toNat_and, e1, e2, Nat.and_two_pow_sub_one_eq_mod]
  omega
def g46 {R : Type} : List CV → List Blk → (CV → List Blk → Option R) → Option R := fun args hp k => match args, hp with
  | [.int .u64 x, .int .u64 y], [] => gd (decide (x = 1) && (decide (0 ≤ y) && decide (y < 1073741824))) (k (.tup (.pair (.int .u64 0) (.pair (.int .u64 y) cunit))) [])
  | _, _ => none
theorem g46_ok {R : Type} (summ : Nat → Option Summ) (fu n : Nat) : OvrOK (R := R) (only 46 g46) (evFn summ fns fu (n+4)) := by
  refine only_ok fun args hp k r h => ?_
  unfold g46 at h
  split at h
  · rename_i x y
    obtain ⟨hc, h1⟩ := gd_some h
    simp only [Bool.and_eq_true, decide_eq_true_eq] at hc
    obtain ⟨rfl, h0, h2⟩ := hc
    have hf : y.fdiv 4294967296 = 0 := by rw [Int.fdiv_eq_ediv_of_nonneg _ (by omega)]; omega
    have hw : IntKind.wrap .u64 y = y := wrap_u64 ⟨h0, by omega⟩
    rw [fn46]
    simp only [and_low h0 (by omega), hf, hw, Int.zero_mul, Int.one_mul]
    rw [← h1]
    rfl
  · cases h
theorem fn32 (summ : Nat → Option Summ) (fu n : Nat) (v c : Int) : evFnL summ fu (ovr (only 46 g46) (evFn summ fns fu (n+4))) (ir32_t (o_32_0 G_32_0)) ir32 [.pure WT [v], .int .i64 c] [] (fun v h => some (v, h)) =
  bif decide (c < (0 : Int)) then none else gd (true && (decide ((0 : Int) ≤ IntKind.wrap IntKind.u64 c) && decide (IntKind.wrap IntKind.u64 c < (1073741824 : Int)))) (bif decide (IntKind.wrap IntKind.u64 c > (9223372036854775807 : Int)) then none else gd (decide ((0 : Int) ≤ IntKind.wrap IntKind.i64 (IntKind.wrap IntKind.u64 c)) && (IntKind.wrap IntKind.i64 (IntKind.wrap IntKind.u64 c) == IntKind.wrap IntKind.i64 (IntKind.wrap IntKind.u64 c) && room (Int.toNat (IntKind.wrap IntKind.i64 (IntKind.wrap IntKind.u64 c))) (4 : Nat))) (gd (true && (decide ((0 : Nat) + List.length (List.replicate (Int.toNat (IntKind.wrap IntKind.i64 (IntKind.wrap IntKind.u64 c))) (0 : Int)) ≤ List.length (List.replicate (Int.toNat (IntKind.wrap IntKind.i64 (IntKind.wrap IntKind.u64 c))) (0 : Int))) && decide ((0 : Nat) < List.length (List.replicate (Int.toNat (IntKind.wrap IntKind.i64 (IntKind.wrap IntKind.u64 c))) (0 : Int))))) (gd (decide ((↑(Nat.min (1 : Nat) (List.length (List.replicate (Int.toNat (IntKind.wrap IntKind.i64 (IntKind.wrap IntKind.u64 c))) (0 : Int)))) : Int) = (1 : Int)) && (decide ((0 : Nat) < List.length (over (List.replicate (Int.toNat (IntKind.wrap IntKind.i64 (IntKind.wrap IntKind.u64 c))) (0 : Int)) (0 : Nat) (List.take (List.length (List.replicate (Int.toNat (IntKind.wrap IntKind.i64 (IntKind.wrap IntKind.u64 c))) (0 : Int))) [v]))) && Sp.small (List.length (over (List.replicate (Int.toNat (IntKind.wrap IntKind.i64 (IntKind.wrap IntKind.u64 c))) (0 : Int)) (0 : Nat) (List.take (List.length (List.replicate (Int.toNat (IntKind.wrap IntKind.i64 (IntKind.wrap IntKind.u64 c))) (0 : Int))) [v]))))) (some (CV.whole (0 : Nat), [Blk.vec (34 : Nat) (Ty.int IntKind.u32) (List.replicate (List.length (over (List.replicate (Int.toNat (IntKind.wrap IntKind.i64 (IntKind.wrap IntKind.u64 c))) (0 : Int)) (0 : Nat) (List.take (List.length (List.replicate (Int.toNat (IntKind.wrap IntKind.i64 (IntKind.wrap IntKind.u64 c))) (0 : Int))) [v]))) (List.getD (over (List.replicate (Int.toNat (IntKind.wrap IntKind.i64 (IntKind.wrap IntKind.u64 c))) (0 : Int)) (0 : Nat) (List.take (List.length (List.replicate (Int.toNat (IntKind.wrap IntKind.i64 (IntKind.wrap IntKind.u64 c))) (0 : Int))) [v])) (0 : Nat) (0 : Int)))]))))) := by kernel_rfl
theorem val32 (summ : Nat → Option Summ) (fu n : Nat) (v c : Int) (h1 : 1 ≤ c) (h2 : c < 1073741824) : evFnL summ fu (ovr (only 46 g46) (evFn summ fns fu (n+4))) (ir32_t (o_32_0 G_32_0)) ir32 [.pure WT [v], .int .i64 c] [] (fun v h => some (v, h)) = some (.whole 0, [.vec 34 (.int .u32) (List.replicate c.toNat v)]) := by
  rw [fn32]
  have hw : IntKind.wrap .u64 c = c := wrap_u64 ⟨by omega, by omega⟩
  have hi : IntKind.wrap .i64 c = c := wrap_in (by omega)
  simp only [hw, hi, List.length_replicate]
  obtain ⟨m, hm⟩ : ∃ m, c.toNat = m + 1 := ⟨c.toNat - 1, by omega⟩
  have ho : over (List.replicate c.toNat (0 : Int)) 0 (List.take c.toNat [v]) = v :: List.replicate m 0 := by
    rw [hm]; simp [over, List.replicate_succ]
  rw [ho]
  have hmin : Nat.min 1 c.toNat = 1 := Nat.min_eq_left (by omega)
  rw [hmin]
  rw [cond_ff (by simp; omega), gd_true (by simp; omega), cond_ff (by simp; omega), gd_true (by simp [room]; omega), gd_true (by simp; omega), gd_true (by simp [Sp.small]; omega)]
  rw [hm]
  simp
theorem ret32 (summ : Nat → Option Summ) (fu n : Nat) (hfu : 4611686018427387904 ≤ fu) (x : HDen [WT, IT]) (hp : Sp.repOK x.1 x.2.1 = true) : Rets [WT] (evFn summ fns fu (n+5) 32 (ofH [WT, IT] x) [] fun v h => some (v, h)) (Sp.rep x.1 x.2.1, ()) := by
  obtain ⟨xs, c, u⟩ := x
  simp only [Sp.repOK, Bool.and_eq_true, decide_eq_true_eq] at hp
  obtain ⟨h0, h1, h2⟩ := hp
  obtain ⟨v, rfl⟩ := List.length_eq_one_iff.1 h0
  exact Rets.of (l0 := [.whole 0]) (hp2 := [.vec 34 (.int .u32) (List.replicate c.toNat v)]) (evFnL_sound (fn := ir32) (t := ir32_t (o_32_0 G_32_0)) rfl (g46_ok summ fu n) (ir32_tok (ok_32_0 summ fu (n+1) hfu)) (val32 summ fu n v c h1 h2)) rfl rfl
end Go.Ev
