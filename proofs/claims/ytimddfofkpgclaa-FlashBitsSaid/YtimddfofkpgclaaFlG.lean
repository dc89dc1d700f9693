/- Helpers: what functions compute, proved by the evaluator. No condition. -/
import Derived.Test.YtimddfofkpgclaaFlF
set_option maxRecDepth 10000
set_option linter.unusedVariables false
set_option linter.unusedSimpArgs false
namespace Go.Ev
open Go
theorem fvalid_len {ws wr : List Int} {life : Int} (h : Sp.fvalid (ws, wr, life, ()) = true) : (ws.length : Int) = wr.length * 64 ∧ 1 ≤ (wr.length : Int) ∧ (wr.length : Int) ≤ 64 := by
  simp only [Sp.fvalid, Bool.not_eq_true', Bool.or_eq_false_iff, decide_eq_false_iff_not, bne_eq_false_iff_eq] at h
  obtain ⟨h1, h2, h3, h4, h5, _⟩ := h
  omega
/-! flash.New -/
theorem fn13 (fu n : Nat) (s l : Int) : evFn sm1 fns fu (n+1) 13 [.int .i64 s, .int .i64 l] [] (fun v h => some (v, h)) =
  bif decide (s < (1 : Int)) then some (CV.tup (CV.pair (CV.pair (CV.nil (34 : Nat) (Ty.int IntKind.u32)) (CV.pair (CV.nil (3 : Nat) (Ty.int IntKind.i64)) (CV.pure (Ty.pair (Ty.int IntKind.i64) Ty.unit) ((0 : Int), PUnit.unit)))) (CV.pair (CV.int IntKind.i64 (2 : Int)) (CV.pure Ty.unit PUnit.unit))), []) else bif decide (s > (64 : Int)) then some (CV.tup (CV.pair (CV.pair (CV.nil (34 : Nat) (Ty.int IntKind.u32)) (CV.pair (CV.nil (3 : Nat) (Ty.int IntKind.i64)) (CV.pure (Ty.pair (Ty.int IntKind.i64) Ty.unit) ((0 : Int), PUnit.unit)))) (CV.pair (CV.int IntKind.i64 (2 : Int)) (CV.pure Ty.unit PUnit.unit))), []) else bif decide (l < (1 : Int)) then some (CV.tup (CV.pair (CV.pair (CV.nil (34 : Nat) (Ty.int IntKind.u32)) (CV.pair (CV.nil (3 : Nat) (Ty.int IntKind.i64)) (CV.pure (Ty.pair (Ty.int IntKind.i64) Ty.unit) ((0 : Int), PUnit.unit)))) (CV.pair (CV.int IntKind.i64 (2 : Int)) (CV.pure Ty.unit PUnit.unit))), []) else bif decide (l > (1000000 : Int)) then some (CV.tup (CV.pair (CV.pair (CV.nil (34 : Nat) (Ty.int IntKind.u32)) (CV.pair (CV.nil (3 : Nat) (Ty.int IntKind.i64)) (CV.pure (Ty.pair (Ty.int IntKind.i64) Ty.unit) ((0 : Int), PUnit.unit)))) (CV.pair (CV.int IntKind.i64 (2 : Int)) (CV.pure Ty.unit PUnit.unit))), []) else gd (true && Sp.repOK [(4294967295 : Int)] (IntKind.wrap IntKind.i64 (s * (64 : Int)))) (gd (decide ((0 : Int) ≤ s) && (s == s && room (Int.toNat s) (8 : Nat))) (some (CV.tup (CV.pair (CV.pair (CV.pure (Ty.slice (Ty.int IntKind.u32)) (Sp.rep [(4294967295 : Int)] (IntKind.wrap IntKind.i64 (s * (64 : Int))))) (CV.pair (CV.whole (0 : Nat)) (CV.pure (Ty.pair (Ty.int IntKind.i64) Ty.unit) (l, PUnit.unit)))) (CV.pair (CV.int IntKind.i64 (0 : Int)) (CV.pure Ty.unit PUnit.unit))), [Blk.vec (3 : Nat) (Ty.int IntKind.i64) (List.replicate (Int.toNat s) (0 : Int))]))) := by kernel_rfl
theorem val13 (fu n : Nat) (s l : Int) : Rets [FT, IT] (evFn sm1 fns fu (n+1) 13 [.int .i64 s, .int .i64 l] [] fun v h => some (v, h)) ((Sp.newF s l).1, (Sp.newF s l).2, ()) := by
  have hs := fn13 fu n s l
  by_cases h1 : s < 1
  · have e : Sp.newF s l = (([], [], 0, ()), 2) := by simp [Sp.newF, h1]
    rw [cond_tt (by simp [h1])] at hs
    rw [e]
    exact Rets.of (l0 := [_, _]) hs rfl rfl
  by_cases h2 : s > 64
  · have e : Sp.newF s l = (([], [], 0, ()), 2) := by simp [Sp.newF, h2]
    rw [cond_ff (by simp [h1]), cond_tt (by simp [h2])] at hs
    rw [e]
    exact Rets.of (l0 := [_, _]) hs rfl rfl
  by_cases h3 : l < 1
  · have e : Sp.newF s l = (([], [], 0, ()), 2) := by simp [Sp.newF, h3]
    rw [cond_ff (by simp [h1]), cond_ff (by simp [h2]), cond_tt (by simp [h3])] at hs
    rw [e]
    exact Rets.of (l0 := [_, _]) hs rfl rfl
  by_cases h4 : l > 1000000
  · have e : Sp.newF s l = (([], [], 0, ()), 2) := by simp [Sp.newF, h4]
    rw [cond_ff (by simp [h1]), cond_ff (by simp [h2]), cond_ff (by simp [h3]), cond_tt (by simp [h4])] at hs
    rw [e]
    exact Rets.of (l0 := [_, _]) hs rfl rfl
  · have e : Sp.newF s l = ((List.replicate (64 * s.toNat) 4294967295, List.replicate s.toNat 0, l, ()), 0) := by simp [Sp.newF, h1, h2, h3, h4]
    rw [wrap_in (by omega), cond_ff (by simp [h1]), cond_ff (by simp [h2]), cond_ff (by simp [h3]), cond_ff (by simp [h4]), gd_true (by simp [Sp.repOK]; omega), gd_true (by simp [room]; omega)] at hs
    rw [e]
    have hr : Sp.rep [4294967295] (s * 64) = List.replicate (64 * s.toNat) 4294967295 := by
      simp only [Sp.rep]; rw [show (s * 64).toNat = 64 * s.toNat by omega]; rfl
    rw [hr] at hs
    exact Rets.of (l0 := [_, _]) hs rfl rfl
/-! flash.Read -/
theorem fn25 (fu n : Nat) (ws wr : List Int) (life at_ : Int) : evFn sm1 fns fu (n+1) 25 [.pure FT (ws, wr, life, ()), .int .i64 at_] [] (fun v h => some (v, h)) =
  bif !Sp.fvalid (ws, wr, life, PUnit.unit) then some (CV.tup (CV.pair (CV.int IntKind.u32 (0 : Int)) (CV.pair (CV.int IntKind.i64 (1 : Int)) (CV.pure Ty.unit PUnit.unit))), []) else bif decide (at_ < (0 : Int)) then some (CV.tup (CV.pair (CV.int IntKind.u32 (0 : Int)) (CV.pair (CV.int IntKind.i64 (2 : Int)) (CV.pure Ty.unit PUnit.unit))), []) else bif decide (at_ ≥ (↑(List.length ws) : Int)) then some (CV.tup (CV.pair (CV.int IntKind.u32 (0 : Int)) (CV.pair (CV.int IntKind.i64 (2 : Int)) (CV.pure Ty.unit PUnit.unit))), []) else gd (inB at_ (List.length ws)) (some (CV.tup (CV.pair (CV.int IntKind.u32 (List.getD ws (Int.toNat at_) (0 : Int))) (CV.pair (CV.int IntKind.i64 (0 : Int)) (CV.pure Ty.unit PUnit.unit))), [])) := by kernel_rfl
theorem val25 (fu n : Nat) (ws wr : List Int) (life i : Int) : Rets [.int .u32, IT] (evFn sm1 fns fu (n+1) 25 [.pure FT (ws, wr, life, ()), .int .i64 i] [] fun v h => some (v, h)) ((Sp.readF (ws, wr, life, ()) i).1, (Sp.readF (ws, wr, life, ()) i).2, ()) := by
  have hs := fn25 fu n ws wr life i
  unfold Sp.readF
  cases h1 : Sp.fvalid (ws, wr, life, ())
  · rw [h1] at hs
    exact Rets.of (l0 := [_, _]) hs rfl rfl
  rw [h1] at hs
  by_cases h2 : i < 0
  · rw [cond_ff (by rfl), cond_tt (by simp [h2])] at hs
    rw [cond_ff (by rfl), cond_tt (by simp [h2])]
    exact Rets.of (l0 := [_, _]) hs rfl rfl
  by_cases h3 : i ≥ ws.length
  · rw [cond_ff (by rfl), cond_ff (by simp [h2]), cond_tt (by simp [h3])] at hs
    rw [cond_ff (by rfl), cond_tt (by simp [h3])]
    exact Rets.of (l0 := [_, _]) hs rfl rfl
  rw [cond_ff (by rfl), cond_ff (by simp [h2]), cond_ff (by simp [h3]), gd_true (by simp [inB]; omega)] at hs
  rw [cond_ff (by rfl), cond_ff (by simp [h2, h3])]
  exact Rets.of (l0 := [_, _]) hs rfl rfl
/-! flash.Program -/
theorem fn19 (fu n : Nat) (ws wr : List Int) (life at_ : Int) (w af mix : Int) : evFn sm1 fns fu (n+4) 19 [.pure FT (ws, wr, life, ()), .int .i64 at_, .int .u32 w, .pure PT (af, mix, ())] [] (fun v h => some (v, h)) =
  bif !Sp.fvalid (ws, wr, life, PUnit.unit) then some (CV.tup (CV.pair (CV.pair (CV.nil (34 : Nat) (Ty.int IntKind.u32)) (CV.pair (CV.nil (3 : Nat) (Ty.int IntKind.i64)) (CV.pure (Ty.pair (Ty.int IntKind.i64) Ty.unit) ((0 : Int), PUnit.unit)))) (CV.pair (CV.pure (Ty.pair (Ty.int IntKind.i64) (Ty.pair (Ty.int IntKind.u32) Ty.unit)) ((0 : Int), (0 : Int), PUnit.unit)) (CV.pair (CV.int IntKind.i64 (1 : Int)) (CV.pure Ty.unit PUnit.unit)))), []) else bif decide (af < (0 : Int)) then some (CV.tup (CV.pair (CV.pair (CV.nil (34 : Nat) (Ty.int IntKind.u32)) (CV.pair (CV.nil (3 : Nat) (Ty.int IntKind.i64)) (CV.pure (Ty.pair (Ty.int IntKind.i64) Ty.unit) ((0 : Int), PUnit.unit)))) (CV.pair (CV.pure (Ty.pair (Ty.int IntKind.i64) (Ty.pair (Ty.int IntKind.u32) Ty.unit)) ((0 : Int), (0 : Int), PUnit.unit)) (CV.pair (CV.int IntKind.i64 (1 : Int)) (CV.pure Ty.unit PUnit.unit)))), []) else bif decide (af > (1099511627776 : Int)) then some (CV.tup (CV.pair (CV.pair (CV.nil (34 : Nat) (Ty.int IntKind.u32)) (CV.pair (CV.nil (3 : Nat) (Ty.int IntKind.i64)) (CV.pure (Ty.pair (Ty.int IntKind.i64) Ty.unit) ((0 : Int), PUnit.unit)))) (CV.pair (CV.pure (Ty.pair (Ty.int IntKind.i64) (Ty.pair (Ty.int IntKind.u32) Ty.unit)) ((0 : Int), (0 : Int), PUnit.unit)) (CV.pair (CV.int IntKind.i64 (1 : Int)) (CV.pure Ty.unit PUnit.unit)))), []) else bif decide (at_ < (0 : Int)) then some (CV.tup (CV.pair (CV.pair (CV.nil (34 : Nat) (Ty.int IntKind.u32)) (CV.pair (CV.nil (3 : Nat) (Ty.int IntKind.i64)) (CV.pure (Ty.pair (Ty.int IntKind.i64) Ty.unit) ((0 : Int), PUnit.unit)))) (CV.pair (CV.pure (Ty.pair (Ty.int IntKind.i64) (Ty.pair (Ty.int IntKind.u32) Ty.unit)) ((0 : Int), (0 : Int), PUnit.unit)) (CV.pair (CV.int IntKind.i64 (2 : Int)) (CV.pure Ty.unit PUnit.unit)))), []) else bif decide (at_ ≥ (↑(List.length ws) : Int)) then some (CV.tup (CV.pair (CV.pair (CV.nil (34 : Nat) (Ty.int IntKind.u32)) (CV.pair (CV.nil (3 : Nat) (Ty.int IntKind.i64)) (CV.pure (Ty.pair (Ty.int IntKind.i64) Ty.unit) ((0 : Int), PUnit.unit)))) (CV.pair (CV.pure (Ty.pair (Ty.int IntKind.i64) (Ty.pair (Ty.int IntKind.u32) Ty.unit)) ((0 : Int), (0 : Int), PUnit.unit)) (CV.pair (CV.int IntKind.i64 (2 : Int)) (CV.pure Ty.unit PUnit.unit)))), []) else gd (true && room (List.length ws) (4 : Nat)) (gd (true && room (List.length wr) (8 : Nat)) (bif af == (0 : Int) then some (CV.tup (CV.pair (CV.pair (CV.whole (0 : Nat)) (CV.pair (CV.whole (1 : Nat)) (CV.pure (Ty.pair (Ty.int IntKind.i64) Ty.unit) (life, PUnit.unit)))) (CV.pair (CV.pure (Ty.pair (Ty.int IntKind.i64) (Ty.pair (Ty.int IntKind.u32) Ty.unit)) (af, mix, PUnit.unit)) (CV.pair (CV.int IntKind.i64 (18 : Int)) (CV.pure Ty.unit PUnit.unit)))), [Blk.vec (34 : Nat) (Ty.int IntKind.u32) ws, Blk.vec (3 : Nat) (Ty.int IntKind.i64) wr]) else bif af == (1 : Int) then gd (inB at_ (List.length ws)) (gd (decide (Int.toNat at_ < List.length ws) && true) (gd (inB at_ (List.length ws)) (gd (decide (Int.toNat at_ < List.length ws) && true && true) (some (CV.tup (CV.pair (CV.pair (CV.whole (0 : Nat)) (CV.pair (CV.whole (1 : Nat)) (CV.pure (Ty.pair (Ty.int IntKind.i64) Ty.unit) (life, PUnit.unit)))) (CV.pair (CV.pure (Ty.pair (Ty.int IntKind.i64) (Ty.pair (Ty.int IntKind.u32) Ty.unit)) ((0 : Int), mix, PUnit.unit)) (CV.pair (CV.int IntKind.i64 (18 : Int)) (CV.pure Ty.unit PUnit.unit)))), [Blk.vec (34 : Nat) (Ty.int IntKind.u32) (List.set ws (Int.toNat at_) (IntKind.wrap IntKind.u32 (↑(BitVec.toNat (BitVec.ofInt (32 : Nat) (List.getD ws (Int.toNat at_) (0 : Int)) &&& ~~~BitVec.ofInt (32 : Nat) (IntKind.wrap IntKind.u32 (↑(BitVec.toNat (BitVec.ofInt (32 : Nat) mix &&& ~~~BitVec.ofInt (32 : Nat) w)) : Int)))) : Int))), Blk.vec (3 : Nat) (Ty.int IntKind.i64) wr]))))) else gd (inB at_ (List.length ws)) (gd (decide (Int.toNat at_ < List.length ws) && true) (gd (inB at_ (List.length ws)) (gd (decide (Int.toNat at_ < List.length ws) && true && true) (some (CV.tup (CV.pair (CV.pair (CV.whole (0 : Nat)) (CV.pair (CV.whole (1 : Nat)) (CV.pure (Ty.pair (Ty.int IntKind.i64) Ty.unit) (life, PUnit.unit)))) (CV.pair (CV.pure (Ty.pair (Ty.int IntKind.i64) (Ty.pair (Ty.int IntKind.u32) Ty.unit)) (IntKind.wrap IntKind.i64 (af - (1 : Int)), mix, PUnit.unit)) (CV.pair (CV.int IntKind.i64 (0 : Int)) (CV.pure Ty.unit PUnit.unit)))), [Blk.vec (34 : Nat) (Ty.int IntKind.u32) (List.set ws (Int.toNat at_) (IntKind.wrap IntKind.u32 (↑(BitVec.toNat (BitVec.ofInt (32 : Nat) (List.getD ws (Int.toNat at_) (0 : Int)) &&& ~~~BitVec.ofInt (32 : Nat) (IntKind.wrap IntKind.u32 (↑(BitVec.toNat (BitVec.ofInt (32 : Nat) (4294967295 : Int) &&& ~~~BitVec.ofInt (32 : Nat) w)) : Int)))) : Int))), Blk.vec (3 : Nat) (Ty.int IntKind.i64) wr]))))))) := by kernel_rfl
theorem val19 (fu n : Nat) (ws wr : List Int) (life i w af mix : Int) : Rets [FT, PT, IT] (evFn sm1 fns fu (n+4) 19 [.pure FT (ws, wr, life, ()), .int .i64 i, .int .u32 w, .pure PT (af, mix, ())] [] fun v h => some (v, h)) ((Sp.progI (ws, wr, life, ()) i w af mix).1, (Sp.progI (ws, wr, life, ()) i w af mix).2.1, (Sp.progI (ws, wr, life, ()) i w af mix).2.2, ()) := by
  have hs := fn19 fu n ws wr life i w af mix
  unfold Sp.progI Sp.badP
  cases h1 : Sp.fvalid (ws, wr, life, ())
  · rw [h1] at hs
    exact Rets.of (l0 := [_, _, _]) hs rfl rfl
  have hl := fvalid_len h1
  rw [h1, cond_ff (by rfl)] at hs
  by_cases h2 : af < 0
  · rw [cond_tt (by simp [h2])] at hs
    rw [cond_tt (by simp [h2])]
    exact Rets.of (l0 := [_, _, _]) hs rfl rfl
  by_cases h3 : af > 1099511627776
  · rw [cond_ff (by simp [h2]), cond_tt (by simp [h3])] at hs
    rw [cond_tt (by simp [h3])]
    exact Rets.of (l0 := [_, _, _]) hs rfl rfl
  rw [cond_ff (by simp [h2]), cond_ff (by simp [h3])] at hs
  rw [cond_ff (by simp [h2, h3])]
  by_cases h4 : i < 0
  · rw [cond_tt (by simp [h4])] at hs
    rw [cond_tt (by simp [h4])]
    exact Rets.of (l0 := [_, _, _]) hs rfl rfl
  by_cases h5 : i ≥ ws.length
  · rw [cond_ff (by simp [h4]), cond_tt (by simp [h5])] at hs
    rw [cond_tt (by simp [h5])]
    exact Rets.of (l0 := [_, _, _]) hs rfl rfl
  have hb : inB i ws.length = true := by simp [inB]; omega
  have hb2 : decide (i.toNat < ws.length) = true := by simp; omega
  rw [cond_ff (by simp [h4]), cond_ff (by simp [h5]), gd_true (by simp [room]; omega), gd_true (by simp [room]; omega)] at hs
  rw [cond_ff (by simp [h4, h5])]
  by_cases h6 : af = 0
  · subst h6
    exact Rets.of (l0 := [_, _, _]) hs rfl rfl
  rw [cond_ff (by simp [h6])] at hs
  rw [cond_ff (by simp [h6])]
  simp only [hb, hb2, Bool.and_true, gd_true] at hs
  by_cases h7 : af = 1
  · subst h7
    exact Rets.of (l0 := [_, _, _]) hs rfl rfl
  rw [cond_ff (by simp [h7]), wrap_in (n := af - 1) (by omega)] at hs
  rw [cond_ff (by simp [h7])]
  exact Rets.of (l0 := [_, _, _]) hs rfl rfl
/-! magnetoref50.Program -/
theorem fn20 (fu n : Nat) (ws wr : List Int) (life at_ : Int) (w af mix : Int) : evFnL sm1 fu (ovr (only 41 g41) (evFn sm1 fns fu (n+4))) .nil ir20 [.pure FT (ws, wr, life, ()), .int .i64 at_, .int .u32 w, .pure PT (af, mix, ())] [] (fun v h => some (v, h)) =
  bif !Sp.fvalid (ws, wr, life, PUnit.unit) then some (CV.tup (CV.pair (CV.pair (CV.nil (34 : Nat) (Ty.int IntKind.u32)) (CV.pair (CV.nil (3 : Nat) (Ty.int IntKind.i64)) (CV.pure (Ty.pair (Ty.int IntKind.i64) Ty.unit) ((0 : Int), PUnit.unit)))) (CV.pair (CV.pure (Ty.pair (Ty.int IntKind.i64) (Ty.pair (Ty.int IntKind.u32) Ty.unit)) ((0 : Int), (0 : Int), PUnit.unit)) (CV.pair (CV.int IntKind.i64 (1 : Int)) (CV.pure Ty.unit PUnit.unit)))), []) else bif decide (af ≥ (0 : Int)) then bif !decide (af ≤ (1099511627776 : Int)) then some (CV.tup (CV.pair (CV.pair (CV.nil (34 : Nat) (Ty.int IntKind.u32)) (CV.pair (CV.nil (3 : Nat) (Ty.int IntKind.i64)) (CV.pure (Ty.pair (Ty.int IntKind.i64) Ty.unit) ((0 : Int), PUnit.unit)))) (CV.pair (CV.pure (Ty.pair (Ty.int IntKind.i64) (Ty.pair (Ty.int IntKind.u32) Ty.unit)) ((0 : Int), (0 : Int), PUnit.unit)) (CV.pair (CV.int IntKind.i64 (1 : Int)) (CV.pure Ty.unit PUnit.unit)))), []) else bif decide (at_ < (0 : Int)) then some (CV.tup (CV.pair (CV.pair (CV.nil (34 : Nat) (Ty.int IntKind.u32)) (CV.pair (CV.nil (3 : Nat) (Ty.int IntKind.i64)) (CV.pure (Ty.pair (Ty.int IntKind.i64) Ty.unit) ((0 : Int), PUnit.unit)))) (CV.pair (CV.pure (Ty.pair (Ty.int IntKind.i64) (Ty.pair (Ty.int IntKind.u32) Ty.unit)) ((0 : Int), (0 : Int), PUnit.unit)) (CV.pair (CV.int IntKind.i64 (2 : Int)) (CV.pure Ty.unit PUnit.unit)))), []) else bif decide (at_ ≥ (↑(List.length ws) : Int)) then some (CV.tup (CV.pair (CV.pair (CV.nil (34 : Nat) (Ty.int IntKind.u32)) (CV.pair (CV.nil (3 : Nat) (Ty.int IntKind.i64)) (CV.pure (Ty.pair (Ty.int IntKind.i64) Ty.unit) ((0 : Int), PUnit.unit)))) (CV.pair (CV.pure (Ty.pair (Ty.int IntKind.i64) (Ty.pair (Ty.int IntKind.u32) Ty.unit)) ((0 : Int), (0 : Int), PUnit.unit)) (CV.pair (CV.int IntKind.i64 (2 : Int)) (CV.pure Ty.unit PUnit.unit)))), []) else bif decide (af < (2 : Int)) then bif decide (af < (1 : Int)) then gd (true && Sp.fsmall (ws, wr, life, PUnit.unit)) (gd (inB at_ (List.length ws)) (gd (inB at_ (List.length ws)) (gd (decide (Int.toNat at_ < List.length ws) && true && true) (some (CV.tup (CV.pair (CV.pair (CV.whole (0 : Nat)) (CV.pair (CV.whole (1 : Nat)) (CV.pure (Ty.pair (Ty.int IntKind.i64) Ty.unit) (life, PUnit.unit)))) (CV.pair (CV.pure (Ty.pair (Ty.int IntKind.i64) (Ty.pair (Ty.int IntKind.u32) Ty.unit)) (if IntKind.wrap IntKind.i64 (af - (1 : Int)) > (0 : Int) then IntKind.wrap IntKind.i64 (af - (1 : Int)) else (0 : Int), mix, PUnit.unit)) (CV.pair (CV.int IntKind.i64 (18 : Int)) (CV.pure Ty.unit PUnit.unit)))), [Blk.vec (34 : Nat) (Ty.int IntKind.u32) (List.set ws (Int.toNat at_) (IntKind.wrap IntKind.u32 (↑(BitVec.toNat (BitVec.ofInt (32 : Nat) (List.getD ws (Int.toNat at_) (0 : Int)) &&& BitVec.ofInt (32 : Nat) (IntKind.wrap IntKind.u32 (↑(BitVec.toNat (BitVec.ofInt (32 : Nat) w ||| BitVec.ofInt (32 : Nat) (4294967295 : Int))) : Int)))) : Int))), Blk.vec (3 : Nat) (Ty.int IntKind.i64) wr]))))) else gd (true && Sp.fsmall (ws, wr, life, PUnit.unit)) (gd (inB at_ (List.length ws)) (gd (inB at_ (List.length ws)) (gd (decide (Int.toNat at_ < List.length ws) && true && true) (some (CV.tup (CV.pair (CV.pair (CV.whole (0 : Nat)) (CV.pair (CV.whole (1 : Nat)) (CV.pure (Ty.pair (Ty.int IntKind.i64) Ty.unit) (life, PUnit.unit)))) (CV.pair (CV.pure (Ty.pair (Ty.int IntKind.i64) (Ty.pair (Ty.int IntKind.u32) Ty.unit)) (if IntKind.wrap IntKind.i64 (af - (1 : Int)) > (0 : Int) then IntKind.wrap IntKind.i64 (af - (1 : Int)) else (0 : Int), mix, PUnit.unit)) (CV.pair (CV.int IntKind.i64 (18 : Int)) (CV.pure Ty.unit PUnit.unit)))), [Blk.vec (34 : Nat) (Ty.int IntKind.u32) (List.set ws (Int.toNat at_) (IntKind.wrap IntKind.u32 (↑(BitVec.toNat (BitVec.ofInt (32 : Nat) (List.getD ws (Int.toNat at_) (0 : Int)) &&& BitVec.ofInt (32 : Nat) (IntKind.wrap IntKind.u32 (↑(BitVec.toNat (BitVec.ofInt (32 : Nat) w ||| BitVec.ofInt (32 : Nat) (IntKind.wrap IntKind.u32 (↑(BitVec.toNat (BitVec.ofInt (32 : Nat) (4294967295 : Int) ^^^ BitVec.ofInt (32 : Nat) mix)) : Int)))) : Int)))) : Int))), Blk.vec (3 : Nat) (Ty.int IntKind.i64) wr]))))) else bif decide (af < (1 : Int)) then gd (true && Sp.fsmall (ws, wr, life, PUnit.unit)) (gd (inB at_ (List.length ws)) (gd (inB at_ (List.length ws)) (gd (decide (Int.toNat at_ < List.length ws) && true && true) (some (CV.tup (CV.pair (CV.pair (CV.whole (0 : Nat)) (CV.pair (CV.whole (1 : Nat)) (CV.pure (Ty.pair (Ty.int IntKind.i64) Ty.unit) (life, PUnit.unit)))) (CV.pair (CV.pure (Ty.pair (Ty.int IntKind.i64) (Ty.pair (Ty.int IntKind.u32) Ty.unit)) (if IntKind.wrap IntKind.i64 (af - (1 : Int)) > (0 : Int) then IntKind.wrap IntKind.i64 (af - (1 : Int)) else (0 : Int), mix, PUnit.unit)) (CV.pair (CV.int IntKind.i64 (0 : Int)) (CV.pure Ty.unit PUnit.unit)))), [Blk.vec (34 : Nat) (Ty.int IntKind.u32) (List.set ws (Int.toNat at_) (IntKind.wrap IntKind.u32 (↑(BitVec.toNat (BitVec.ofInt (32 : Nat) (List.getD ws (Int.toNat at_) (0 : Int)) &&& BitVec.ofInt (32 : Nat) (IntKind.wrap IntKind.u32 (↑(BitVec.toNat (BitVec.ofInt (32 : Nat) w ||| BitVec.ofInt (32 : Nat) (4294967295 : Int))) : Int)))) : Int))), Blk.vec (3 : Nat) (Ty.int IntKind.i64) wr]))))) else gd (true && Sp.fsmall (ws, wr, life, PUnit.unit)) (gd (inB at_ (List.length ws)) (gd (inB at_ (List.length ws)) (gd (decide (Int.toNat at_ < List.length ws) && true && true) (some (CV.tup (CV.pair (CV.pair (CV.whole (0 : Nat)) (CV.pair (CV.whole (1 : Nat)) (CV.pure (Ty.pair (Ty.int IntKind.i64) Ty.unit) (life, PUnit.unit)))) (CV.pair (CV.pure (Ty.pair (Ty.int IntKind.i64) (Ty.pair (Ty.int IntKind.u32) Ty.unit)) (if IntKind.wrap IntKind.i64 (af - (1 : Int)) > (0 : Int) then IntKind.wrap IntKind.i64 (af - (1 : Int)) else (0 : Int), mix, PUnit.unit)) (CV.pair (CV.int IntKind.i64 (0 : Int)) (CV.pure Ty.unit PUnit.unit)))), [Blk.vec (34 : Nat) (Ty.int IntKind.u32) (List.set ws (Int.toNat at_) (IntKind.wrap IntKind.u32 (↑(BitVec.toNat (BitVec.ofInt (32 : Nat) (List.getD ws (Int.toNat at_) (0 : Int)) &&& BitVec.ofInt (32 : Nat) (IntKind.wrap IntKind.u32 (↑(BitVec.toNat (BitVec.ofInt (32 : Nat) w ||| BitVec.ofInt (32 : Nat) (0 : Int))) : Int)))) : Int))), Blk.vec (3 : Nat) (Ty.int IntKind.i64) wr]))))) else some (CV.tup (CV.pair (CV.pair (CV.nil (34 : Nat) (Ty.int IntKind.u32)) (CV.pair (CV.nil (3 : Nat) (Ty.int IntKind.i64)) (CV.pure (Ty.pair (Ty.int IntKind.i64) Ty.unit) ((0 : Int), PUnit.unit)))) (CV.pair (CV.pure (Ty.pair (Ty.int IntKind.i64) (Ty.pair (Ty.int IntKind.u32) Ty.unit)) ((0 : Int), (0 : Int), PUnit.unit)) (CV.pair (CV.int IntKind.i64 (1 : Int)) (CV.pure Ty.unit PUnit.unit)))), []) := by kernel_rfl
theorem val20 (fu n : Nat) (hfu : 4611686018427387904 ≤ fu) (ws wr : List Int) (life i w af mix : Int) : Rets [FT, PT, IT] (evFn sm1 fns fu (n+5) 20 [.pure FT (ws, wr, life, ()), .int .i64 i, .int .u32 w, .pure PT (af, mix, ())] [] fun v h => some (v, h)) ((Sp.progR (ws, wr, life, ()) i w af mix).1, (Sp.progR (ws, wr, life, ()) i w af mix).2.1, (Sp.progR (ws, wr, life, ()) i w af mix).2.2, ()) := by
  have hs := fun {r} => evFnL_sound (summ := sm1) (fu := fu) (n := n+4) (fns := fns) (f := 20) (fn := ir20) (t := .nil) (args := [.pure FT (ws, wr, life, ()), .int .i64 i, .int .u32 w, .pure PT (af, mix, ())]) (hp := []) (k := fun v h => some (v, h)) (r := r) rfl (g41_ok sm1 fu n hfu) trivial
  rw [fn20] at hs
  unfold Sp.progR Sp.badP
  cases h1 : Sp.fvalid (ws, wr, life, ())
  · rw [h1] at hs
    exact Rets.of (l0 := [_, _, _]) (hs rfl) rfl rfl
  have hl := fvalid_len h1
  rw [h1, cond_ff (by rfl)] at hs
  by_cases h2 : af < 0
  · rw [cond_ff (by simp; omega)] at hs
    rw [cond_tt (by simp [h2])]
    exact Rets.of (l0 := [_, _, _]) (hs rfl) rfl rfl
  by_cases h3 : af > 1099511627776
  · rw [cond_tt (by simp; omega), cond_tt (by simp; omega)] at hs
    rw [cond_tt (by simp [h3])]
    exact Rets.of (l0 := [_, _, _]) (hs rfl) rfl rfl
  rw [cond_tt (by simp; omega), cond_ff (by simp; omega)] at hs
  rw [cond_ff (by simp [h2, h3])]
  by_cases h4 : i < 0
  · rw [cond_tt (by simp [h4])] at hs
    rw [cond_tt (by simp [h4])]
    exact Rets.of (l0 := [_, _, _]) (hs rfl) rfl rfl
  by_cases h5 : i ≥ ws.length
  · rw [cond_ff (by simp [h4]), cond_tt (by simp [h5])] at hs
    rw [cond_tt (by simp [h5])]
    exact Rets.of (l0 := [_, _, _]) (hs rfl) rfl rfl
  have hb : inB i ws.length = true := by simp [inB]; omega
  have hb2 : decide (i.toNat < ws.length) = true := by simp; omega
  have hb3 : Sp.fsmall (ws, wr, life, PUnit.unit) = true := by simp [Sp.fsmall, Sp.small]; omega
  rw [cond_ff (by simp [h4]), cond_ff (by simp [h5])] at hs
  rw [cond_ff (by simp [h4, h5])]
  simp only [hb, hb2, hb3, Bool.and_true, gd_true] at hs
  by_cases h6 : af = 0
  · subst h6
    exact Rets.of (l0 := [_, _, _]) (hs rfl) rfl rfl
  rw [cond_ff (by simp [h6])]
  by_cases h7 : af = 1
  · subst h7
    exact Rets.of (l0 := [_, _, _]) (hs rfl) rfl rfl
  rw [cond_ff (by simp; omega), cond_ff (by simp; omega), wrap_in (n := af - 1) (by omega), if_pos (by omega)] at hs
  rw [cond_ff (by simp [h7])]
  exact Rets.of (l0 := [_, _, _]) (hs rfl) rfl rfl
end Go.Ev
