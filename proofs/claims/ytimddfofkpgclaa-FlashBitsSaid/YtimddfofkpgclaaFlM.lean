/- Helpers: what functions compute, proved by the evaluator. No condition. -/
import Derived.Test.YtimddfofkpgclaaFlL
import Derived.Test.YtimddfofkpgclaaEvPart2
set_option maxRecDepth 10000
set_option linter.unusedVariables false
set_option linter.unusedSimpArgs false
namespace Go.Ev
open Go
theorem wu32 (b : BitVec 32) : BitVec.ofInt 32 (IntKind.wrap .u32 (b.toNat : Int)) = b := by
  have : IntKind.wrap .u32 (b.toNat : Int) = (b.toNat : Int) := IntWalk.u32_in _ (by have := b.isLt; omega)
  rw [this, BitVec.ofInt_natCast, BitVec.ofNat_toNat]
  simp
theorem ones32 : BitVec.ofInt 32 4294967295 = BitVec.allOnes 32 := by decide
theorem zero32 : BitVec.ofInt 32 0 = 0#32 := by decide
theorem bv1 {n : Nat} (m w : BitVec n) : ~~~(m &&& ~~~w) = (w ||| (BitVec.allOnes n ^^^ m)) := by
  apply BitVec.eq_of_getLsbD_eq; intro i hi
  simp only [BitVec.getLsbD_not, BitVec.getLsbD_and, BitVec.getLsbD_or, BitVec.getLsbD_xor, BitVec.getLsbD_allOnes, hi, decide_true, Bool.true_and]
  cases m.getLsbD i <;> cases w.getLsbD i <;> rfl
theorem bv2 {n : Nat} (w : BitVec n) : ~~~(BitVec.allOnes n &&& ~~~w) = (w ||| 0#n) := by
  apply BitVec.eq_of_getLsbD_eq; intro i hi
  simp only [BitVec.getLsbD_not, BitVec.getLsbD_and, BitVec.getLsbD_or, BitVec.getLsbD_zero, BitVec.getLsbD_allOnes, hi, decide_true, Bool.true_and]
  cases w.getLsbD i <;> rfl
theorem bv3 {n : Nat} (o w : BitVec n) : (o &&& (w ||| BitVec.allOnes n)) = o := by
  apply BitVec.eq_of_getLsbD_eq; intro i hi
  simp only [BitVec.getLsbD_and, BitVec.getLsbD_or, BitVec.getLsbD_allOnes, hi, decide_true]
  cases o.getLsbD i <;> cases w.getLsbD i <;> rfl
theorem word_mix (old mix w : Int) : Sp.wordI old mix w = Sp.wordR old (Sp.invR mix) w := by
  unfold Sp.wordI Sp.wordR Sp.invR
  rw [wu32, wu32, wu32, bv1, ones32]
theorem word_all (old w : Int) : Sp.wordI old 4294967295 w = Sp.wordR old 0 w := by
  unfold Sp.wordI Sp.wordR
  rw [wu32, wu32, ones32, zero32, bv2]
theorem word_none (old w : Int) (h : 0 ≤ old ∧ old ≤ 4294967295) : Sp.wordR old 4294967295 w = old := by
  unfold Sp.wordR
  rw [wu32, ones32, bv3]
  have e : ((BitVec.ofInt 32 old).toNat : Int) = old := by rw [BitVec.toNat_ofInt]; omega
  rw [e]
  exact IntWalk.u32_in _ (by omega)
theorem prog_eq (ws wr : List Int) (life i w af mix : Int) (hw : ∀ y ∈ ws, 0 ≤ y ∧ y ≤ 4294967295) : Sp.progR (ws, wr, life, ()) i w af mix = Sp.progI (ws, wr, life, ()) i w af mix := by
  unfold Sp.progI Sp.progR
  cases Sp.badP (ws, wr, life, ()) af
  · by_cases h : i < 0 ∨ i ≥ ws.length
    · rw [cond_ff rfl, cond_ff rfl, cond_tt (by simpa using h), cond_tt (by simpa using h)]
    · have hc : (decide (i < 0) || decide (i ≥ ws.length)) = false := by simp; omega
      have hi : i.toNat < ws.length := by omega
      rw [cond_ff rfl, cond_ff rfl, cond_ff hc, cond_ff hc]
      simp only []
      rw [← word_mix, ← word_all, word_none _ w (by
        have : ws.getD i.toNat 0 = ws[i.toNat] := by simp [List.getD, hi]
        rw [this]; exact hw _ (List.getElem_mem hi))]
      have : ws.set i.toNat (ws.getD i.toNat 0) = ws := by
        have : ws.getD i.toNat 0 = ws[i.toNat] := by simp [List.getD, hi]
        rw [this, List.set_getElem_self]
      rw [this]
  · rfl
theorem fsame_self (x : List Int × List Int × Int × Unit) : Sp.fsame x x = true := by simp [Sp.fsame]
theorem beq_self : ∀ (t : Ty) (x : t.den), t.comparable = true → t.beq x x = true
  | .int _, x, _ => by simp [Ty.beq]
  | .bool, x, _ => by simp [Ty.beq]
  | .unit, _, _ => rfl
  | .pair a b, x, h => by
    simp only [Ty.comparable, Bool.and_eq_true] at h
    simp [Ty.beq, beq_self a x.1 h.1, beq_self b x.2 h.2]
  | .slice _, _, h => by simp [Ty.comparable] at h
  | .arr _ e, x, h => by
    have key : ∀ l : List e.den, @BEq.beq (List e.den) (@List.instBEq _ ⟨e.beq⟩) l l = true := by
      intro l
      induction l with
      | nil => rfl
      | cons y l ih =>
        show (e.beq y y && _) = true
        rw [beq_self e y h]
        exact ih
    exact key x
theorem newF_small (s l : Int) : Sp.fsmall (Sp.newF s l).1 = true := by
  unfold Sp.newF
  by_cases h : s < 1 ∨ s > 64 ∨ l < 1 ∨ l > 1000000
  · rw [cond_tt (by simpa using h)]; rfl
  · rw [cond_ff (by simp; omega)]
    simp [Sp.fsmall, Sp.small]; omega
theorem plain3 (fu n : Nat) (s l : Int) (ws wr : List Int) (life : Int) : evFn sm2 fns fu (n+4) 3 [.int .i64 s, .int .i64 l, .pure FT (ws, wr, life, ())] [] bk = some true := by
  rw [law3, newF_small, fsame_self, beq_self_eq_true, beq_self .bool _ rfl]
  cases decide ((wr.length : Int) ≤ 70) <;> cases decide ((ws.length : Int) ≤ 4480) <;> rfl
theorem plain4 (fu n : Nat) (ws wr : List Int) (life i w af mix : Int) (hw : ∀ y ∈ ws, 0 ≤ y ∧ y ≤ 4294967295) : evFn sm2 fns fu (n+4) 4 [.pure FT (ws, wr, life, ()), .int .i64 i, .int .u32 w, .pure PT (af, mix, ())] [] bk = some true := by
  rw [law4, prog_eq ws wr life i w af mix hw, fsame_self, beq_self _ _ rfl, beq_self_eq_true]
  by_cases h1 : (wr.length : Int) ≤ 70
  · by_cases h2 : (ws.length : Int) ≤ 4480
    · have hsm : Sp.fsmall (Sp.progI (ws, wr, life, ()) i w af mix).1 = true := by
        unfold Sp.progI
        cases Sp.badP (ws, wr, life, ()) af
        · rw [cond_ff rfl]
          cases decide (i < 0) || decide (i ≥ ws.length)
          · rw [cond_ff rfl]
            cases af == 0
            · rw [cond_ff rfl]
              cases af == 1 <;> (simp [Sp.fsmall, Sp.small]; omega)
            · simp [Sp.fsmall, Sp.small]; omega
          · rfl
        · rfl
      rw [hsm, cond_tt (by simp [h1]), cond_ff (by simp [h2])]
      rfl
    · rw [cond_tt (by simp [h1]), cond_tt (by simp [h2])]
  · rw [cond_ff (by simp [h1])]
end Go.Ev
