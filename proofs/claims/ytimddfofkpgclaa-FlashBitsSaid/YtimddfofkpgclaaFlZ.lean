/- Helpers: what functions compute, proved by the evaluator. No condition. -/
import Derived.Test.YtimddfofkpgclaaFlY
import Derived.Test.YtimddfofkpgclaaFlM
set_option maxRecDepth 10000
set_option linter.unusedVariables false
set_option linter.unusedSimpArgs false
namespace Go.Ev
open Go
theorem fvl {ws wr : List Int} {life : Int} (h : Sp.fvalid (ws, wr, life, ()) = true) : (ws.length : Int) = wr.length * 64 ∧ 1 ≤ (wr.length : Int) ∧ (wr.length : Int) ≤ 64 := by
  simp only [Sp.fvalid, Bool.not_eq_true', Bool.or_eq_false_iff, decide_eq_false_iff_not, bne_eq_false_iff_eq] at h
  obtain ⟨h1, h2, h3, h4, h5, _⟩ := h
  omega
theorem prog_full {ws wr : List Int} {life : Int} (hv : Sp.fvalid (ws, wr, life, ()) = true) {k w : Int} (h0 : 0 ≤ k) (h1 : k < ws.length) : Sp.progI (ws, wr, life, ()) k w 1099511627776 0 = ((ws.set k.toNat (Sp.wordI (ws.getD k.toNat 0) 4294967295 w), wr, life, ()), (1099511627775, 0, ()), 0) := by
  unfold Sp.progI Sp.badP
  rw [hv, cond_ff (by decide), cond_ff (by simp; omega), cond_ff (by decide), cond_ff (by decide)]
  rfl
theorem fvalid_set (ws wr : List Int) (life : Int) (i : Nat) (v : Int) : Sp.fvalid (ws.set i v, wr, life, ()) = Sp.fvalid (ws, wr, life, ()) := by simp [Sp.fvalid]
theorem bw1 {n : Nat} (o m w : BitVec n) : ((o &&& ~~~(m &&& ~~~w)) &&& ~~~o) = 0#n := by
  apply BitVec.eq_of_getLsbD_eq; intro i hi
  simp only [BitVec.getLsbD_not, BitVec.getLsbD_and, BitVec.getLsbD_zero, hi, decide_true, Bool.true_and]
  cases o.getLsbD i <;> cases m.getLsbD i <;> cases w.getLsbD i <;> rfl
theorem bw2 {n : Nat} (o w : BitVec n) : ((o &&& ~~~(BitVec.allOnes n &&& ~~~w)) &&& ~~~w) = 0#n := by
  apply BitVec.eq_of_getLsbD_eq; intro i hi
  simp only [BitVec.getLsbD_not, BitVec.getLsbD_and, BitVec.getLsbD_zero, BitVec.getLsbD_allOnes, hi, decide_true, Bool.true_and]
  cases o.getLsbD i <;> cases w.getLsbD i <;> rfl
theorem bw3 {n : Nat} (o m w a : BitVec n) (ha : a = BitVec.allOnes n) : ((o &&& ~~~(m &&& ~~~w)) &&& ~~~(a &&& ~~~w)) = (o &&& ~~~(a &&& ~~~w)) := by
  subst ha
  apply BitVec.eq_of_getLsbD_eq; intro i hi
  simp only [BitVec.getLsbD_not, BitVec.getLsbD_and, BitVec.getLsbD_allOnes, hi, decide_true, Bool.true_and]
  cases o.getLsbD i <;> cases m.getLsbD i <;> cases w.getLsbD i <;> rfl
def andn (a b : Int) : Int := IntKind.wrap .u32 (((BitVec.ofInt 32 a &&& ~~~BitVec.ofInt 32 b).toNat : Nat) : Int)
theorem wordI_bv (o m w : Int) : BitVec.ofInt 32 (Sp.wordI o m w) = (BitVec.ofInt 32 o &&& ~~~(BitVec.ofInt 32 m &&& ~~~BitVec.ofInt 32 w)) := by
  unfold Sp.wordI; rw [wu32, wu32]
theorem andn1 (o m w : Int) : andn (Sp.wordI o m w) o = 0 := by unfold andn; rw [wordI_bv, bw1]; rfl
theorem andn0 (o : Int) : andn o o = 0 := by
  unfold andn
  rw [show (BitVec.ofInt 32 o &&& ~~~BitVec.ofInt 32 o) = 0#32 by
    apply BitVec.eq_of_getLsbD_eq; intro i hi
    simp only [BitVec.getLsbD_not, BitVec.getLsbD_and, BitVec.getLsbD_zero, hi, decide_true, Bool.true_and]
    cases (BitVec.ofInt 32 o).getLsbD i <;> rfl]
  rfl
theorem andn2 (o w : Int) : andn (Sp.wordI o 4294967295 w) w = 0 := by unfold andn; rw [wordI_bv, ones32, bw2]; rfl
theorem word_again (o m w : Int) : Sp.wordI (Sp.wordI o m w) 4294967295 w = Sp.wordI o 4294967295 w := by
  unfold Sp.wordI
  rw [wu32, wu32, wu32, bw3 _ _ _ _ ones32]
theorem fnd_set (ws : List Int) (k : Int) (h0 : 0 ≤ k) (v : Int) : fndB (fun j => (j : Int) != k && (ws.set k.toNat v).getD j 0 != ws.getD j 0) 0 ws.length = false := by
  rw [← Bool.not_eq_true, fndB_iff]
  rintro ⟨i, _, h2, h3⟩
  simp only [Bool.and_eq_true, bne_iff_ne, ne_eq] at h3
  obtain ⟨h4, h5⟩ := h3
  apply h5
  have : k.toNat ≠ i := by omega
  simp [List.getD, List.getElem?_set_ne this]
/-- What the law asks of a state that programming has left. -/
theorem bits_core (fu n : Nat) (ws wr : List Int) (life a w af mix v q0 q1 e : Int) (h1 : (wr.length : Int) ≤ 70) (h2 : (ws.length : Int) ≤ 4480) (hv : Sp.fvalid (ws, wr, life, ()) = true) (k : Int) (hk : k = Int.tmod (IntKind.wrap .i64 a) (ws.length : Int)) (hk0 : 0 ≤ k) (hk1 : k < ws.length)
    (hP : Sp.progI (ws, wr, life, ()) k w af mix = ((ws.set k.toNat v, wr, life, ()), (q0, q1, ()), e)) (he : e = 0 ∨ e = 18) (c1 : andn v (ws.getD k.toNat 0) = 0) (c2 : e = 0 → andn v w = 0) (c3 : Sp.wordI v 4294967295 w = Sp.wordI (ws.getD k.toNat 0) 4294967295 w) :
    evFnL sm3 fu (ovr noO (evFn sm3 fns fu (n+5))) (ir5_t (o_5_0 G_5_0)) ir5 [.pure FT (ws, wr, life, ()), .int .u16 a, .int .u32 w, .pure PT (af, mix, ())] [] bk = some true := by
  have hl := fvl hv
  rw [law5, ← hk, hP]
  have hv' : Sp.fvalid (ws.set k.toNat v, wr, life, ()) = true := by rw [fvalid_set]; exact hv
  have hkn : k.toNat < ws.length := by omega
  have hg : (ws.set k.toNat v).getD k.toNat 0 = v := by simp [List.getD, hkn]
  have hset : (ws.set k.toNat v).set k.toNat (Sp.wordI (ws.getD k.toNat 0) 4294967295 w) = ws.set k.toNat (Sp.wordI (ws.getD k.toNat 0) 4294967295 w) := by simp
  simp only [prog_full hv' hk0 (by simpa using hk1), prog_full hv hk0 hk1, hg, c3, hset, fsame_self, fnd_set ws k hk0 v, List.length_set]
  have e1 : Sp.eqI ws ws = true := by simp [Sp.eqI]
  have e2 : Sp.eqI wr wr = true := by simp [Sp.eqI]
  have e3 : Sp.shapedF (ws, wr, life, ()) (ws.set k.toNat v, wr, life, ()) = true := by simp [Sp.shapedF]
  have e4 : inB k ws.length = true := by simp [inB]; omega
  have e5 : Sp.small ws.length = true := by simp [Sp.small]; omega
  have e6 : Sp.small wr.length = true := by simp [Sp.small]; omega
  have e7 : room ws.length 4 = true := by simp [room]; omega
  have e8 : Sp.fsmall (ws.set k.toNat (Sp.wordI (ws.getD k.toNat 0) 4294967295 w), wr, life, ()) = true := by simp [Sp.fsmall, e5, e6]
  have e9 : ((ws.length : Int) == 0) = false := by rw [beq_eq_false_iff_ne]; omega
  have c1' : IntKind.wrap .u32 (((BitVec.ofInt 32 v &&& ~~~BitVec.ofInt 32 (ws.getD k.toNat 0)).toNat : Nat) : Int) = 0 := c1
  simp only [e1, e2, e3, e4, e5, e6, e7, e8, e9, hv, c1', decide_eq_true h1, decide_eq_true h2, decide_true, Bool.not_true, Bool.not_false, cond_true, cond_false, Bool.and_true, Bool.true_and, gd_true, beq_self_eq_true, bne_self_eq_false]
  rcases he with rfl | rfl
  · have c2' : IntKind.wrap .u32 (((BitVec.ofInt 32 v &&& ~~~BitVec.ofInt 32 w).toNat : Nat) : Int) = 0 := c2 rfl
    rw [c2']
    rfl
  · rfl
theorem plain5 (fu n : Nat) (ws wr : List Int) (life a w af mix : Int) (ha : 0 ≤ a ∧ a ≤ 65535) : evFnL sm3 fu (ovr noO (evFn sm3 fns fu (n+5))) (ir5_t (o_5_0 G_5_0)) ir5 [.pure FT (ws, wr, life, ()), .int .u16 a, .int .u32 w, .pure PT (af, mix, ())] [] bk = some true := by
  by_cases h1 : (wr.length : Int) ≤ 70
  · by_cases h2 : (ws.length : Int) ≤ 4480
    · cases hv : Sp.fvalid (ws, wr, life, ())
      · rw [law5, hv, cond_tt (by simp [h1]), cond_ff (by simp [h2])]; rfl
      · have hl := fvl hv
        have hw : IntKind.wrap .i64 a = a := wrap_in (by omega)
        have hk0 : 0 ≤ Int.tmod a (ws.length : Int) := Int.tmod_nonneg _ ha.1
        have hk1 : Int.tmod a (ws.length : Int) < ws.length := Int.tmod_lt_of_pos _ (by omega)
        have hkn : (Int.tmod a (ws.length : Int)).toNat < ws.length := by omega
        have hset : ws.set (Int.tmod a (ws.length : Int)).toNat (ws.getD (Int.tmod a (ws.length : Int)).toNat 0) = ws := by
          have : ws.getD (Int.tmod a (ws.length : Int)).toNat 0 = ws[(Int.tmod a (ws.length : Int)).toNat] := by simp [List.getD, hkn]
          rw [this, List.set_getElem_self]
        have hin : (decide (Int.tmod a (ws.length : Int) < 0) || decide (Int.tmod a (ws.length : Int) ≥ ws.length)) = false := by simp; omega
        by_cases h3 : af < 0 ∨ af > 1099511627776
        · have hP : Sp.progI (ws, wr, life, ()) (Int.tmod a (ws.length : Int)) w af mix = Sp.nilR 1 := by
            unfold Sp.progI Sp.badP
            rw [hv, cond_tt (by simpa using h3)]
          rw [law5, hw, hP, hv]
          have e1 : Sp.eqI ws ws = true := by simp [Sp.eqI]
          have e5 : Sp.small ws.length = true := by simp [Sp.small]; omega
          have e7 : room ws.length 4 = true := by simp [room]; omega
          have e9 : ((ws.length : Int) == 0) = false := by rw [beq_eq_false_iff_ne]; omega
          simp only [e1, e5, e7, e9, decide_eq_true h1, decide_eq_true h2, Bool.not_true, Bool.not_false, cond_true, cond_false, Bool.and_true, gd_true, Sp.nilR]
          by_cases h4 : af < 0
          · rw [cond_tt (by decide), cond_tt (by decide), cond_tt (by decide), cond_tt (by simp [h4])]
          · rw [cond_tt (by decide), cond_tt (by decide), cond_tt (by decide), cond_ff (by simp [h4])]
            simp; omega
        · have hb : Sp.badP (ws, wr, life, ()) af = false := by simp [Sp.badP, hv]; omega
          by_cases h6 : af = 0
          · subst h6
            refine bits_core fu n ws wr life a w 0 mix (ws.getD (Int.tmod a (ws.length : Int)).toNat 0) 0 mix 18 h1 h2 hv _ (by rw [hw]) hk0 hk1 ?_ (.inr rfl) (andn0 _) (by intro h; cases h) rfl
            unfold Sp.progI
            rw [hb, cond_ff (by rfl), cond_ff hin, hset]
            rfl
          · by_cases h7 : af = 1
            · subst h7
              refine bits_core fu n ws wr life a w 1 mix _ 0 mix 18 h1 h2 hv _ (by rw [hw]) hk0 hk1 ?_ (.inr rfl) (andn1 _ mix w) (by intro h; cases h) (word_again _ mix w)
              unfold Sp.progI
              rw [hb, cond_ff (by rfl), cond_ff hin]
              rfl
            · refine bits_core fu n ws wr life a w af mix _ (af - 1) mix 0 h1 h2 hv _ (by rw [hw]) hk0 hk1 ?_ (.inl rfl) (andn1 _ 4294967295 w) (fun _ => andn2 _ w) (word_again _ 4294967295 w)
              unfold Sp.progI
              rw [hb, cond_ff (by rfl), cond_ff hin, cond_ff (by simpa using h6), cond_ff (by simpa using h7)]
    · rw [law5, cond_tt (by simp [h1]), cond_tt (by simp [h2])]
  · rw [law5, cond_ff (by simp [h1])]
end Go.Ev
