/- Helpers: what functions compute, proved by the evaluator. No condition. -/
import Derived.Test.YtimddfofkpgclaaFlM
import Derived.Test.YtimddfofkpgclaaFlG
set_option maxRecDepth 10000
set_option linter.unusedVariables false
set_option linter.unusedSimpArgs false
namespace Go.Ev
open Go
theorem fndB_congr {p q : Nat → Bool} {d : Nat} (h : ∀ i, i < d → p i = q i) : fndB p 0 d = fndB q 0 d := by
  rw [Bool.eq_iff_iff, fndB_iff, fndB_iff]
  constructor <;> rintro ⟨i, h1, h2, h3⟩
  · exact ⟨i, h1, h2, by rw [← h i (by omega)]; exact h3⟩
  · exact ⟨i, h1, h2, by rw [h i (by omega)]; exact h3⟩
theorem sec_len {ws : List Int} {s : Int} (h0 : 0 ≤ s) (h1 : (s + 1) * 64 ≤ ws.length) : (Sp.sector ws s).length = 64 := by
  simp only [Sp.sector, List.length_take, List.length_drop]; omega
theorem sec_get {ws : List Int} {s : Int} (h0 : 0 ≤ s) (j : Nat) (hj : j < 64) : (Sp.sector ws s).getD j 0 = ws.getD (s * 64 + (j : Int)).toNat 0 := by
  have e : (s * 64 + (j : Int)).toNat = (s * 64).toNat + j := by omega
  simp only [Sp.sector, List.getD, e]
  rw [List.getElem?_take_of_lt hj, List.getElem?_drop]
theorem sec_blank {ws : List Int} {s : Int} (h0 : 0 ≤ s) (h1 : (s + 1) * 64 ≤ ws.length) : (!(Sp.sector ws s).any (fun w => w != 4294967295)) = Sp.secBlank ws s := by
  have := fndB_list (Sp.sector ws s) 0 (fun w => w != 4294967295)
  rw [sec_len h0 h1] at this
  rw [← this]
  unfold Sp.secBlank
  congr 1
  exact fndB_congr fun i hi => by rw [sec_get h0 i hi]
theorem plain6 (fu n : Nat) (ws wr : List Int) (life i s : Int) : evFn sm2 fns fu (n+4) 6 [.pure FT (ws, wr, life, ()), .int .i64 i, .int .i64 s] [] bk = some true := by
  rw [law6]
  by_cases h1 : (wr.length : Int) ≤ 70
  · by_cases h2 : (ws.length : Int) ≤ 4480
    · rw [cond_tt (by simp [h1]), cond_ff (by simp [h2])]
      cases hv : Sp.fvalid (ws, wr, life, ())
      · have e1 : Sp.readF (ws, wr, life, ()) i = (0, 1) := by simp [Sp.readF, hv]
        have e2 : Sp.blankF (ws, wr, life, ()) s = (false, 1) := by simp [Sp.blankF, hv]
        rw [e1, e2]; rfl
      · have hl := fvalid_len hv
        rw [cond_ff (by rfl)]
        have hB : ∀ (b : Bool) (c : Int), Sp.blankF (ws, wr, life, ()) s = (b, c) → (bif decide (s < (0 : Int)) then bif !b then some (c == (2 : Int)) else some false else bif decide (s ≥ (wr.length : Int)) then bif !b then some (c == (2 : Int)) else some false else bif c == (0 : Int) then gd (true && Sp.blankOK (List.length ws) s) (some (if false = true then !Ty.beq Ty.bool b (Sp.secBlank ws s) else Ty.beq Ty.bool b (Sp.secBlank ws s))) else some false) = some true := by
          intro b c e
          unfold Sp.blankF at e
          rw [hv, cond_ff (by rfl)] at e
          by_cases h3 : s < 0
          · rw [cond_tt (by simp [h3])] at e
            cases e
            rw [cond_tt (by simp [h3])]; rfl
          · by_cases h4 : s ≥ wr.length
            · rw [cond_tt (by simp [h4])] at e
              cases e
              rw [cond_ff (by simp [h3]), cond_tt (by simp [h4])]; rfl
            · have q0 : 0 ≤ s := by omega
              have q1 : (s + 1) * 64 ≤ (ws.length : Int) := by omega
              rw [cond_ff (by simp [h3, h4])] at e
              cases e
              rw [cond_ff (by simp [h3]), cond_ff (by simp [h4]), gd_true (by simp [Sp.blankOK]; omega), if_neg (by simp), show (!(Sp.sector (ws, wr, life, ()).1 s).any (fun w => w != 4294967295)) = Sp.secBlank ws s from sec_blank q0 q1, beq_self .bool _ rfl]
              rfl
        have hB := hB _ _ (Prod.eta _).symm
        by_cases h5 : i < 0
        · have e1 : Sp.readF (ws, wr, life, ()) i = (0, 2) := by simp [Sp.readF, hv, h5]
          rw [e1, cond_tt (by simp [h5])]
          exact hB
        · by_cases h6 : i ≥ ws.length
          · have e1 : Sp.readF (ws, wr, life, ()) i = (0, 2) := by simp [Sp.readF, hv, h6]
            rw [e1, cond_ff (by simp [h5]), cond_tt (by simp [h6])]
            exact hB
          · have e1 : Sp.readF (ws, wr, life, ()) i = (ws.getD i.toNat 0, 0) := by
              simp only [Sp.readF, hv]; rw [cond_ff (by rfl), cond_ff (by simp [h5, h6])]
            rw [e1, cond_ff (by simp [h5]), cond_ff (by simp [h6]), gd_true (by simp [inB]; omega), cond_ff (by simp)]
            exact hB
    · rw [cond_tt (by simp [h1]), cond_tt (by simp [h2])]
  · rw [cond_ff (by simp [h1])]
end Go.Ev
