/- Helpers: what functions compute, proved by the evaluator. No condition. -/
import Derived.Test.YtimddfofkpgclaaFlS
import Derived.Test.YtimddfofkpgclaaFlM
set_option maxRecDepth 10000
set_option linter.unusedVariables false
set_option linter.unusedSimpArgs false
namespace Go.Ev
open Go
theorem law7 (fu n : Nat) (ws wr : List Int) (life s af mix : Int) : evFn sm3 fns fu (n+4) 7 [.pure FT (ws, wr, life, ()), .int .i64 s, .pure PT (af, mix, ())] [] bk =
  bif decide ((↑(List.length wr) : Int) ≤ (70 : Int)) then bif !decide ((↑(List.length ws) : Int) ≤ (4480 : Int)) then some true else gd (true && Sp.fsmall (Prod.fst (Sp.eraseF (ws, wr, life, PUnit.unit) s af mix))) (bif Sp.fsame (Prod.fst (Sp.eraseF (ws, wr, life, PUnit.unit) s af mix)) (Prod.fst (Sp.eraseF (ws, wr, life, PUnit.unit) s af mix)) then bif if false = true then !Ty.beq (Ty.pair (Ty.int IntKind.i64) (Ty.pair (Ty.int IntKind.u32) Ty.unit)) (Prod.fst (Prod.snd (Sp.eraseF (ws, wr, life, PUnit.unit) s af mix))) (Prod.fst (Prod.snd (Sp.eraseF (ws, wr, life, PUnit.unit) s af mix))) else Ty.beq (Ty.pair (Ty.int IntKind.i64) (Ty.pair (Ty.int IntKind.u32) Ty.unit)) (Prod.fst (Prod.snd (Sp.eraseF (ws, wr, life, PUnit.unit) s af mix))) (Prod.fst (Prod.snd (Sp.eraseF (ws, wr, life, PUnit.unit) s af mix))) then some (Prod.snd (Prod.snd (Sp.eraseF (ws, wr, life, PUnit.unit) s af mix)) == Prod.snd (Prod.snd (Sp.eraseF (ws, wr, life, PUnit.unit) s af mix))) else some false else some false) else some true := by kernel_rfl
theorem foldB_len {α : Type} {step : Nat → List α → List α} (h : ∀ j a, (step j a).length = a.length) : ∀ d j a, (foldB step j d a).length = a.length
  | 0, _, _ => rfl
  | d + 1, j, a => by rw [foldB, foldB_len h d, h]
theorem orN_len (ws : List Int) (o : Nat) (bits : Int) (n : Nat) : (Sp.orN ws o bits n).length = ws.length := foldB_len (fun j a => by simp) n 0 ws
theorem erase_small (ws wr : List Int) (life s af mix : Int) (h1 : ws.length ≤ 4480) (h2 : wr.length ≤ 70) : Sp.fsmall (Sp.eraseF (ws, wr, life, ()) s af mix).1 = true := by
  unfold Sp.eraseF
  cases Sp.badP (ws, wr, life, ()) af
  · rw [cond_ff (by rfl)]
    cases decide (s < 0) || decide (s ≥ wr.length)
    · rw [cond_ff (by rfl)]
      cases wr.getD s.toNat 0 == life
      · rw [cond_ff (by rfl)]
        cases af == 0
        · rw [cond_ff (by rfl)]
          cases af == 1 <;> (simp [Sp.eraseTo, Sp.fsmall, Sp.small, orN_len]; omega)
        · simp [Sp.fsmall, Sp.small]; omega
      · rfl
    · rfl
  · rfl
theorem plain7 (fu n : Nat) (ws wr : List Int) (life s af mix : Int) : evFn sm3 fns fu (n+4) 7 [.pure FT (ws, wr, life, ()), .int .i64 s, .pure PT (af, mix, ())] [] bk = some true := by
  rw [law7, fsame_self, beq_self _ _ rfl, beq_self_eq_true]
  by_cases h1 : (wr.length : Int) ≤ 70
  · by_cases h2 : (ws.length : Int) ≤ 4480
    · rw [erase_small ws wr life s af mix (by omega) (by omega), cond_tt (by simp [h1]), cond_ff (by simp [h2])]
      rfl
    · rw [cond_tt (by simp [h1]), cond_tt (by simp [h2])]
  · rw [cond_ff (by simp [h1])]
end Go.Ev
