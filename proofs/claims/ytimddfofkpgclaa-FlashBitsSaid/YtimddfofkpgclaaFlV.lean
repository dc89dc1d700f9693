/- Helpers: what functions compute, proved by the evaluator. No condition. -/
import Derived.Test.YtimddfofkpgclaaFlK
import Derived.Test.YtimddfofkpgclaaFlS
import Derived.Test.YtimddfofkpgclaaFlE
import Derived.Test.YtimddfofkpgclaaFlQ
set_option maxRecDepth 10000
set_option linter.unusedVariables false
set_option linter.unusedSimpArgs false
namespace Go.Ev
open Go Go.Proofs Go.RowKit
theorem s28 : SummOK Try.prog 28 (fS [FT, IT, PT] [FT, PT, IT] (fun _ => true) fun x => ((Sp.eraseF x.1 x.2.1 x.2.2.1.1 x.2.2.1.2.1).1, (Sp.eraseF x.1 x.2.1 x.2.2.1.1 x.2.2.1.2.1).2.1, (Sp.eraseF x.1 x.2.1 x.2.2.1.1 x.2.2.1.2.1).2.2, ())) := summ_fn (call1 6) (by kernel_rfl) fun x _ => val28 FU 0 hFU x.1.1 x.1.2.1 x.1.2.2.1 x.2.1 x.2.2.1.1 x.2.2.1.2.1
theorem s29 : SummOK Try.prog 29 (fS [FT, IT, PT] [FT, PT, IT] (fun _ => true) fun x => ((Sp.eraseF x.1 x.2.1 x.2.2.1.1 x.2.2.1.2.1).1, (Sp.eraseF x.1 x.2.1 x.2.2.1.1 x.2.2.1.2.1).2.1, (Sp.eraseF x.1 x.2.1 x.2.2.1.1 x.2.2.1.2.1).2.2, ())) := summ_fn (call1 5) (by kernel_rfl) fun x _ => val29 FU 0 hFU x.1.1 x.1.2.1 x.1.2.2.1 x.2.1 x.2.2.1.1 x.2.2.1.2.1
theorem fn23 (fu n : Nat) (ws wr : List Int) (life : Int) (ws' wr' : List Int) (life' : Int) : evFn sm1 fns fu (n+1) 23 [.pure FT (ws, wr, life, ()), .pure FT (ws', wr', life', ())] [] (fun v h => some (v, h)) =
  bif (↑(List.length ws) : Int) == (↑(List.length ws') : Int) then bif (↑(List.length wr) : Int) == (↑(List.length wr') : Int) then some (CV.bool (life == life'), []) else some (CV.bool false, []) else some (CV.bool false, []) := by kernel_rfl
theorem val23 (fu n : Nat) (ws wr : List Int) (life : Int) (ws' wr' : List Int) (life' : Int) : Rets [.bool] (evFn sm1 fns fu (n+1) 23 [.pure FT (ws, wr, life, ()), .pure FT (ws', wr', life', ())] [] fun v h => some (v, h)) (Sp.shapedF (ws, wr, life, ()) (ws', wr', life', ()), ()) := by
  refine Rets.of (l0 := [.bool (Sp.shapedF (ws, wr, life, ()) (ws', wr', life', ()))]) (hp2 := []) ((fn23 fu n ws wr life ws' wr' life').trans ?_) rfl rfl
  have e1 : ((ws.length : Int) == (ws'.length : Int)) = decide (ws.length = ws'.length) := by
    rw [Bool.eq_iff_iff]; simp; omega
  have e2 : ((wr.length : Int) == (wr'.length : Int)) = decide (wr.length = wr'.length) := by
    rw [Bool.eq_iff_iff]; simp; omega
  simp only [e1, e2, Sp.shapedF]
  cases decide (ws.length = ws'.length) <;> cases decide (wr.length = wr'.length) <;> cases life == life' <;> rfl
theorem s23 : SummOK Try.prog 23 (fS [FT, FT] [.bool] (fun _ => true) fun x => (Sp.shapedF x.1 x.2.1, ())) := summ_fn (call1 1) (by kernel_rfl) fun x _ => val23 FU 0 x.1.1 x.1.2.1 x.1.2.2.1 x.2.1.1 x.2.1.2.1 x.2.1.2.2.1
theorem sm3_ok : ∀ f s, sm3 f = some s → SummOK Try.prog f s := by
  intro f s h
  unfold sm3 at h
  split at h
  · simp only [Option.some.injEq] at h; subst h; exact s23
  · simp only [Option.some.injEq] at h; subst h; exact s28
  · simp only [Option.some.injEq] at h; subst h; exact s29
  · exact sm2_ok _ _ h
theorem sm3_c : ∀ f s, sm3 f = some s → SummC s := fun f s h => (sm3_ok f s h).2.1
theorem call3 {R : Type} (n base : Nat) : CallOK Try.prog base (evFn (R := R) sm3 fns FU n) := ev_sound hm0 sm3_ok sm3_c fns_ok n
end Go.Ev
