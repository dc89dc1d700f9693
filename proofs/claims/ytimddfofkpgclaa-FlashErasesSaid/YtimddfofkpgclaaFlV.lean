/- Helpers: what functions compute, proved by the evaluator. No condition. -/
import Derived.Test.YtimddfofkpgclaaFlK
import Derived.Test.YtimddfofkpgclaaFlS
import Derived.Test.YtimddfofkpgclaaFlE
import Derived.Test.YtimddfofkpgclaaFlQ
set_option maxRecDepth 10000
set_option linter.unusedVariables false
set_option linter.unusedSimpArgs false
namespace Go.Ev
open Go Go.Proofs Go.RowKit
theorem s28 : SummOK Try.prog 28 (fS [FT, IT, PT] [FT, PT, IT] (fun _ => true) fun x => ((Sp.eraseF x.1 x.2.1 x.2.2.1.1 x.2.2.1.2.1).1, (Sp.eraseF x.1 x.2.1 x.2.2.1.1 x.2.2.1.2.1).2.1, (Sp.eraseF x.1 x.2.1 x.2.2.1.1 x.2.2.1.2.1).2.2, ())) := summ_fn (call1 6) (by kernel_rfl) fun x _ => val28 FU 0 hFU x.1.1 x.1.2.1 x.1.2.2.1 x.2.1 x.2.2.1.1 x.2.2.1.2.1
theorem s29 : SummOK Try.prog 29 (fS [FT, IT, PT] [FT, PT, IT] (fun _ => true) fun x => ((Sp.eraseF x.1 x.2.1 x.2.2.1.1 x.2.2.1.2.1).1, (Sp.eraseF x.1 x.2.1 x.2.2.1.1 x.2.2.1.2.1).2.1, (Sp.eraseF x.1 x.2.1 x.2.2.1.1 x.2.2.1.2.1).2.2, ())) := summ_fn (call1 5) (by kernel_rfl) fun x _ => val29 FU 0 hFU x.1.1 x.1.2.1 x.1.2.2.1 x.2.1 x.2.2.1.1 x.2.2.1.2.1
theorem sm3_ok : ∀ f s, sm3 f = some s → SummOK Try.prog f s := by
  intro f s h
  unfold sm3 at h
  split at h
  · simp only [Option.some.injEq] at h; subst h; exact s28
  · simp only [Option.some.injEq] at h; subst h; exact s29
  · exact sm2_ok _ _ h
theorem sm3_c : ∀ f s, sm3 f = some s → SummC s := fun f s h => (sm3_ok f s h).2.1
theorem call3 {R : Type} (n base : Nat) : CallOK Try.prog base (evFn (R := R) sm3 fns FU n) := ev_sound hm0 sm3_ok sm3_c fns_ok n
end Go.Ev
