/- Helpers: what functions compute, proved by the evaluator. No condition. -/
import Derived.Test.YtimddfofkpgclaaFlSm
set_option maxRecDepth 10000
set_option linter.unusedVariables false
set_option linter.unusedSimpArgs false
namespace Go.Ev
open Go
/-- And with Erase. -/
def sm3 : Nat → Option Summ
  | 23 => some (fS [FT, FT] [.bool] (fun _ => true) fun x => (Sp.shapedF x.1 x.2.1, ()))
  | 28 => some (fS [FT, IT, PT] [FT, PT, IT] (fun _ => true) fun x => ((Sp.eraseF x.1 x.2.1 x.2.2.1.1 x.2.2.1.2.1).1, (Sp.eraseF x.1 x.2.1 x.2.2.1.1 x.2.2.1.2.1).2.1, (Sp.eraseF x.1 x.2.1 x.2.2.1.1 x.2.2.1.2.1).2.2, ()))
  | 29 => some (fS [FT, IT, PT] [FT, PT, IT] (fun _ => true) fun x => ((Sp.eraseF x.1 x.2.1 x.2.2.1.1 x.2.2.1.2.1).1, (Sp.eraseF x.1 x.2.1 x.2.2.1.1 x.2.2.1.2.1).2.1, (Sp.eraseF x.1 x.2.1 x.2.2.1.1 x.2.2.1.2.1).2.2, ()))
  | f => sm2 f
end Go.Ev
