/- Helpers: what functions compute, proved by the evaluator. No condition. -/
import Derived.Test.YtimddfofkpgclaaFlSp
set_option maxRecDepth 10000
set_option linter.unusedVariables false
set_option linter.unusedSimpArgs false
namespace Go.Ev
open Go
/-- The summaries of the functions that call no others. -/
def sm1 : Nat → Option Summ
  | 14 => some (fS [IT, IT] [FT, IT] (fun _ => true) fun x => ((Sp.newF x.1 x.2.1).1, (Sp.newF x.1 x.2.1).2, ()))
  | 15 => some (fS [FT, FT] [.bool] (fun x => Sp.fsmall x.1) fun x => (Sp.fsame x.1 x.2.1, ()))
  | 16 => some (fS [FT] [.bool] (fun _ => true) fun x => (Sp.fvalid x.1, ()))
  | 17 => some (fS [FT] [.bool] (fun _ => true) fun x => (Sp.fvalid x.1, ()))
  | 18 => some (fS [] [PT] (fun _ => true) fun _ => ((1099511627776, 0, ()), ()))
  | 21 => some (vecS (.int .u32) 34 4)
  | 22 => some (fS [WT, WT] [.bool] (fun x => Sp.small (show List Int from x.1).length) fun x => (Sp.eqI x.1 x.2.1, ()))
  | 24 => some (fS [NT, NT] [.bool] (fun x => Sp.small (show List Int from x.1).length) fun x => (Sp.eqI x.1 x.2.1, ()))
  | 27 => some (fS [FT, IT] [.bool] (fun x => Sp.blankOK x.1.1.length x.2.1) fun x => (Sp.secBlank x.1.1 x.2.1, ()))
  | 32 => some (fS [WT, IT] [WT] (fun x => Sp.repOK x.1 x.2.1) fun x => (Sp.rep x.1 x.2.1, ()))
  | 48 => some (vecS (.int .i64) 3 8)
  | _ => none
abbrev UT : Ty := .int .u32
/-- And of those that call them. -/
def sm2 : Nat → Option Summ
  | 13 => some (fS [IT, IT] [FT, IT] (fun _ => true) fun x => ((Sp.newF x.1 x.2.1).1, (Sp.newF x.1 x.2.1).2, ()))
  | 19 => some (fS [FT, IT, UT, PT] [FT, PT, IT] (fun _ => true) fun x => ((Sp.progI x.1 x.2.1 x.2.2.1 x.2.2.2.1.1 x.2.2.2.1.2.1).1, (Sp.progI x.1 x.2.1 x.2.2.1 x.2.2.2.1.1 x.2.2.2.1.2.1).2.1, (Sp.progI x.1 x.2.1 x.2.2.1 x.2.2.2.1.1 x.2.2.2.1.2.1).2.2, ()))
  | 20 => some (fS [FT, IT, UT, PT] [FT, PT, IT] (fun _ => true) fun x => ((Sp.progR x.1 x.2.1 x.2.2.1 x.2.2.2.1.1 x.2.2.2.1.2.1).1, (Sp.progR x.1 x.2.1 x.2.2.1 x.2.2.2.1.1 x.2.2.2.1.2.1).2.1, (Sp.progR x.1 x.2.1 x.2.2.1 x.2.2.2.1.1 x.2.2.2.1.2.1).2.2, ()))
  | 25 => some (fS [FT, IT] [UT, IT] (fun _ => true) fun x => ((Sp.readF x.1 x.2.1).1, (Sp.readF x.1 x.2.1).2, ()))
  | 26 => some (fS [FT, IT] [.bool, IT] (fun _ => true) fun x => ((Sp.blankF x.1 x.2.1).1, (Sp.blankF x.1 x.2.1).2, ()))
  | f => sm1 f
end Go.Ev
