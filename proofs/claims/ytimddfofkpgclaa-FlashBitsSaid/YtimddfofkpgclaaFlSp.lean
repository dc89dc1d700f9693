/- Helpers: what functions compute, proved by the evaluator. No condition. -/
import Derived.Test.YtimddfofkpgclaaIrFs
import Derived.Test.YtimddfofkpgclaaEvPart1
set_option maxRecDepth 10000
set_option linter.unusedVariables false
set_option linter.unusedSimpArgs false
namespace Go.Ev
open Go
abbrev FT : Ty := .pair (.slice (.int .u32)) (.pair (.slice (.int .i64)) (.pair (.int .i64) .unit))
abbrev PT : Ty := .pair (.int .i64) (.pair (.int .u32) .unit)
abbrev WT : Ty := .slice (.int .u32)
abbrev NT : Ty := .slice (.int .i64)
abbrev IT : Ty := .int .i64
namespace Sp
def wearBad (life x : Int) : Bool := decide (x < 0) || decide (x > life)
def fvalid (x : FT.den) : Bool := !(decide ((x.2.1.length : Int) < 1) || (decide ((x.2.1.length : Int) > 64) || ((x.1.length : Int) != (x.2.1.length : Int) * 64 || (decide (x.2.2.1 < 1) || (decide (x.2.2.1 > 1000000) || x.2.1.any (wearBad x.2.2.1))))))
def small (n : Nat) : Bool := decide (n ≤ 1099511627776)
def fsmall (x : FT.den) : Bool := small x.1.length && small x.2.1.length
def fsame (x y : FT.den) : Bool := x.2.2.1 == y.2.2.1 && ((show List Int from x.1) == y.1 && (show List Int from x.2.1) == y.2.1)
def eqI (x y : List Int) : Bool := x == y
def secBlank (ws : List Int) (s : Int) : Bool := !fndB (fun j => ws.getD (s * 64 + j).toNat 0 != 4294967295) 0 64
def blankOK (n : Nat) (s : Int) : Bool := decide (0 ≤ s) && (decide (s < 1073741824) && decide ((s + 1) * 64 ≤ (n : Int)))
def repOK (xs : List Int) (c : Int) : Bool := decide (xs.length = 1) && (decide (1 ≤ c) && decide (c < 1073741824))
def rep (xs : List Int) (c : Int) : List Int := List.replicate c.toNat (xs.getD 0 0)
def newF (s l : Int) : (List Int × List Int × Int × Unit) × Int := bif decide (s < 1) || (decide (s > 64) || (decide (l < 1) || decide (l > 1000000))) then (([], [], 0, ()), 2) else ((List.replicate (64 * s.toNat) 4294967295, List.replicate s.toNat 0, l, ()), 0)
def wordI (old bits w : Int) : Int := IntKind.wrap .u32 (((BitVec.ofInt 32 old &&& ~~~BitVec.ofInt 32 (IntKind.wrap .u32 ((BitVec.ofInt 32 bits &&& ~~~BitVec.ofInt 32 w).toNat : Int))).toNat : Nat) : Int)
def wordR (old m w : Int) : Int := IntKind.wrap .u32 (((BitVec.ofInt 32 old &&& BitVec.ofInt 32 (IntKind.wrap .u32 ((BitVec.ofInt 32 w ||| BitVec.ofInt 32 m).toNat : Int))).toNat : Nat) : Int)
def invR (mix : Int) : Int := IntKind.wrap .u32 (((BitVec.ofInt 32 4294967295 ^^^ BitVec.ofInt 32 mix).toNat : Nat) : Int)
abbrev OpR := (List Int × List Int × Int × Unit) × (Int × Int × Unit) × Int
def nilR (e : Int) : OpR := (([], [], 0, ()), (0, 0, ()), e)
def badP (x : FT.den) (af : Int) : Bool := !fvalid x || (decide (af < 0) || decide (af > 1099511627776))
def progI (x : FT.den) (i w af mix : Int) : OpR :=
  bif badP x af then nilR 1 else bif decide (i < 0) || decide (i ≥ x.1.length) then nilR 2 else
  bif af == 0 then (x, (0, mix, ()), 18) else
  bif af == 1 then ((x.1.set i.toNat (wordI (x.1.getD i.toNat 0) mix w), x.2.1, x.2.2.1, ()), (0, mix, ()), 18) else
  ((x.1.set i.toNat (wordI (x.1.getD i.toNat 0) 4294967295 w), x.2.1, x.2.2.1, ()), (af - 1, mix, ()), 0)
def progR (x : FT.den) (i w af mix : Int) : OpR :=
  bif badP x af then nilR 1 else bif decide (i < 0) || decide (i ≥ x.1.length) then nilR 2 else
  bif af == 0 then ((x.1.set i.toNat (wordR (x.1.getD i.toNat 0) 4294967295 w), x.2.1, x.2.2.1, ()), (0, mix, ()), 18) else
  bif af == 1 then ((x.1.set i.toNat (wordR (x.1.getD i.toNat 0) (invR mix) w), x.2.1, x.2.2.1, ()), (0, mix, ()), 18) else
  ((x.1.set i.toNat (wordR (x.1.getD i.toNat 0) 0 w), x.2.1, x.2.2.1, ()), (af - 1, mix, ()), 0)
def readF (x : FT.den) (i : Int) : Int × Int := bif !fvalid x then (0, 1) else bif decide (i < 0) || decide (i ≥ x.1.length) then (0, 2) else (x.1.getD i.toNat 0, 0)
def sector (ws : List Int) (s : Int) : List Int := (ws.drop (s * 64).toNat).take 64
def blankF (x : FT.den) (s : Int) : Bool × Int := bif !fvalid x then (false, 1) else bif decide (s < 0) || decide (s ≥ x.2.1.length) then (false, 2) else (!(sector x.1 s).any (fun w => w != 4294967295), 0)
def orW (old bits : Int) : Int := IntKind.wrap .u32 (((BitVec.ofInt 32 old ||| BitVec.ofInt 32 bits).toNat : Nat) : Int)
def orN (ws : List Int) (o : Nat) (bits : Int) (n : Nat) : List Int := foldB (fun j ws => ws.set (o + j) (orW (ws.getD (o + j) 0) bits)) 0 n ws
def eraseTo (x : FT.den) (s bits : Int) : List Int × List Int × Int × Unit := (orN x.1 (s * 64).toNat bits 64, x.2.1.set s.toNat (x.2.1.getD s.toNat 0 + 1), x.2.2.1, ())
def eraseF (x : FT.den) (s af mix : Int) : OpR :=
  bif badP x af then nilR 1 else bif decide (s < 0) || decide (s ≥ x.2.1.length) then nilR 2 else
  bif x.2.1.getD s.toNat 0 == x.2.2.1 then nilR 19 else
  bif af == 0 then (x, (0, mix, ()), 18) else
  bif af == 1 then (eraseTo x s mix, (0, mix, ()), 18) else (eraseTo x s 4294967295, (af - 1, mix, ()), 0)
def shapedF (x y : FT.den) : Bool := decide (x.1.length = y.1.length) && (decide (x.2.1.length = y.2.1.length) && x.2.2.1 == y.2.2.1)
end Sp
end Go.Ev
