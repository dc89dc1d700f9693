/- Helpers: functions of the program as Lean functions, and what they compute. No condition. -/
import Derived.Test.YtfofdehkgkjbbaaE8P3
import Derived.Test.YtfofdehkgkjbbaaG8P1
import Derived.Test.YtfofdehkgkjbbaaG8P0
import Derived.Test.YtfofdehkgkjbbaaG8P2
set_option maxRecDepth 10000
set_option linter.unusedVariables false
set_option linter.unusedSimpArgs false
set_option linter.unusedSimpArgs false
set_option linter.unusedVariables false
namespace Go.Ev
open Go
set_option maxRecDepth 100000
set_option maxHeartbeats 4000000
abbrev FlT := List Int × List Int × Int × Unit
abbrev PwT := Int × Int × Unit
abbrev OpT := Bool × Int × Int × Unit
abbrev RsT := FlT × PwT × Int × Unit
namespace Sp
noncomputable def wb (f : FlT) (j : Nat) : Bool := decide (f.2.1.getD j 0 < 0) || decide (f.2.1.getD j 0 > f.2.2.1)
noncomputable def fv (f : FlT) : Bool := decide (1 ≤ f.2.1.length) && (decide (f.2.1.length ≤ 64) && (decide (f.1.length = f.2.1.length * 64) && (decide (1 ≤ f.2.2.1) && (decide (f.2.2.1 ≤ 1000000) && (fnd (wb f) f.2.1.length 0).isNone))))
noncomputable def pw (f : FlT) (k : Nat) (w bits : Int) : FlT := (f.1.set k (andnI .u32 (f.1.getD k 0) (andnI .u32 bits w)), f.2.1, f.2.2.1, ())
noncomputable def prg (f : FlT) (k : Nat) (w : Int) (p : PwT) : RsT := if p.1 = 0 then (f, p, 18, ()) else if p.1 = 1 then (pw f k w p.2.1, (0, p.2), 18, ()) else (pw f k w 4294967295, (p.1 - 1, p.2), 0, ())
end Sp
end Go.Ev
set_option linter.unusedSimpArgs false
set_option linter.unusedVariables false
namespace Go.Ev
open Go
set_option maxRecDepth 100000
set_option maxHeartbeats 4000000
namespace Sp
noncomputable def rotr (x : Int) (n : Nat) : Int := orI .u32 (x.fdiv (2 ^ n)) (IntKind.wrap .u32 (x * 2 ^ (32 - n)))
/-- The word at a place. -/
noncomputable def wat (b : List Int) (i : Nat) : Int := orI .u32 (orI .u32 (orI .u32 (IntKind.wrap .u32 (IntKind.wrap .u32 (b.getD i 0) * 16777216)) (IntKind.wrap .u32 (IntKind.wrap .u32 (b.getD (i + 1) 0) * 65536))) (IntKind.wrap .u32 (IntKind.wrap .u32 (b.getD (i + 2) 0) * 256))) (IntKind.wrap .u32 (b.getD (i + 3) 0))
end Sp
end Go.Ev
set_option linter.unusedSimpArgs false
set_option linter.unusedVariables false
namespace Go.Ev
open Go
set_option maxRecDepth 100000
set_option maxHeartbeats 4000000
namespace Sp
noncomputable def w0 (b : List Int) : List Int := foldB (fun j a => a.set j (wat b (4 * j))) 0 16 (List.replicate 64 0)
noncomputable def stW (j : Nat) (a : List Int) : List Int := a.set j (IntKind.wrap .u32 (IntKind.wrap .u32 (IntKind.wrap .u32 (xorI .u32 (xorI .u32 (rotr (a.getD (j - 2) 0) 17) (rotr (a.getD (j - 2) 0) 19)) (Int.fdiv (a.getD (j - 2) 0) 1024) + a.getD (j - 7) 0) + xorI .u32 (xorI .u32 (rotr (a.getD (j - 15) 0) 7) (rotr (a.getD (j - 15) 0) 18)) (Int.fdiv (a.getD (j - 15) 0) 8)) + a.getD (j - 16) 0))
noncomputable def w1 (b : List Int) : List Int := foldB stW 16 48 (w0 b)
noncomputable def t1 (k w : List Int) (j : Nat) (s : List Int) : Int := IntKind.wrap .u32 (IntKind.wrap .u32 (IntKind.wrap .u32 (IntKind.wrap .u32 (s.getD 7 0 + xorI .u32 (xorI .u32 (rotr (s.getD 4 0) 6) (rotr (s.getD 4 0) 11)) (rotr (s.getD 4 0) 25)) + xorI .u32 (andI .u32 (s.getD 4 0) (s.getD 5 0)) (andI .u32 (xorI .u32 4294967295 (s.getD 4 0)) (s.getD 6 0))) + k.getD j 0) + w.getD j 0)
noncomputable def t2 (s : List Int) : Int := IntKind.wrap .u32 (xorI .u32 (xorI .u32 (rotr (s.getD 0 0) 2) (rotr (s.getD 0 0) 13)) (rotr (s.getD 0 0) 22) + xorI .u32 (xorI .u32 (andI .u32 (s.getD 0 0) (s.getD 1 0)) (andI .u32 (s.getD 0 0) (s.getD 2 0))) (andI .u32 (s.getD 1 0) (s.getD 2 0)))
noncomputable def stR (k w : List Int) (j : Nat) (s : List Int) : List Int := [IntKind.wrap .u32 (t1 k w j s + t2 s), s.getD 0 0, s.getD 1 0, s.getD 2 0, IntKind.wrap .u32 (s.getD 3 0 + t1 k w j s), s.getD 4 0, s.getD 5 0, s.getD 6 0]
noncomputable def rnds (k w s : List Int) : List Int := foldB (stR k w) 0 64 s
noncomputable def addS (s v : List Int) : List Int := foldB (fun j s => s.set j (IntKind.wrap .u32 (s.getD j 0 + v.getD j 0))) 0 8 s
/-- The state after a block. -/
noncomputable def blk (k s b : List Int) : List Int := addS s (rnds k (w1 b) s)
end Sp
/-! sign.block, in the loop over what is whole -/
end Go.Ev
set_option linter.unusedSimpArgs false
set_option linter.unusedVariables false
namespace Go.Ev
open Go
set_option maxRecDepth 100000
set_option maxHeartbeats 4000000
/-! sign.block, in the loop over what is left -/
/-! magnetoref53.block -/
noncomputable def Sp.K64 : List Int := (Sp.v_66).1
end Go.Ev
set_option linter.unusedSimpArgs false
set_option linter.unusedVariables false
namespace Go.Ev
open Go
set_option maxRecDepth 100000
set_option maxHeartbeats 4000000
namespace Sp
/-- The state after n blocks. -/
noncomputable def shaS : Nat → List Int → List Int → List Int
  | 0, _, s => s
  | n + 1, l, s => shaS n (l.drop 64) (blk K64 s (l.take 64))
end Sp
end Go.Ev
set_option linter.unusedSimpArgs false
set_option linter.unusedVariables false
namespace Go.Ev
open Go
set_option maxRecDepth 100000
set_option maxHeartbeats 4000000
namespace Sp
/-- The bytes of a length. -/
noncomputable def szB (n : Int) : List Int := [IntKind.wrap .u8 (Int.fdiv n (2 ^ 56)), IntKind.wrap .u8 (Int.fdiv n (2 ^ 48)), IntKind.wrap .u8 (Int.fdiv n (2 ^ 40)), IntKind.wrap .u8 (Int.fdiv n (2 ^ 32)), IntKind.wrap .u8 (Int.fdiv n (2 ^ 24)), IntKind.wrap .u8 (Int.fdiv n (2 ^ 16)), IntKind.wrap .u8 (Int.fdiv n (2 ^ 8)), IntKind.wrap .u8 (Int.fdiv n (2 ^ 0))]
noncomputable def padB (b : List Int) (c : Nat) : List Int := b ++ [128] ++ List.replicate c 0 ++ szB (b.length * 8)
end Sp
end Go.Ev
set_option linter.unusedSimpArgs false
set_option linter.unusedVariables false
namespace Go.Ev
open Go
set_option maxRecDepth 100000
set_option maxHeartbeats 4000000
namespace Sp
noncomputable def H0 : List Int := [1779033703, 3144134277, 1013904242, 2773480762, 1359893119, 2600822924, 528734635, 1541459225]
/-- The bytes of the state. -/
noncomputable def outB (s : List Int) : List Int := foldB (fun i o => (((o.set (4 * i) (IntKind.wrap .u8 (Int.fdiv (s.getD i 0) 16777216))).set (4 * i + 1) (IntKind.wrap .u8 (Int.fdiv (s.getD i 0) 65536))).set (4 * i + 2) (IntKind.wrap .u8 (Int.fdiv (s.getD i 0) 256))).set (4 * i + 3) (IntKind.wrap .u8 (s.getD i 0))) 0 8 (List.replicate 32 0)
/-- SHA-256. -/
noncomputable def sha (b : List Int) : List Int := outB (shaS ((b.length + 72) / 64) (padB b ((119 - b.length % 64) % 64)) H0)
end Sp
namespace Sp
noncomputable def stO (s : List Int) (j : Nat) (o : List Int) : List Int := o.set j (IntKind.wrap .u8 (Int.fdiv (s.getD (j / 4) 0) (2 ^ (24 - j % 4 * 8))))
end Sp
end Go.Ev
set_option linter.unusedSimpArgs false
set_option linter.unusedVariables false
namespace Go.Ev
open Go
set_option maxRecDepth 100000
set_option maxHeartbeats 4000000
end Go.Ev
set_option linter.unusedSimpArgs false
set_option linter.unusedVariables false
namespace Go.Ev
open Go
set_option maxRecDepth 100000
set_option maxHeartbeats 4000000
end Go.Ev
set_option linter.unusedSimpArgs false
set_option linter.unusedVariables false
namespace Go.Ev
open Go
set_option maxRecDepth 100000
set_option maxHeartbeats 4000000
/-! digits -/
namespace Sp
noncomputable def hi4 (x : Int) : Int := IntKind.wrap .i64 (Int.fdiv x 16)
noncomputable def lo4 (x : Int) : Int := IntKind.wrap .i64 (andI .u8 x 15)
noncomputable def dig (h : List Int) (j : Nat) : Int := if j % 2 = 0 then hi4 (h.getD (j / 2) 0) else lo4 (h.getD (j / 2) 0)
noncomputable def digs (h : List Int) (n : Nat) : List Int := (List.range n).map (dig h)
noncomputable def dsum (h : List Int) : Nat → Int
  | 0 => 0
  | n + 1 => dsum h n + (15 - dig h n)
end Sp
abbrev bytes (h : List Int) : Prop := ∀ x ∈ h, 0 ≤ x ∧ x ≤ 255
namespace Sp
noncomputable def digL (h : List Int) : List Int := digs h 64 ++ [dsum h 64 / 256, dsum h 64 / 16 % 16, dsum h 64 % 16]
end Sp
end Go.Ev
set_option linter.unusedSimpArgs false
set_option linter.unusedVariables false
namespace Go.Ev
open Go
set_option maxRecDepth 100000
set_option maxHeartbeats 4000000
abbrev BayT := FlT × List Int × Unit
namespace Sp
noncomputable def cntB (n : Nat) : Bool := decide (n % 2 = 0) && (decide (18 ≤ n) && decide (n ≤ 64))
noncomputable def bvb (a : BayT) : Bool := fv a.1 && cntB a.1.2.1.length
noncomputable def hlf (a : BayT) : Nat := a.1.2.1.length * 32
noncomputable def wds (a : BayT) (k : Nat) : List Int := (a.1.1.drop (k * hlf a)).take (hlf a)
end Sp
structure BV (a : BayT) : Prop where
  v : Sp.fv a.1 = true
  e : a.1.2.1.length % 2 = 0
  lo : 18 ≤ a.1.2.1.length
  hi : a.1.2.1.length ≤ 64
  l : a.1.1.length = 2 * Sp.hlf a
  h0 : 576 ≤ Sp.hlf a
  h1 : Sp.hlf a ≤ 2048
end Go.Ev
set_option linter.unusedSimpArgs false
set_option linter.unusedVariables false
namespace Go.Ev
open Go
set_option maxRecDepth 100000
set_option maxHeartbeats 4000000
/-! chains -/
namespace Sp
noncomputable def link (j : Int) (h : List Int) : List Int := sha ([IntKind.wrap .u8 j] ++ h.take 32)
noncomputable def chn : Nat → Int → List Int → List Int
  | 0, _, h => h
  | n + 1, j, h => chn n (j + 1) (link j h)
end Sp
end Go.Ev
set_option linter.unusedSimpArgs false
set_option linter.unusedVariables false
namespace Go.Ev
open Go
set_option maxRecDepth 100000
set_option maxHeartbeats 4000000
namespace Sp
noncomputable def node (a b : List Int) : List Int := sha ([255] ++ a.take 32 ++ b.take 32)
noncomputable def sec (s : List Int) (k j : Int) : List Int := sha (s.take 32 ++ [IntKind.wrap .u8 k, IntKind.wrap .u8 j])
noncomputable def cat (l : List (List Int)) : List Int := l.flatMap fun h => h.take 32
noncomputable def leafE (l : List (List Int)) : List Int := sha (cat l)
noncomputable def ends (s : List Int) (k : Int) (n : Nat) : List (List Int) := (List.range n).map fun j : Nat => chn 15 0 (sec s k (j : Int))
noncomputable def leafS (s : List Int) (k : Int) : List Int := leafE (ends s k 67)
noncomputable def pubK (s : List Int) : List Int := node (node (leafS s 0) (leafS s 1)) (node (leafS s 2) (leafS s 3))
end Sp
end Go.Ev
set_option linter.unusedSimpArgs false
set_option linter.unusedVariables false
namespace Go.Ev
open Go
/-- Something among the first n. -/
noncomputable def anyB (p : Nat → Bool) : Nat → Bool
  | 0 => false
  | n + 1 => anyB p n || p n
end Go.Ev
set_option linter.unusedSimpArgs false
set_option linter.unusedVariables false
namespace Go.Ev
open Go
set_option maxRecDepth 100000
set_option maxHeartbeats 4000000
abbrev SigT := Int × List (List Int) × List (List Int) × PUnit
abbrev h0 : List Int := Ty.dflt (.arr 32 (.int .u8))
namespace Sp
noncomputable def shp (s : SigT) : Bool := decide (0 ≤ s.1) && (decide (s.1 < 4) && ((s.2.1.length : Int) == 67 && (s.2.2.1.length : Int) == 2))
noncomputable def vend (d : List Int) (c : List (List Int)) (n : Nat) : List (List Int) := (List.range n).map fun j : Nat => chn (15 - d.getD j 0).toNat (d.getD j 0) (c.getD j h0)
noncomputable def up (i : Int) (p e : List Int) : List Int := if i = 1 then node p e else node e p
noncomputable def verF (key dg : List Int) (s : SigT) : Bool := shp s && (up (s.1 / 2) (s.2.2.1.getD 1 h0) (up (s.1 % 2) (s.2.2.1.getD 0 h0) (leafE (vend (digL dg) s.2.1 67))) == key)
end Sp
end Go.Ev
set_option linter.unusedSimpArgs false
set_option linter.unusedVariables false
namespace Go.Ev
open Go
set_option maxRecDepth 100000
set_option maxHeartbeats 4000000
end Go.Ev
set_option linter.unusedSimpArgs false
set_option linter.unusedVariables false
namespace Go.Ev
open Go
set_option maxRecDepth 100000
set_option maxHeartbeats 4000000
namespace Sp
noncomputable def wd (a b c d : Int) : Int := orI .u32 (orI .u32 (orI .u32 (IntKind.wrap .u32 (IntKind.wrap .u32 a * 16777216)) (IntKind.wrap .u32 (IntKind.wrap .u32 b * 65536))) (IntKind.wrap .u32 (IntKind.wrap .u32 c * 256))) (IntKind.wrap .u32 d)
noncomputable def hwd (h : List Int) (i : Nat) : Int := wd (h.getD (4 * i) 0) (h.getD (4 * i + 1) 0) (h.getD (4 * i + 2) 0) (h.getD (4 * i + 3) 0)
noncomputable def hws (h : List Int) (n : Nat) : List Int := (List.range n).map (hwd h)
noncomputable def cws (l : List (List Int)) : List Int := l.flatMap fun h => hws h 8
noncomputable def wordsF (s : SigT) : List Int := [IntKind.wrap .u32 s.1] ++ cws s.2.1 ++ cws s.2.2.1
end Sp
end Go.Ev
set_option linter.unusedSimpArgs false
set_option linter.unusedVariables false
namespace Go.Ev
open Go
set_option maxRecDepth 100000
set_option maxHeartbeats 4000000
namespace Sp
noncomputable def byt (w : List Int) (k i : Nat) : Int := IntKind.wrap .u8 (Int.fdiv (w.getD (1 + 8 * k + i / 4) 0) (2 ^ (24 - 8 * (i % 4))))
noncomputable def rdp (w : List Int) (k n : Nat) : List Int := (List.range 32).map fun i => if i < n then byt w k i else 0
noncomputable def rdh (w : List Int) (k : Nat) : List Int := (List.range 32).map (byt w k)
noncomputable def rdC (w : List Int) (n : Nat) : List (List Int) := (List.range (min n 67)).map (rdh w)
noncomputable def rdP (w : List Int) (n : Nat) : List (List Int) := (List.range (n - 67)).map fun j => rdh w (67 + j)
noncomputable def rd (w : List Int) : SigT := (IntKind.wrap .i64 (w.getD 0 0), rdC w 69, rdP w 69, ())
noncomputable def okw (w : List Int) : Bool := decide (w.length = 553) && decide (w.getD 0 0 < 4)
end Sp
end Go.Ev
set_option linter.unusedSimpArgs false
set_option linter.unusedVariables false
namespace Go.Ev
open Go
set_option maxRecDepth 100000
set_option maxHeartbeats 4000000
abbrev HdT := (Int × Int × List Int × (Int × List (List Int) × List (List Int) × Unit) × Unit) × Bool × Unit
structure HdO (n : Nat) (v : HdT) : Prop where
  v0 : 1 ≤ v.1.1
  v1 : v.1.1 ≤ 2147483647
  s0 : 1 ≤ v.1.2.1
  s1 : v.1.2.1 ≤ (n : Int) - 564
  b : bytes v.1.2.2.1
abbrev hdF : HdT := ((0, 0, List.replicate 32 0, (0, [], [], ()), ()), false, ())
end Go.Ev
set_option linter.unusedSimpArgs false
set_option linter.unusedVariables false
namespace Go.Ev
open Go
set_option maxRecDepth 100000
set_option maxHeartbeats 4000000
namespace Sp
noncomputable def acb (a : BayT) (k : Nat) : Bool := a.1.1.getD (k * hlf a) 0 == 0
noncomputable def gdb (a : BayT) (k : Nat) : Bool := (v_13 a k).1
noncomputable def vr (a : BayT) (k : Nat) : Int := (v_14 a k).1.1
noncomputable def cnd (a : BayT) (k : Nat) : Bool := acb a k && gdb a k
noncomputable def sel (a : BayT) : Int × Int × Unit := bif cnd a 0 then (bif cnd a 1 && decide (vr a 1 > vr a 0) then (1, 0, ()) else (0, 0, ())) else bif cnd a 1 then (1, 0, ()) else (0, 7, ())
end Sp
structure BB (a : BayT) : Prop where
  v : BV a
  b : Sp.bvb a = true
namespace Sp
/-- The selected bank. -/
noncomputable def sb (a : BayT) : Nat := bif cnd a 0 then (bif cnd a 1 && decide (vr a 1 > vr a 0) then 1 else 0) else bif cnd a 1 then 1 else 0
noncomputable def has (a : BayT) : Bool := cnd a 0 || cnd a 1
noncomputable def lst (a : BayT) : Int := bif has a then vr a (sb a) else 0
end Sp
end Go.Ev
set_option linter.unusedSimpArgs false
set_option linter.unusedVariables false
namespace Go.Ev
open Go
set_option maxRecDepth 100000
set_option maxHeartbeats 4000000
abbrev LN := 8
end Go.Ev
