/- Helpers: functions of the program as Lean functions, and what they compute. No condition. -/
import Derived.Test.YtpelnohiecgbgaaEvPart1
import Derived.Test.YtpelnohiecgbgaaEvPart2
import Derived.Test.YtpelnohiecgbgaaG7P0
import Derived.Test.YtpelnohiecgbgaaG7P1
import Derived.Test.YtpelnohiecgbgaaProg
set_option maxRecDepth 10000
set_option linter.unusedVariables false
set_option linter.unusedSimpArgs false
namespace Go.Ev
open Go
set_option maxRecDepth 100000
set_option maxHeartbeats 4000000
set_option linter.unusedVariables false
noncomputable section

def sm_50 : Nat → Option Summ := fun f => none


def F_50 (a0 : Int) (a1 : Int) : Option (Int × Unit) :=
  gd (decide ((0 : Int) ≤ a1)) (gd (decide ((0 : Int) ≤ IntKind.wrap IntKind.u64 ((32 : Int) - a1))) (some (Sp.orI IntKind.u32 (Int.fdiv a0 ((2 : Int) ^ Nat.min (Int.toNat a1) (32 : Nat))) (IntKind.wrap IntKind.u32 (a0 * (2 : Int) ^ Nat.min (Int.toNat (IntKind.wrap IntKind.u64 ((32 : Int) - a1))) (32 : Nat))), PUnit.unit)))
theorem fn_50 (a0 : Int) (a1 : Int) : evFnL sm_50 FU (ovr noO (evFn sm_50 fns FU 0)) .nil ir50 (ofH [(.int .u32), (.int .u64)] (a0, a1, ())) [] (pureK [(.int .u32)]) = F_50 a0 a1 := by kernel_rfl
def Sp.p_50 (a0 : Int) (a1 : Int) : Bool := (F_50 a0 a1).isSome
def Sp.v_50 (a0 : Int) (a1 : Int) : Int × Unit := (F_50 a0 a1).getD (dfH [(.int .u32)])
def s_50 : Summ := shN [(.int .u32), (.int .u64)] [(.int .u32)] (fun x => Sp.p_50 x.1 x.2.1) (fun x => Sp.v_50 x.1 x.2.1)
theorem pv_50 (a0 : Int) (a1 : Int) {y : Int × Unit} (h : F_50 a0 a1 = some y) : Sp.p_50 a0 a1 = true ∧ Sp.v_50 a0 a1 = y := ⟨by rw [Sp.p_50, h]; rfl, by rw [Sp.v_50, h]; rfl⟩
theorem run_50 (x : HDen [(.int .u32), (.int .u64)]) (y : HDen [(.int .u32)]) (h : F_50 x.1 x.2.1 = some y) : evFn sm_50 fns FU 1 50 (ofH [(.int .u32), (.int .u64)] x) [] (pureK [(.int .u32)]) = some y :=
  evFnL_sound (fn := ir50) (t := .nil) (o := noO) rfl noO_ok trivial ((fn_50 _ _).trans h)
end
end Go.Ev
namespace Go.Ev
open Go
set_option maxRecDepth 100000
set_option maxHeartbeats 4000000
set_option linter.unusedVariables false
noncomputable section

def sm_51 : Nat → Option Summ := fun f => none


def F_51  : Option ((List Int) × Unit) :=
  some ([(1116352408 : Int), (1899447441 : Int), (3049323471 : Int), (3921009573 : Int), (961987163 : Int), (1508970993 : Int), (2453635748 : Int), (2870763221 : Int), (3624381080 : Int), (310598401 : Int), (607225278 : Int), (1426881987 : Int), (1925078388 : Int), (2162078206 : Int), (2614888103 : Int), (3248222580 : Int), (3835390401 : Int), (4022224774 : Int), (264347078 : Int), (604807628 : Int), (770255983 : Int), (1249150122 : Int), (1555081692 : Int), (1996064986 : Int), (2554220882 : Int), (2821834349 : Int), (2952996808 : Int), (3210313671 : Int), (3336571891 : Int), (3584528711 : Int), (113926993 : Int), (338241895 : Int), (666307205 : Int), (773529912 : Int), (1294757372 : Int), (1396182291 : Int), (1695183700 : Int), (1986661051 : Int), (2177026350 : Int), (2456956037 : Int), (2730485921 : Int), (2820302411 : Int), (3259730800 : Int), (3345764771 : Int), (3516065817 : Int), (3600352804 : Int), (4094571909 : Int), (275423344 : Int), (430227734 : Int), (506948616 : Int), (659060556 : Int), (883997877 : Int), (958139571 : Int), (1322822218 : Int), (1537002063 : Int), (1747873779 : Int), (1955562222 : Int), (2024104815 : Int), (2227730452 : Int), (2361852424 : Int), (2428436474 : Int), (2756734187 : Int), (3204031479 : Int), (3329325298 : Int)], PUnit.unit)
theorem fn_51  : evFnL sm_51 FU (ovr noO (evFn sm_51 fns FU 0)) .nil ir51 (ofH [] (())) [] (pureK [(.arr 64 (.int .u32))]) = F_51 := by kernel_rfl
def Sp.p_51  : Bool := (F_51).isSome
def Sp.v_51  : (List Int) × Unit := (F_51).getD (dfH [(.arr 64 (.int .u32))])
def s_51 : Summ := shN [] [(.arr 64 (.int .u32))] (fun x => Sp.p_51 ) (fun x => Sp.v_51 )
theorem pv_51  {y : (List Int) × Unit} (h : F_51 = some y) : Sp.p_51 = true ∧ Sp.v_51 = y := ⟨by rw [Sp.p_51, h]; rfl, by rw [Sp.v_51, h]; rfl⟩
theorem run_51 (x : HDen []) (y : HDen [(.arr 64 (.int .u32))]) (h : F_51  = some y) : evFn sm_51 fns FU 1 51 (ofH [] x) [] (pureK [(.arr 64 (.int .u32))]) = some y :=
  evFnL_sound (fn := ir51) (t := .nil) (o := noO) rfl noO_ok trivial ((fn_51).trans h)
end
end Go.Ev
namespace Go.Ev
open Go
set_option maxRecDepth 100000
set_option maxHeartbeats 4000000
set_option linter.unusedVariables false
noncomputable section

def sm_36 : Nat → Option Summ := fun f => bif Nat.beq f 50 then some s_50 else bif Nat.beq f 51 then some s_51 else none
def T_36_0 (p0 : List Int) (p1 : Int) (p2 : List Int) (p3 : List Int) (p4 : List Int) : St := St.mk [CV.junk, CV.pure (Ty.slice (Ty.int IntKind.u8)) p0, CV.ptr (0 : Nat) [], CV.junk, CV.ptr (1 : Nat) [], CV.ptr (2 : Nat) [], CV.int IntKind.i64 p1, CV.junk, CV.junk, CV.junk, CV.junk, CV.junk, CV.junk, CV.junk, CV.junk, CV.junk, CV.junk, CV.junk, CV.junk, CV.junk, CV.junk, CV.junk, CV.junk, CV.junk, CV.junk, CV.junk, CV.junk, CV.junk, CV.junk, CV.junk, CV.junk, CV.junk, CV.junk, CV.junk, CV.junk, CV.junk, CV.junk, CV.junk, CV.junk, CV.junk, CV.junk, CV.junk, CV.junk, CV.junk, CV.junk, CV.junk, CV.junk, CV.junk, CV.junk, CV.junk, CV.junk, CV.junk, CV.junk, CV.junk, CV.junk, CV.junk, CV.junk, CV.junk, CV.junk, CV.junk, CV.junk, CV.junk, CV.junk, CV.junk, CV.junk, CV.junk, CV.junk, CV.junk, CV.junk, CV.junk, CV.junk, CV.junk, CV.junk, CV.junk, CV.junk, CV.junk, CV.junk, CV.junk, CV.junk, CV.junk, CV.junk, CV.junk, CV.junk, CV.junk, CV.junk, CV.junk, CV.junk, CV.junk, CV.junk, CV.junk, CV.junk, CV.junk, CV.junk, CV.junk, CV.junk, CV.junk, CV.junk, CV.junk, CV.junk, CV.junk, CV.junk, CV.junk, CV.junk, CV.junk, CV.junk, CV.junk, CV.junk, CV.junk, CV.junk, CV.junk, CV.junk, CV.junk, CV.junk, CV.junk, CV.junk, CV.junk, CV.junk, CV.junk, CV.junk, CV.junk, CV.junk, CV.junk, CV.junk, CV.junk, CV.junk, CV.junk, CV.junk, CV.junk, CV.junk, CV.junk, CV.junk, CV.junk, CV.junk, CV.junk, CV.junk, CV.junk, CV.junk, CV.junk, CV.junk, CV.junk, CV.junk, CV.junk, CV.junk, CV.junk, CV.junk, CV.junk, CV.junk, CV.junk, CV.junk, CV.junk, CV.junk, CV.junk, CV.junk, CV.junk, CV.junk, CV.junk, CV.junk, CV.junk, CV.junk, CV.junk, CV.junk, CV.junk, CV.junk, CV.junk, CV.junk, CV.junk, CV.junk, CV.junk, CV.junk, CV.junk, CV.junk, CV.junk, CV.junk, CV.junk, CV.junk, CV.junk, CV.junk, CV.junk, CV.junk, CV.junk, CV.junk, CV.junk, CV.junk, CV.junk, CV.junk, CV.junk, CV.junk, CV.junk, CV.junk, CV.junk, CV.junk, CV.junk, CV.junk, CV.junk, CV.junk, CV.junk] [Blk.mem (CV.pure (Ty.arr (8 : Nat) (Ty.int IntKind.u32)) p2), Blk.mem (CV.pure (Ty.arr (8 : Nat) (Ty.int IntKind.u32)) p3), Blk.mem (CV.pure (Ty.arr (64 : Nat) (Ty.int IntKind.u32)) p4)] (0 : Nat)
def X_36_0_0 (p2 : List Int) (p3 : List Int) (p4 : List Int) : St := St.mk [CV.junk, CV.junk, CV.ptr (0 : Nat) [], CV.junk, CV.ptr (1 : Nat) [], CV.ptr (2 : Nat) [], CV.junk, CV.junk, CV.junk, CV.junk, CV.junk, CV.junk, CV.junk, CV.junk, CV.junk, CV.junk, CV.junk, CV.junk, CV.junk, CV.junk, CV.junk, CV.junk, CV.junk, CV.junk, CV.junk, CV.junk, CV.junk, CV.junk, CV.junk, CV.junk, CV.junk, CV.junk, CV.junk, CV.junk, CV.junk, CV.junk, CV.junk, CV.junk, CV.junk, CV.junk, CV.junk, CV.junk, CV.junk, CV.junk, CV.junk, CV.junk, CV.junk, CV.junk, CV.junk, CV.junk, CV.junk, CV.junk, CV.junk, CV.junk, CV.junk, CV.junk, CV.junk, CV.junk, CV.junk, CV.junk, CV.junk, CV.junk, CV.junk, CV.junk, CV.junk, CV.junk, CV.junk, CV.junk, CV.junk, CV.junk, CV.junk, CV.junk, CV.junk, CV.junk, CV.junk, CV.junk, CV.junk, CV.junk, CV.junk, CV.junk, CV.junk, CV.junk, CV.junk, CV.junk, CV.junk, CV.junk, CV.junk, CV.junk, CV.junk, CV.junk, CV.junk, CV.junk, CV.junk, CV.junk, CV.junk, CV.junk, CV.junk, CV.junk, CV.junk, CV.junk, CV.junk, CV.junk, CV.junk, CV.junk, CV.junk, CV.junk, CV.junk, CV.junk, CV.junk, CV.junk, CV.junk, CV.junk, CV.junk, CV.junk, CV.junk, CV.junk, CV.junk, CV.junk, CV.junk, CV.junk, CV.junk, CV.junk, CV.junk, CV.junk, CV.junk, CV.junk, CV.junk, CV.junk, CV.junk, CV.junk, CV.junk, CV.junk, CV.junk, CV.junk, CV.junk, CV.junk, CV.junk, CV.junk, CV.junk, CV.junk, CV.junk, CV.junk, CV.junk, CV.junk, CV.junk, CV.junk, CV.junk, CV.junk, CV.junk, CV.junk, CV.junk, CV.junk, CV.junk, CV.junk, CV.junk, CV.junk, CV.junk, CV.junk, CV.junk, CV.junk, CV.junk, CV.junk, CV.junk, CV.junk, CV.junk, CV.junk, CV.junk, CV.junk, CV.junk, CV.junk, CV.junk, CV.junk, CV.junk, CV.junk, CV.junk, CV.junk, CV.junk, CV.junk, CV.junk, CV.junk, CV.junk, CV.junk, CV.junk, CV.junk, CV.junk, CV.junk, CV.junk, CV.junk, CV.junk, CV.junk, CV.junk, CV.junk, CV.junk, CV.junk, CV.junk, CV.junk] [Blk.mem (CV.pure (Ty.arr (8 : Nat) (Ty.int IntKind.u32)) p2), Blk.mem (CV.pure (Ty.arr (8 : Nat) (Ty.int IntKind.u32)) p3), Blk.mem (CV.pure (Ty.arr (64 : Nat) (Ty.int IntKind.u32)) p4)] (0 : Nat)
inductive Sp.E_36_0 where
  | e0 (p2 : List Int) (p3 : List Int) (p4 : List Int)
def Sp.B_36_0 {R : Type} (r : Option Sp.E_36_0) (k0 : (List Int) → (List Int) → (List Int) → Option R) : Option R := match r with
  | none => none
  | some (.e0 p2 p3 p4) => k0 p2 p3 p4
def Sp.L_36_0 : Nat → (List Int) → (Int) → (List Int) → (List Int) → (List Int) → Option Sp.E_36_0
  | 0, _, _, _, _, _ => none
  | m + 1, p0, p1, p2, p3, p4 => bif decide (p1 < (16 : Int)) then gd (inB (IntKind.wrap IntKind.i64 ((4 : Int) * p1)) (List.length p0)) (gd (inB (IntKind.wrap IntKind.i64 (IntKind.wrap IntKind.i64 ((4 : Int) * p1) + (1 : Int))) (List.length p0)) (gd (inB (IntKind.wrap IntKind.i64 (IntKind.wrap IntKind.i64 ((4 : Int) * p1) + (2 : Int))) (List.length p0)) (gd (inB (IntKind.wrap IntKind.i64 (IntKind.wrap IntKind.i64 ((4 : Int) * p1) + (3 : Int))) (List.length p0)) (gd (inB p1 (64 : Nat)) (gd (decide (Int.toNat p1 < (64 : Nat)) && true) (Sp.L_36_0 m p0 (IntKind.wrap IntKind.i64 (p1 + (1 : Int))) p2 p3 (List.set p4 (Int.toNat p1) (Sp.orI IntKind.u32 (Sp.orI IntKind.u32 (Sp.orI IntKind.u32 (IntKind.wrap IntKind.u32 (IntKind.wrap IntKind.u32 (List.getD p0 (Int.toNat (IntKind.wrap IntKind.i64 ((4 : Int) * p1))) (0 : Int)) * (16777216 : Int))) (IntKind.wrap IntKind.u32 (IntKind.wrap IntKind.u32 (List.getD p0 (Int.toNat (IntKind.wrap IntKind.i64 (IntKind.wrap IntKind.i64 ((4 : Int) * p1) + (1 : Int)))) (0 : Int)) * (65536 : Int)))) (IntKind.wrap IntKind.u32 (IntKind.wrap IntKind.u32 (List.getD p0 (Int.toNat (IntKind.wrap IntKind.i64 (IntKind.wrap IntKind.i64 ((4 : Int) * p1) + (2 : Int)))) (0 : Int)) * (256 : Int)))) (IntKind.wrap IntKind.u32 (List.getD p0 (Int.toNat (IntKind.wrap IntKind.i64 (IntKind.wrap IntKind.i64 ((4 : Int) * p1) + (3 : Int)))) (0 : Int))))))))))) else some (Sp.E_36_0.e0 p2 p3 p4)
def G_36_0 {R : Type} (p0 : List Int) (p1 : Int) (p2 : List Int) (p3 : List Int) (p4 : List Int) (k : Ex → St → Option R) : Option R := Sp.B_36_0 (Sp.L_36_0 FU p0 p1 p2 p3 p4) (fun p2 p3 p4 => k (Ex.exit (0 : Nat)) (X_36_0_0 p2 p3 p4))
def o_36_0 {R : Type} (G : (List Int) → (Int) → (List Int) → (List Int) → (List Int) → (Ex → St → Option R) → Option R) : St → (Ex → St → Option R) → Option R := fun T k => match T.sl.getD 1 .junk, T.sl.getD 2 .junk, T.sl.getD 4 .junk, T.sl.getD 5 .junk, T.sl.getD 6 .junk, T.hp with
  | CV.pure (Ty.slice (Ty.int IntKind.u8)) p0, CV.ptr (0 : Nat) [], CV.ptr (1 : Nat) [], CV.ptr (2 : Nat) [], CV.int IntKind.i64 p1, ((Blk.mem (CV.pure (Ty.arr (8 : Nat) (Ty.int IntKind.u32)) p2)) :: (Blk.mem (CV.pure (Ty.arr (8 : Nat) (Ty.int IntKind.u32)) p3)) :: (Blk.mem (CV.pure (Ty.arr (64 : Nat) (Ty.int IntKind.u32)) p4)) :: []) => gd (shapeOK T 196 [1, 2, 4, 5, 6] (0 : Nat)) (G p0 p1 p2 p3 p4 k)
  | _, _, _, _, _, _ => none
theorem o_36_0_inv {R : Type} {G : (List Int) → (Int) → (List Int) → (List Int) → (List Int) → (Ex → St → Option R) → Option R} {T : St} {k : Ex → St → Option R} {r : R} (h : o_36_0 G T k = some r) : ∃ p0 p1 p2 p3 p4, T = T_36_0 p0 p1 p2 p3 p4 ∧ G p0 p1 p2 p3 p4 k = some r := by
  unfold o_36_0 at h
  split at h
  · obtain ⟨hs, h'⟩ := gd_some h
    refine ⟨_, _, _, _, _, (st_of (asg := [(1, _), (2, _), (4, _), (5, _), (6, _)]) hs ⟨by assumption, by assumption, by assumption, by assumption, by assumption, trivial⟩ (by assumption)).trans ?_, h'⟩
    kernel_rfl
  · cases h
def T_36_1 (p0 : Int) (p1 : List Int) (p2 : List Int) (p3 : List Int) : St := St.mk [CV.junk, CV.junk, CV.ptr (0 : Nat) [], CV.junk, CV.ptr (1 : Nat) [], CV.ptr (2 : Nat) [], CV.junk, CV.int IntKind.i64 p0, CV.junk, CV.junk, CV.junk, CV.junk, CV.junk, CV.junk, CV.junk, CV.junk, CV.junk, CV.junk, CV.junk, CV.junk, CV.junk, CV.junk, CV.junk, CV.junk, CV.junk, CV.junk, CV.junk, CV.junk, CV.junk, CV.junk, CV.junk, CV.junk, CV.junk, CV.junk, CV.junk, CV.junk, CV.junk, CV.junk, CV.junk, CV.junk, CV.junk, CV.junk, CV.junk, CV.junk, CV.junk, CV.junk, CV.junk, CV.junk, CV.junk, CV.junk, CV.junk, CV.junk, CV.junk, CV.junk, CV.junk, CV.junk, CV.junk, CV.junk, CV.junk, CV.junk, CV.junk, CV.junk, CV.junk, CV.junk, CV.junk, CV.junk, CV.junk, CV.junk, CV.junk, CV.junk, CV.junk, CV.junk, CV.junk, CV.junk, CV.junk, CV.junk, CV.junk, CV.junk, CV.junk, CV.junk, CV.junk, CV.junk, CV.junk, CV.junk, CV.junk, CV.junk, CV.junk, CV.junk, CV.junk, CV.junk, CV.junk, CV.junk, CV.junk, CV.junk, CV.junk, CV.junk, CV.junk, CV.junk, CV.junk, CV.junk, CV.junk, CV.junk, CV.junk, CV.junk, CV.junk, CV.junk, CV.junk, CV.junk, CV.junk, CV.junk, CV.junk, CV.junk, CV.junk, CV.junk, CV.junk, CV.junk, CV.junk, CV.junk, CV.junk, CV.junk, CV.junk, CV.junk, CV.junk, CV.junk, CV.junk, CV.junk, CV.junk, CV.junk, CV.junk, CV.junk, CV.junk, CV.junk, CV.junk, CV.junk, CV.junk, CV.junk, CV.junk, CV.junk, CV.junk, CV.junk, CV.junk, CV.junk, CV.junk, CV.junk, CV.junk, CV.junk, CV.junk, CV.junk, CV.junk, CV.junk, CV.junk, CV.junk, CV.junk, CV.junk, CV.junk, CV.junk, CV.junk, CV.junk, CV.junk, CV.junk, CV.junk, CV.junk, CV.junk, CV.junk, CV.junk, CV.junk, CV.junk, CV.junk, CV.junk, CV.junk, CV.junk, CV.junk, CV.junk, CV.junk, CV.junk, CV.junk, CV.junk, CV.junk, CV.junk, CV.junk, CV.junk, CV.junk, CV.junk, CV.junk, CV.junk, CV.junk, CV.junk, CV.junk, CV.junk, CV.junk, CV.junk, CV.junk, CV.junk, CV.junk, CV.junk, CV.junk] [Blk.mem (CV.pure (Ty.arr (8 : Nat) (Ty.int IntKind.u32)) p1), Blk.mem (CV.pure (Ty.arr (8 : Nat) (Ty.int IntKind.u32)) p2), Blk.mem (CV.pure (Ty.arr (64 : Nat) (Ty.int IntKind.u32)) p3)] (0 : Nat)
def X_36_1_0 (p1 : List Int) (p2 : List Int) (p3 : List Int) : St := St.mk [CV.junk, CV.junk, CV.ptr (0 : Nat) [], CV.junk, CV.ptr (1 : Nat) [], CV.ptr (2 : Nat) [], CV.junk, CV.junk, CV.junk, CV.junk, CV.junk, CV.junk, CV.junk, CV.junk, CV.junk, CV.junk, CV.junk, CV.junk, CV.junk, CV.junk, CV.junk, CV.junk, CV.junk, CV.junk, CV.junk, CV.junk, CV.junk, CV.junk, CV.junk, CV.junk, CV.junk, CV.junk, CV.junk, CV.junk, CV.junk, CV.junk, CV.junk, CV.junk, CV.junk, CV.junk, CV.junk, CV.junk, CV.junk, CV.junk, CV.junk, CV.junk, CV.junk, CV.junk, CV.junk, CV.junk, CV.junk, CV.junk, CV.junk, CV.junk, CV.junk, CV.junk, CV.junk, CV.junk, CV.junk, CV.junk, CV.junk, CV.junk, CV.junk, CV.junk, CV.junk, CV.junk, CV.junk, CV.junk, CV.junk, CV.junk, CV.junk, CV.junk, CV.junk, CV.junk, CV.junk, CV.junk, CV.junk, CV.junk, CV.junk, CV.junk, CV.junk, CV.junk, CV.junk, CV.junk, CV.junk, CV.junk, CV.junk, CV.junk, CV.junk, CV.junk, CV.junk, CV.junk, CV.junk, CV.junk, CV.junk, CV.junk, CV.junk, CV.junk, CV.junk, CV.junk, CV.junk, CV.junk, CV.junk, CV.junk, CV.junk, CV.junk, CV.junk, CV.junk, CV.junk, CV.junk, CV.junk, CV.junk, CV.junk, CV.junk, CV.junk, CV.junk, CV.junk, CV.junk, CV.junk, CV.junk, CV.junk, CV.junk, CV.junk, CV.junk, CV.junk, CV.junk, CV.junk, CV.junk, CV.junk, CV.junk, CV.junk, CV.junk, CV.junk, CV.junk, CV.junk, CV.junk, CV.junk, CV.junk, CV.junk, CV.junk, CV.junk, CV.junk, CV.junk, CV.junk, CV.junk, CV.junk, CV.junk, CV.junk, CV.junk, CV.junk, CV.junk, CV.junk, CV.junk, CV.junk, CV.junk, CV.junk, CV.junk, CV.junk, CV.junk, CV.junk, CV.junk, CV.junk, CV.junk, CV.junk, CV.junk, CV.junk, CV.junk, CV.junk, CV.junk, CV.junk, CV.junk, CV.junk, CV.junk, CV.junk, CV.junk, CV.junk, CV.junk, CV.junk, CV.junk, CV.junk, CV.junk, CV.junk, CV.junk, CV.junk, CV.junk, CV.junk, CV.junk, CV.junk, CV.junk, CV.junk, CV.junk, CV.junk, CV.junk, CV.junk, CV.junk, CV.junk] [Blk.mem (CV.pure (Ty.arr (8 : Nat) (Ty.int IntKind.u32)) p1), Blk.mem (CV.pure (Ty.arr (8 : Nat) (Ty.int IntKind.u32)) p2), Blk.mem (CV.pure (Ty.arr (64 : Nat) (Ty.int IntKind.u32)) p3)] (0 : Nat)
inductive Sp.E_36_1 where
  | e0 (p1 : List Int) (p2 : List Int) (p3 : List Int)
def Sp.B_36_1 {R : Type} (r : Option Sp.E_36_1) (k0 : (List Int) → (List Int) → (List Int) → Option R) : Option R := match r with
  | none => none
  | some (.e0 p1 p2 p3) => k0 p1 p2 p3
def Sp.L_36_1 : Nat → (Int) → (List Int) → (List Int) → (List Int) → Option Sp.E_36_1
  | 0, _, _, _, _ => none
  | m + 1, p0, p1, p2, p3 => bif decide (p0 < (64 : Int)) then gd (inB (IntKind.wrap IntKind.i64 (p0 - (15 : Int))) (64 : Nat)) (gd (decide (Int.toNat (IntKind.wrap IntKind.i64 (p0 - (15 : Int))) < (64 : Nat)) && true) (gd (inB (IntKind.wrap IntKind.i64 (p0 - (2 : Int))) (64 : Nat)) (gd (decide (Int.toNat (IntKind.wrap IntKind.i64 (p0 - (2 : Int))) < (64 : Nat)) && true) (gd (Sp.p_50 (List.getD p3 (Int.toNat (IntKind.wrap IntKind.i64 (p0 - (2 : Int)))) (0 : Int)) (17 : Int)) (gd (Sp.p_50 (List.getD p3 (Int.toNat (IntKind.wrap IntKind.i64 (p0 - (2 : Int)))) (0 : Int)) (19 : Int)) (gd (inB (IntKind.wrap IntKind.i64 (p0 - (7 : Int))) (64 : Nat)) (gd (decide (Int.toNat (IntKind.wrap IntKind.i64 (p0 - (7 : Int))) < (64 : Nat)) && true) (gd (Sp.p_50 (List.getD p3 (Int.toNat (IntKind.wrap IntKind.i64 (p0 - (15 : Int)))) (0 : Int)) (7 : Int)) (gd (Sp.p_50 (List.getD p3 (Int.toNat (IntKind.wrap IntKind.i64 (p0 - (15 : Int)))) (0 : Int)) (18 : Int)) (gd (inB (IntKind.wrap IntKind.i64 (p0 - (16 : Int))) (64 : Nat)) (gd (decide (Int.toNat (IntKind.wrap IntKind.i64 (p0 - (16 : Int))) < (64 : Nat)) && true) (gd (inB p0 (64 : Nat)) (gd (decide (Int.toNat p0 < (64 : Nat)) && true) (Sp.L_36_1 m (IntKind.wrap IntKind.i64 (p0 + (1 : Int))) p1 p2 (List.set p3 (Int.toNat p0) (IntKind.wrap IntKind.u32 (IntKind.wrap IntKind.u32 (IntKind.wrap IntKind.u32 (Sp.xorI IntKind.u32 (Sp.xorI IntKind.u32 (Prod.fst (Sp.v_50 (List.getD p3 (Int.toNat (IntKind.wrap IntKind.i64 (p0 - (2 : Int)))) (0 : Int)) (17 : Int))) (Prod.fst (Sp.v_50 (List.getD p3 (Int.toNat (IntKind.wrap IntKind.i64 (p0 - (2 : Int)))) (0 : Int)) (19 : Int)))) (Int.fdiv (List.getD p3 (Int.toNat (IntKind.wrap IntKind.i64 (p0 - (2 : Int)))) (0 : Int)) (1024 : Int)) + List.getD p3 (Int.toNat (IntKind.wrap IntKind.i64 (p0 - (7 : Int)))) (0 : Int)) + Sp.xorI IntKind.u32 (Sp.xorI IntKind.u32 (Prod.fst (Sp.v_50 (List.getD p3 (Int.toNat (IntKind.wrap IntKind.i64 (p0 - (15 : Int)))) (0 : Int)) (7 : Int))) (Prod.fst (Sp.v_50 (List.getD p3 (Int.toNat (IntKind.wrap IntKind.i64 (p0 - (15 : Int)))) (0 : Int)) (18 : Int)))) (Int.fdiv (List.getD p3 (Int.toNat (IntKind.wrap IntKind.i64 (p0 - (15 : Int)))) (0 : Int)) (8 : Int))) + List.getD p3 (Int.toNat (IntKind.wrap IntKind.i64 (p0 - (16 : Int)))) (0 : Int)))))))))))))))))) else some (Sp.E_36_1.e0 p1 p2 p3)
def G_36_1 {R : Type} (p0 : Int) (p1 : List Int) (p2 : List Int) (p3 : List Int) (k : Ex → St → Option R) : Option R := Sp.B_36_1 (Sp.L_36_1 FU p0 p1 p2 p3) (fun p1 p2 p3 => k (Ex.exit (2 : Nat)) (X_36_1_0 p1 p2 p3))
def o_36_1 {R : Type} (G : (Int) → (List Int) → (List Int) → (List Int) → (Ex → St → Option R) → Option R) : St → (Ex → St → Option R) → Option R := fun T k => match T.sl.getD 2 .junk, T.sl.getD 4 .junk, T.sl.getD 5 .junk, T.sl.getD 7 .junk, T.hp with
  | CV.ptr (0 : Nat) [], CV.ptr (1 : Nat) [], CV.ptr (2 : Nat) [], CV.int IntKind.i64 p0, ((Blk.mem (CV.pure (Ty.arr (8 : Nat) (Ty.int IntKind.u32)) p1)) :: (Blk.mem (CV.pure (Ty.arr (8 : Nat) (Ty.int IntKind.u32)) p2)) :: (Blk.mem (CV.pure (Ty.arr (64 : Nat) (Ty.int IntKind.u32)) p3)) :: []) => gd (shapeOK T 196 [2, 4, 5, 7] (0 : Nat)) (G p0 p1 p2 p3 k)
  | _, _, _, _, _ => none
theorem o_36_1_inv {R : Type} {G : (Int) → (List Int) → (List Int) → (List Int) → (Ex → St → Option R) → Option R} {T : St} {k : Ex → St → Option R} {r : R} (h : o_36_1 G T k = some r) : ∃ p0 p1 p2 p3, T = T_36_1 p0 p1 p2 p3 ∧ G p0 p1 p2 p3 k = some r := by
  unfold o_36_1 at h
  split at h
  · obtain ⟨hs, h'⟩ := gd_some h
    refine ⟨_, _, _, _, (st_of (asg := [(2, _), (4, _), (5, _), (7, _)]) hs ⟨by assumption, by assumption, by assumption, by assumption, trivial⟩ (by assumption)).trans ?_, h'⟩
    kernel_rfl
  · cases h
def T_36_2 (p0 : Int) (p1 : List Int) (p2 : List Int) (p3 : List Int) (p4 : List Int) (p5 : List Int) : St := St.mk [CV.junk, CV.junk, CV.ptr (0 : Nat) [], CV.junk, CV.ptr (1 : Nat) [], CV.ptr (2 : Nat) [], CV.junk, CV.junk, CV.junk, CV.junk, CV.ptr (3 : Nat) [], CV.ptr (4 : Nat) [], CV.int IntKind.i64 p0, CV.junk, CV.junk, CV.junk, CV.junk, CV.junk, CV.junk, CV.junk, CV.junk, CV.junk, CV.junk, CV.junk, CV.junk, CV.junk, CV.junk, CV.junk, CV.junk, CV.junk, CV.junk, CV.junk, CV.junk, CV.junk, CV.junk, CV.junk, CV.junk, CV.junk, CV.junk, CV.junk, CV.junk, CV.junk, CV.junk, CV.junk, CV.junk, CV.junk, CV.junk, CV.junk, CV.junk, CV.junk, CV.junk, CV.junk, CV.junk, CV.junk, CV.junk, CV.junk, CV.junk, CV.junk, CV.junk, CV.junk, CV.junk, CV.junk, CV.junk, CV.junk, CV.junk, CV.junk, CV.junk, CV.junk, CV.junk, CV.junk, CV.junk, CV.junk, CV.junk, CV.junk, CV.junk, CV.junk, CV.junk, CV.junk, CV.junk, CV.junk, CV.junk, CV.junk, CV.junk, CV.junk, CV.junk, CV.junk, CV.junk, CV.junk, CV.junk, CV.junk, CV.junk, CV.junk, CV.junk, CV.junk, CV.junk, CV.junk, CV.junk, CV.junk, CV.junk, CV.junk, CV.junk, CV.junk, CV.junk, CV.junk, CV.junk, CV.junk, CV.junk, CV.junk, CV.junk, CV.junk, CV.junk, CV.junk, CV.junk, CV.junk, CV.junk, CV.junk, CV.junk, CV.junk, CV.junk, CV.junk, CV.junk, CV.junk, CV.junk, CV.junk, CV.junk, CV.junk, CV.junk, CV.junk, CV.junk, CV.junk, CV.junk, CV.junk, CV.junk, CV.junk, CV.junk, CV.junk, CV.junk, CV.junk, CV.junk, CV.junk, CV.junk, CV.junk, CV.junk, CV.junk, CV.junk, CV.junk, CV.junk, CV.junk, CV.junk, CV.junk, CV.junk, CV.junk, CV.junk, CV.junk, CV.junk, CV.junk, CV.junk, CV.junk, CV.junk, CV.junk, CV.junk, CV.junk, CV.junk, CV.junk, CV.junk, CV.junk, CV.junk, CV.junk, CV.junk, CV.junk, CV.junk, CV.junk, CV.junk, CV.junk, CV.junk, CV.junk, CV.junk, CV.junk, CV.junk, CV.junk, CV.junk, CV.junk, CV.junk, CV.junk, CV.junk, CV.junk, CV.junk, CV.junk, CV.junk, CV.junk, CV.junk, CV.junk, CV.junk, CV.junk, CV.junk, CV.junk] [Blk.mem (CV.pure (Ty.arr (8 : Nat) (Ty.int IntKind.u32)) p1), Blk.mem (CV.pure (Ty.arr (8 : Nat) (Ty.int IntKind.u32)) p2), Blk.mem (CV.pure (Ty.arr (64 : Nat) (Ty.int IntKind.u32)) p3), Blk.mem (CV.pure (Ty.arr (64 : Nat) (Ty.int IntKind.u32)) p4), Blk.mem (CV.pure (Ty.arr (8 : Nat) (Ty.int IntKind.u32)) p5)] (0 : Nat)
def X_36_2_0 (p1 : List Int) (p2 : List Int) (p5 : List Int) : St := St.mk [CV.junk, CV.junk, CV.ptr (0 : Nat) [], CV.junk, CV.ptr (1 : Nat) [], CV.junk, CV.junk, CV.junk, CV.junk, CV.junk, CV.junk, CV.ptr (2 : Nat) [], CV.junk, CV.junk, CV.junk, CV.junk, CV.junk, CV.junk, CV.junk, CV.junk, CV.junk, CV.junk, CV.junk, CV.junk, CV.junk, CV.junk, CV.junk, CV.junk, CV.junk, CV.junk, CV.junk, CV.junk, CV.junk, CV.junk, CV.junk, CV.junk, CV.junk, CV.junk, CV.junk, CV.junk, CV.junk, CV.junk, CV.junk, CV.junk, CV.junk, CV.junk, CV.junk, CV.junk, CV.junk, CV.junk, CV.junk, CV.junk, CV.junk, CV.junk, CV.junk, CV.junk, CV.junk, CV.junk, CV.junk, CV.junk, CV.junk, CV.junk, CV.junk, CV.junk, CV.junk, CV.junk, CV.junk, CV.junk, CV.junk, CV.junk, CV.junk, CV.junk, CV.junk, CV.junk, CV.junk, CV.junk, CV.junk, CV.junk, CV.junk, CV.junk, CV.junk, CV.junk, CV.junk, CV.junk, CV.junk, CV.junk, CV.junk, CV.junk, CV.junk, CV.junk, CV.junk, CV.junk, CV.junk, CV.junk, CV.junk, CV.junk, CV.junk, CV.junk, CV.junk, CV.junk, CV.junk, CV.junk, CV.junk, CV.junk, CV.junk, CV.junk, CV.junk, CV.junk, CV.junk, CV.junk, CV.junk, CV.junk, CV.junk, CV.junk, CV.junk, CV.junk, CV.junk, CV.junk, CV.junk, CV.junk, CV.junk, CV.junk, CV.junk, CV.junk, CV.junk, CV.junk, CV.junk, CV.junk, CV.junk, CV.junk, CV.junk, CV.junk, CV.junk, CV.junk, CV.junk, CV.junk, CV.junk, CV.junk, CV.junk, CV.junk, CV.junk, CV.junk, CV.junk, CV.junk, CV.junk, CV.junk, CV.junk, CV.junk, CV.junk, CV.junk, CV.junk, CV.junk, CV.junk, CV.junk, CV.junk, CV.junk, CV.junk, CV.junk, CV.junk, CV.junk, CV.junk, CV.junk, CV.junk, CV.junk, CV.junk, CV.junk, CV.junk, CV.junk, CV.junk, CV.junk, CV.junk, CV.junk, CV.junk, CV.junk, CV.junk, CV.junk, CV.junk, CV.junk, CV.junk, CV.junk, CV.junk, CV.junk, CV.junk, CV.junk, CV.junk, CV.junk, CV.junk, CV.junk, CV.junk, CV.junk, CV.junk, CV.junk, CV.junk, CV.junk, CV.junk, CV.junk] [Blk.mem (CV.pure (Ty.arr (8 : Nat) (Ty.int IntKind.u32)) p1), Blk.mem (CV.pure (Ty.arr (8 : Nat) (Ty.int IntKind.u32)) p2), Blk.mem (CV.pure (Ty.arr (8 : Nat) (Ty.int IntKind.u32)) p5)] (0 : Nat)
inductive Sp.E_36_2 where
  | e0 (p1 : List Int) (p2 : List Int) (p5 : List Int)
def Sp.B_36_2 {R : Type} (r : Option Sp.E_36_2) (k0 : (List Int) → (List Int) → (List Int) → Option R) : Option R := match r with
  | none => none
  | some (.e0 p1 p2 p5) => k0 p1 p2 p5
def Sp.L_36_2 : Nat → (Int) → (List Int) → (List Int) → (List Int) → (List Int) → (List Int) → Option Sp.E_36_2
  | 0, _, _, _, _, _, _ => none
  | m + 1, p0, p1, p2, p3, p4, p5 => bif decide (p0 < (64 : Int)) then gd (Sp.p_50 (List.getD p5 (4 : Nat) (0 : Int)) (6 : Int)) (gd (Sp.p_50 (List.getD p5 (4 : Nat) (0 : Int)) (11 : Int)) (gd (Sp.p_50 (List.getD p5 (4 : Nat) (0 : Int)) (25 : Int)) (gd (inB p0 (64 : Nat)) (gd (decide (Int.toNat p0 < (64 : Nat)) && true) (gd (inB p0 (64 : Nat)) (gd (decide (Int.toNat p0 < (64 : Nat)) && true) (gd (Sp.p_50 (List.getD p5 (0 : Nat) (0 : Int)) (2 : Int)) (gd (Sp.p_50 (List.getD p5 (0 : Nat) (0 : Int)) (13 : Int)) (gd (Sp.p_50 (List.getD p5 (0 : Nat) (0 : Int)) (22 : Int)) (Sp.L_36_2 m (IntKind.wrap IntKind.i64 (p0 + (1 : Int))) p1 p2 p3 p4 [IntKind.wrap IntKind.u32 (IntKind.wrap IntKind.u32 (IntKind.wrap IntKind.u32 (IntKind.wrap IntKind.u32 (IntKind.wrap IntKind.u32 (List.getD p5 (7 : Nat) (0 : Int) + Sp.xorI IntKind.u32 (Sp.xorI IntKind.u32 (Prod.fst (Sp.v_50 (List.getD p5 (4 : Nat) (0 : Int)) (6 : Int))) (Prod.fst (Sp.v_50 (List.getD p5 (4 : Nat) (0 : Int)) (11 : Int)))) (Prod.fst (Sp.v_50 (List.getD p5 (4 : Nat) (0 : Int)) (25 : Int)))) + Sp.xorI IntKind.u32 (Sp.andI IntKind.u32 (List.getD p5 (4 : Nat) (0 : Int)) (List.getD p5 (5 : Nat) (0 : Int))) (Sp.andI IntKind.u32 (Sp.xorI IntKind.u32 (4294967295 : Int) (List.getD p5 (4 : Nat) (0 : Int))) (List.getD p5 (6 : Nat) (0 : Int)))) + List.getD p4 (Int.toNat p0) (0 : Int)) + List.getD p3 (Int.toNat p0) (0 : Int)) + IntKind.wrap IntKind.u32 (Sp.xorI IntKind.u32 (Sp.xorI IntKind.u32 (Prod.fst (Sp.v_50 (List.getD p5 (0 : Nat) (0 : Int)) (2 : Int))) (Prod.fst (Sp.v_50 (List.getD p5 (0 : Nat) (0 : Int)) (13 : Int)))) (Prod.fst (Sp.v_50 (List.getD p5 (0 : Nat) (0 : Int)) (22 : Int))) + Sp.xorI IntKind.u32 (Sp.xorI IntKind.u32 (Sp.andI IntKind.u32 (List.getD p5 (0 : Nat) (0 : Int)) (List.getD p5 (1 : Nat) (0 : Int))) (Sp.andI IntKind.u32 (List.getD p5 (0 : Nat) (0 : Int)) (List.getD p5 (2 : Nat) (0 : Int)))) (Sp.andI IntKind.u32 (List.getD p5 (1 : Nat) (0 : Int)) (List.getD p5 (2 : Nat) (0 : Int))))), List.getD p5 (0 : Nat) (0 : Int), List.getD p5 (1 : Nat) (0 : Int), List.getD p5 (2 : Nat) (0 : Int), IntKind.wrap IntKind.u32 (List.getD p5 (3 : Nat) (0 : Int) + IntKind.wrap IntKind.u32 (IntKind.wrap IntKind.u32 (IntKind.wrap IntKind.u32 (IntKind.wrap IntKind.u32 (List.getD p5 (7 : Nat) (0 : Int) + Sp.xorI IntKind.u32 (Sp.xorI IntKind.u32 (Prod.fst (Sp.v_50 (List.getD p5 (4 : Nat) (0 : Int)) (6 : Int))) (Prod.fst (Sp.v_50 (List.getD p5 (4 : Nat) (0 : Int)) (11 : Int)))) (Prod.fst (Sp.v_50 (List.getD p5 (4 : Nat) (0 : Int)) (25 : Int)))) + Sp.xorI IntKind.u32 (Sp.andI IntKind.u32 (List.getD p5 (4 : Nat) (0 : Int)) (List.getD p5 (5 : Nat) (0 : Int))) (Sp.andI IntKind.u32 (Sp.xorI IntKind.u32 (4294967295 : Int) (List.getD p5 (4 : Nat) (0 : Int))) (List.getD p5 (6 : Nat) (0 : Int)))) + List.getD p4 (Int.toNat p0) (0 : Int)) + List.getD p3 (Int.toNat p0) (0 : Int))), List.getD p5 (4 : Nat) (0 : Int), List.getD p5 (5 : Nat) (0 : Int), List.getD p5 (6 : Nat) (0 : Int)])))))))))) else some (Sp.E_36_2.e0 p1 p2 p5)
def G_36_2 {R : Type} (p0 : Int) (p1 : List Int) (p2 : List Int) (p3 : List Int) (p4 : List Int) (p5 : List Int) (k : Ex → St → Option R) : Option R := Sp.B_36_2 (Sp.L_36_2 FU p0 p1 p2 p3 p4 p5) (fun p1 p2 p5 => k (Ex.exit (4 : Nat)) (X_36_2_0 p1 p2 p5))
def o_36_2 {R : Type} (G : (Int) → (List Int) → (List Int) → (List Int) → (List Int) → (List Int) → (Ex → St → Option R) → Option R) : St → (Ex → St → Option R) → Option R := fun T k => match T.sl.getD 2 .junk, T.sl.getD 4 .junk, T.sl.getD 5 .junk, T.sl.getD 10 .junk, T.sl.getD 11 .junk, T.sl.getD 12 .junk, T.hp with
  | CV.ptr (0 : Nat) [], CV.ptr (1 : Nat) [], CV.ptr (2 : Nat) [], CV.ptr (3 : Nat) [], CV.ptr (4 : Nat) [], CV.int IntKind.i64 p0, ((Blk.mem (CV.pure (Ty.arr (8 : Nat) (Ty.int IntKind.u32)) p1)) :: (Blk.mem (CV.pure (Ty.arr (8 : Nat) (Ty.int IntKind.u32)) p2)) :: (Blk.mem (CV.pure (Ty.arr (64 : Nat) (Ty.int IntKind.u32)) p3)) :: (Blk.mem (CV.pure (Ty.arr (64 : Nat) (Ty.int IntKind.u32)) p4)) :: (Blk.mem (CV.pure (Ty.arr (8 : Nat) (Ty.int IntKind.u32)) p5)) :: []) => gd (shapeOK T 196 [2, 4, 5, 10, 11, 12] (0 : Nat)) (G p0 p1 p2 p3 p4 p5 k)
  | _, _, _, _, _, _, _ => none
theorem o_36_2_inv {R : Type} {G : (Int) → (List Int) → (List Int) → (List Int) → (List Int) → (List Int) → (Ex → St → Option R) → Option R} {T : St} {k : Ex → St → Option R} {r : R} (h : o_36_2 G T k = some r) : ∃ p0 p1 p2 p3 p4 p5, T = T_36_2 p0 p1 p2 p3 p4 p5 ∧ G p0 p1 p2 p3 p4 p5 k = some r := by
  unfold o_36_2 at h
  split at h
  · obtain ⟨hs, h'⟩ := gd_some h
    refine ⟨_, _, _, _, _, _, (st_of (asg := [(2, _), (4, _), (5, _), (10, _), (11, _), (12, _)]) hs ⟨by assumption, by assumption, by assumption, by assumption, by assumption, by assumption, trivial⟩ (by assumption)).trans ?_, h'⟩
    kernel_rfl
  · cases h
def T_36_3 (p0 : Int) (p1 : List Int) (p2 : List Int) (p3 : List Int) : St := St.mk [CV.junk, CV.junk, CV.ptr (0 : Nat) [], CV.junk, CV.ptr (1 : Nat) [], CV.junk, CV.junk, CV.junk, CV.junk, CV.junk, CV.junk, CV.ptr (2 : Nat) [], CV.junk, CV.junk, CV.junk, CV.junk, CV.junk, CV.junk, CV.junk, CV.junk, CV.junk, CV.int IntKind.i64 p0, CV.junk, CV.junk, CV.junk, CV.junk, CV.junk, CV.junk, CV.junk, CV.junk, CV.junk, CV.junk, CV.junk, CV.junk, CV.junk, CV.junk, CV.junk, CV.junk, CV.junk, CV.junk, CV.junk, CV.junk, CV.junk, CV.junk, CV.junk, CV.junk, CV.junk, CV.junk, CV.junk, CV.junk, CV.junk, CV.junk, CV.junk, CV.junk, CV.junk, CV.junk, CV.junk, CV.junk, CV.junk, CV.junk, CV.junk, CV.junk, CV.junk, CV.junk, CV.junk, CV.junk, CV.junk, CV.junk, CV.junk, CV.junk, CV.junk, CV.junk, CV.junk, CV.junk, CV.junk, CV.junk, CV.junk, CV.junk, CV.junk, CV.junk, CV.junk, CV.junk, CV.junk, CV.junk, CV.junk, CV.junk, CV.junk, CV.junk, CV.junk, CV.junk, CV.junk, CV.junk, CV.junk, CV.junk, CV.junk, CV.junk, CV.junk, CV.junk, CV.junk, CV.junk, CV.junk, CV.junk, CV.junk, CV.junk, CV.junk, CV.junk, CV.junk, CV.junk, CV.junk, CV.junk, CV.junk, CV.junk, CV.junk, CV.junk, CV.junk, CV.junk, CV.junk, CV.junk, CV.junk, CV.junk, CV.junk, CV.junk, CV.junk, CV.junk, CV.junk, CV.junk, CV.junk, CV.junk, CV.junk, CV.junk, CV.junk, CV.junk, CV.junk, CV.junk, CV.junk, CV.junk, CV.junk, CV.junk, CV.junk, CV.junk, CV.junk, CV.junk, CV.junk, CV.junk, CV.junk, CV.junk, CV.junk, CV.junk, CV.junk, CV.junk, CV.junk, CV.junk, CV.junk, CV.junk, CV.junk, CV.junk, CV.junk, CV.junk, CV.junk, CV.junk, CV.junk, CV.junk, CV.junk, CV.junk, CV.junk, CV.junk, CV.junk, CV.junk, CV.junk, CV.junk, CV.junk, CV.junk, CV.junk, CV.junk, CV.junk, CV.junk, CV.junk, CV.junk, CV.junk, CV.junk, CV.junk, CV.junk, CV.junk, CV.junk, CV.junk, CV.junk, CV.junk, CV.junk, CV.junk, CV.junk, CV.junk, CV.junk, CV.junk, CV.junk, CV.junk, CV.junk] [Blk.mem (CV.pure (Ty.arr (8 : Nat) (Ty.int IntKind.u32)) p1), Blk.mem (CV.pure (Ty.arr (8 : Nat) (Ty.int IntKind.u32)) p2), Blk.mem (CV.pure (Ty.arr (8 : Nat) (Ty.int IntKind.u32)) p3)] (0 : Nat)
def X_36_3_0 (p1 : List Int) (p2 : List Int) : St := St.mk [CV.junk, CV.junk, CV.ptr (0 : Nat) [], CV.junk, CV.ptr (1 : Nat) [], CV.junk, CV.junk, CV.junk, CV.junk, CV.junk, CV.junk, CV.junk, CV.junk, CV.junk, CV.junk, CV.junk, CV.junk, CV.junk, CV.junk, CV.junk, CV.junk, CV.junk, CV.junk, CV.junk, CV.junk, CV.junk, CV.junk, CV.junk, CV.junk, CV.junk, CV.junk, CV.junk, CV.junk, CV.junk, CV.junk, CV.junk, CV.junk, CV.junk, CV.junk, CV.junk, CV.junk, CV.junk, CV.junk, CV.junk, CV.junk, CV.junk, CV.junk, CV.junk, CV.junk, CV.junk, CV.junk, CV.junk, CV.junk, CV.junk, CV.junk, CV.junk, CV.junk, CV.junk, CV.junk, CV.junk, CV.junk, CV.junk, CV.junk, CV.junk, CV.junk, CV.junk, CV.junk, CV.junk, CV.junk, CV.junk, CV.junk, CV.junk, CV.junk, CV.junk, CV.junk, CV.junk, CV.junk, CV.junk, CV.junk, CV.junk, CV.junk, CV.junk, CV.junk, CV.junk, CV.junk, CV.junk, CV.junk, CV.junk, CV.junk, CV.junk, CV.junk, CV.junk, CV.junk, CV.junk, CV.junk, CV.junk, CV.junk, CV.junk, CV.junk, CV.junk, CV.junk, CV.junk, CV.junk, CV.junk, CV.junk, CV.junk, CV.junk, CV.junk, CV.junk, CV.junk, CV.junk, CV.junk, CV.junk, CV.junk, CV.junk, CV.junk, CV.junk, CV.junk, CV.junk, CV.junk, CV.junk, CV.junk, CV.junk, CV.junk, CV.junk, CV.junk, CV.junk, CV.junk, CV.junk, CV.junk, CV.junk, CV.junk, CV.junk, CV.junk, CV.junk, CV.junk, CV.junk, CV.junk, CV.junk, CV.junk, CV.junk, CV.junk, CV.junk, CV.junk, CV.junk, CV.junk, CV.junk, CV.junk, CV.junk, CV.junk, CV.junk, CV.junk, CV.junk, CV.junk, CV.junk, CV.junk, CV.junk, CV.junk, CV.junk, CV.junk, CV.junk, CV.junk, CV.junk, CV.junk, CV.junk, CV.junk, CV.junk, CV.junk, CV.junk, CV.junk, CV.junk, CV.junk, CV.junk, CV.junk, CV.junk, CV.junk, CV.junk, CV.junk, CV.junk, CV.junk, CV.junk, CV.junk, CV.junk, CV.junk, CV.junk, CV.junk, CV.junk, CV.junk, CV.junk, CV.junk, CV.junk, CV.junk, CV.junk, CV.junk, CV.junk, CV.junk] [Blk.mem (CV.pure (Ty.arr (8 : Nat) (Ty.int IntKind.u32)) p1), Blk.mem (CV.pure (Ty.arr (8 : Nat) (Ty.int IntKind.u32)) p2)] (0 : Nat)
inductive Sp.E_36_3 where
  | e0 (p1 : List Int) (p2 : List Int)
def Sp.B_36_3 {R : Type} (r : Option Sp.E_36_3) (k0 : (List Int) → (List Int) → Option R) : Option R := match r with
  | none => none
  | some (.e0 p1 p2) => k0 p1 p2
def Sp.L_36_3 : Nat → (Int) → (List Int) → (List Int) → (List Int) → Option Sp.E_36_3
  | 0, _, _, _, _ => none
  | m + 1, p0, p1, p2, p3 => bif decide (p0 < (8 : Int)) then gd (inB p0 (8 : Nat)) (gd (decide (Int.toNat p0 < (8 : Nat)) && true) (gd (inB p0 (8 : Nat)) (gd (decide (Int.toNat p0 < (8 : Nat)) && true) (gd (inB p0 (8 : Nat)) (gd (decide (Int.toNat p0 < (8 : Nat)) && true) (Sp.L_36_3 m (IntKind.wrap IntKind.i64 (p0 + (1 : Int))) (List.set p1 (Int.toNat p0) (IntKind.wrap IntKind.u32 (List.getD p1 (Int.toNat p0) (0 : Int) + List.getD p3 (Int.toNat p0) (0 : Int)))) p2 p3)))))) else some (Sp.E_36_3.e0 p1 p2)
def G_36_3 {R : Type} (p0 : Int) (p1 : List Int) (p2 : List Int) (p3 : List Int) (k : Ex → St → Option R) : Option R := Sp.B_36_3 (Sp.L_36_3 FU p0 p1 p2 p3) (fun p1 p2 => k (Ex.exit (6 : Nat)) (X_36_3_0 p1 p2))
def o_36_3 {R : Type} (G : (Int) → (List Int) → (List Int) → (List Int) → (Ex → St → Option R) → Option R) : St → (Ex → St → Option R) → Option R := fun T k => match T.sl.getD 2 .junk, T.sl.getD 4 .junk, T.sl.getD 11 .junk, T.sl.getD 21 .junk, T.hp with
  | CV.ptr (0 : Nat) [], CV.ptr (1 : Nat) [], CV.ptr (2 : Nat) [], CV.int IntKind.i64 p0, ((Blk.mem (CV.pure (Ty.arr (8 : Nat) (Ty.int IntKind.u32)) p1)) :: (Blk.mem (CV.pure (Ty.arr (8 : Nat) (Ty.int IntKind.u32)) p2)) :: (Blk.mem (CV.pure (Ty.arr (8 : Nat) (Ty.int IntKind.u32)) p3)) :: []) => gd (shapeOK T 196 [2, 4, 11, 21] (0 : Nat)) (G p0 p1 p2 p3 k)
  | _, _, _, _, _ => none
theorem o_36_3_inv {R : Type} {G : (Int) → (List Int) → (List Int) → (List Int) → (Ex → St → Option R) → Option R} {T : St} {k : Ex → St → Option R} {r : R} (h : o_36_3 G T k = some r) : ∃ p0 p1 p2 p3, T = T_36_3 p0 p1 p2 p3 ∧ G p0 p1 p2 p3 k = some r := by
  unfold o_36_3 at h
  split at h
  · obtain ⟨hs, h'⟩ := gd_some h
    refine ⟨_, _, _, _, (st_of (asg := [(2, _), (4, _), (11, _), (21, _)]) hs ⟨by assumption, by assumption, by assumption, by assumption, trivial⟩ (by assumption)).trans ?_, h'⟩
    kernel_rfl
  · cases h
def O_36_36_0 {R : Type} : St → (Ex → St → Option R) → Option R := fun T k => o_36_0 G_36_0 T k
def O_36_36_1 {R : Type} : St → (Ex → St → Option R) → Option R := fun T k => o_36_1 G_36_1 T k
def O_36_36_2 {R : Type} : St → (Ex → St → Option R) → Option R := fun T k => o_36_2 G_36_2 T k
def O_36_36_3 {R : Type} : St → (Ex → St → Option R) → Option R := fun T k => o_36_3 G_36_3 T k
theorem body_36_0 {R : Type} (K0 : St → Option R) (K1 : Ex → St → Option R) (p0 : List Int) (p1 : Int) (p2 : List Int) (p3 : List Int) (p4 : List Int) : evLB (evCodeL sm_36 FU (ovr noO (evFn sm_36 fns FU 0)) .nil ir36_b0) (St.norm ir36_v0) (T_36_0 p0 p1 p2 p3 p4) K0 K1 =
  bif decide (p1 < (16 : Int)) then gd (inB (IntKind.wrap IntKind.i64 ((4 : Int) * p1)) (List.length p0)) (gd (inB (IntKind.wrap IntKind.i64 (IntKind.wrap IntKind.i64 ((4 : Int) * p1) + (1 : Int))) (List.length p0)) (gd (inB (IntKind.wrap IntKind.i64 (IntKind.wrap IntKind.i64 ((4 : Int) * p1) + (2 : Int))) (List.length p0)) (gd (inB (IntKind.wrap IntKind.i64 (IntKind.wrap IntKind.i64 ((4 : Int) * p1) + (3 : Int))) (List.length p0)) (gd (inB p1 (64 : Nat)) (gd (decide (Int.toNat p1 < (64 : Nat)) && true) (K0 (T_36_0 p0 (IntKind.wrap IntKind.i64 (p1 + (1 : Int))) p2 p3 (List.set p4 (Int.toNat p1) (Sp.orI IntKind.u32 (Sp.orI IntKind.u32 (Sp.orI IntKind.u32 (IntKind.wrap IntKind.u32 (IntKind.wrap IntKind.u32 (List.getD p0 (Int.toNat (IntKind.wrap IntKind.i64 ((4 : Int) * p1))) (0 : Int)) * (16777216 : Int))) (IntKind.wrap IntKind.u32 (IntKind.wrap IntKind.u32 (List.getD p0 (Int.toNat (IntKind.wrap IntKind.i64 (IntKind.wrap IntKind.i64 ((4 : Int) * p1) + (1 : Int)))) (0 : Int)) * (65536 : Int)))) (IntKind.wrap IntKind.u32 (IntKind.wrap IntKind.u32 (List.getD p0 (Int.toNat (IntKind.wrap IntKind.i64 (IntKind.wrap IntKind.i64 ((4 : Int) * p1) + (2 : Int)))) (0 : Int)) * (256 : Int)))) (IntKind.wrap IntKind.u32 (List.getD p0 (Int.toNat (IntKind.wrap IntKind.i64 (IntKind.wrap IntKind.i64 ((4 : Int) * p1) + (3 : Int)))) (0 : Int)))))))))))) else K1 (Ex.exit (0 : Nat)) (X_36_0_0 p2 p3 p4) := by kernel_rfl
theorem Bgd_36_0 {R : Type} {c : Bool} {x : Option R} {y : Option Sp.E_36_0} {k0 : (List Int) → (List Int) → (List Int) → Option R} (h : x = Sp.B_36_0 y k0) : gd c x = Sp.B_36_0 (gd c y) k0 := by cases c; rfl; exact h
theorem Bcond_36_0 {R : Type} {c : Bool} {x x' : Option R} {y y' : Option Sp.E_36_0} {k0 : (List Int) → (List Int) → (List Int) → Option R} (h : x = Sp.B_36_0 y k0) (h' : x' = Sp.B_36_0 y' k0) : (bif c then x else x') = Sp.B_36_0 (bif c then y else y') k0 := by cases c; exact h'; exact h
theorem loop_36_0 {R : Type} (k : Ex → St → Option R) : ∀ (m : Nat) (p0 : List Int) (p1 : Int) (p2 : List Int) (p3 : List Int) (p4 : List Int), evLoopN (evCodeL sm_36 FU (ovr noO (evFn sm_36 fns FU 0)) .nil ir36_b0) (St.norm ir36_v0) m (T_36_0 p0 p1 p2 p3 p4) k = Sp.B_36_0 (Sp.L_36_0 m p0 p1 p2 p3 p4) (fun p2 p3 p4 => k (Ex.exit (0 : Nat)) (X_36_0_0 p2 p3 p4))
  | 0, _, _, _, _, _ => rfl
  | m + 1, p0, p1, p2, p3, p4 => by
    rw [evLoopN_succ, body_36_0, Sp.L_36_0]
    repeat' first | apply Bgd_36_0 | apply Bcond_36_0 | exact loop_36_0 k m _ _ _ _ _ | rfl
theorem ok_36_0 {R : Type} (T : St) (k : Ex → St → Option R) (r : R) (h0 : o_36_0 G_36_0 T k = some r) : evLoopN (evCode sm_36 FU (evFn sm_36 fns FU 0) ir36_b0) (St.norm ir36_v0) FU T k = some r := by
  obtain ⟨p0, p1, p2, p3, p4, rfl, h⟩ := o_36_0_inv h0
  refine evLoopN_L (t := .nil) noO_ok trivial _ _ _ _ ?_
  rw [loop_36_0]
  exact h
theorem OK_36_36_0 {R : Type} (T : St) (k : Ex → St → Option R) (r : R) (h : O_36_36_0 T k = some r) : evLoopN (evCode sm_36 FU (evFn sm_36 fns FU 0) ir36_b0) (St.norm ir36_v0) FU T k = some r := ok_36_0 T k r h
theorem body_36_1 {R : Type} (K0 : St → Option R) (K1 : Ex → St → Option R) (p0 : Int) (p1 : List Int) (p2 : List Int) (p3 : List Int) : evLB (evCodeL sm_36 FU (ovr noO (evFn sm_36 fns FU 0)) .nil ir36_b1) (St.norm ir36_v1) (T_36_1 p0 p1 p2 p3) K0 K1 =
  bif decide (p0 < (64 : Int)) then gd (inB (IntKind.wrap IntKind.i64 (p0 - (15 : Int))) (64 : Nat)) (gd (decide (Int.toNat (IntKind.wrap IntKind.i64 (p0 - (15 : Int))) < (64 : Nat)) && true) (gd (inB (IntKind.wrap IntKind.i64 (p0 - (2 : Int))) (64 : Nat)) (gd (decide (Int.toNat (IntKind.wrap IntKind.i64 (p0 - (2 : Int))) < (64 : Nat)) && true) (gd (Sp.p_50 (List.getD p3 (Int.toNat (IntKind.wrap IntKind.i64 (p0 - (2 : Int)))) (0 : Int)) (17 : Int)) (gd (Sp.p_50 (List.getD p3 (Int.toNat (IntKind.wrap IntKind.i64 (p0 - (2 : Int)))) (0 : Int)) (19 : Int)) (gd (inB (IntKind.wrap IntKind.i64 (p0 - (7 : Int))) (64 : Nat)) (gd (decide (Int.toNat (IntKind.wrap IntKind.i64 (p0 - (7 : Int))) < (64 : Nat)) && true) (gd (Sp.p_50 (List.getD p3 (Int.toNat (IntKind.wrap IntKind.i64 (p0 - (15 : Int)))) (0 : Int)) (7 : Int)) (gd (Sp.p_50 (List.getD p3 (Int.toNat (IntKind.wrap IntKind.i64 (p0 - (15 : Int)))) (0 : Int)) (18 : Int)) (gd (inB (IntKind.wrap IntKind.i64 (p0 - (16 : Int))) (64 : Nat)) (gd (decide (Int.toNat (IntKind.wrap IntKind.i64 (p0 - (16 : Int))) < (64 : Nat)) && true) (gd (inB p0 (64 : Nat)) (gd (decide (Int.toNat p0 < (64 : Nat)) && true) (K0 (T_36_1 (IntKind.wrap IntKind.i64 (p0 + (1 : Int))) p1 p2 (List.set p3 (Int.toNat p0) (IntKind.wrap IntKind.u32 (IntKind.wrap IntKind.u32 (IntKind.wrap IntKind.u32 (Sp.xorI IntKind.u32 (Sp.xorI IntKind.u32 (Prod.fst (Sp.v_50 (List.getD p3 (Int.toNat (IntKind.wrap IntKind.i64 (p0 - (2 : Int)))) (0 : Int)) (17 : Int))) (Prod.fst (Sp.v_50 (List.getD p3 (Int.toNat (IntKind.wrap IntKind.i64 (p0 - (2 : Int)))) (0 : Int)) (19 : Int)))) (Int.fdiv (List.getD p3 (Int.toNat (IntKind.wrap IntKind.i64 (p0 - (2 : Int)))) (0 : Int)) (1024 : Int)) + List.getD p3 (Int.toNat (IntKind.wrap IntKind.i64 (p0 - (7 : Int)))) (0 : Int)) + Sp.xorI IntKind.u32 (Sp.xorI IntKind.u32 (Prod.fst (Sp.v_50 (List.getD p3 (Int.toNat (IntKind.wrap IntKind.i64 (p0 - (15 : Int)))) (0 : Int)) (7 : Int))) (Prod.fst (Sp.v_50 (List.getD p3 (Int.toNat (IntKind.wrap IntKind.i64 (p0 - (15 : Int)))) (0 : Int)) (18 : Int)))) (Int.fdiv (List.getD p3 (Int.toNat (IntKind.wrap IntKind.i64 (p0 - (15 : Int)))) (0 : Int)) (8 : Int))) + List.getD p3 (Int.toNat (IntKind.wrap IntKind.i64 (p0 - (16 : Int)))) (0 : Int))))))))))))))))))) else K1 (Ex.exit (2 : Nat)) (X_36_1_0 p1 p2 p3) := by kernel_rfl
theorem Bgd_36_1 {R : Type} {c : Bool} {x : Option R} {y : Option Sp.E_36_1} {k0 : (List Int) → (List Int) → (List Int) → Option R} (h : x = Sp.B_36_1 y k0) : gd c x = Sp.B_36_1 (gd c y) k0 := by cases c; rfl; exact h
theorem Bcond_36_1 {R : Type} {c : Bool} {x x' : Option R} {y y' : Option Sp.E_36_1} {k0 : (List Int) → (List Int) → (List Int) → Option R} (h : x = Sp.B_36_1 y k0) (h' : x' = Sp.B_36_1 y' k0) : (bif c then x else x') = Sp.B_36_1 (bif c then y else y') k0 := by cases c; exact h'; exact h
theorem loop_36_1 {R : Type} (k : Ex → St → Option R) : ∀ (m : Nat) (p0 : Int) (p1 : List Int) (p2 : List Int) (p3 : List Int), evLoopN (evCodeL sm_36 FU (ovr noO (evFn sm_36 fns FU 0)) .nil ir36_b1) (St.norm ir36_v1) m (T_36_1 p0 p1 p2 p3) k = Sp.B_36_1 (Sp.L_36_1 m p0 p1 p2 p3) (fun p1 p2 p3 => k (Ex.exit (2 : Nat)) (X_36_1_0 p1 p2 p3))
  | 0, _, _, _, _ => rfl
  | m + 1, p0, p1, p2, p3 => by
    rw [evLoopN_succ, body_36_1, Sp.L_36_1]
    repeat' first | apply Bgd_36_1 | apply Bcond_36_1 | exact loop_36_1 k m _ _ _ _ | rfl
theorem ok_36_1 {R : Type} (T : St) (k : Ex → St → Option R) (r : R) (h0 : o_36_1 G_36_1 T k = some r) : evLoopN (evCode sm_36 FU (evFn sm_36 fns FU 0) ir36_b1) (St.norm ir36_v1) FU T k = some r := by
  obtain ⟨p0, p1, p2, p3, rfl, h⟩ := o_36_1_inv h0
  refine evLoopN_L (t := .nil) noO_ok trivial _ _ _ _ ?_
  rw [loop_36_1]
  exact h
theorem OK_36_36_1 {R : Type} (T : St) (k : Ex → St → Option R) (r : R) (h : O_36_36_1 T k = some r) : evLoopN (evCode sm_36 FU (evFn sm_36 fns FU 0) ir36_b1) (St.norm ir36_v1) FU T k = some r := ok_36_1 T k r h
theorem body_36_2 {R : Type} (K0 : St → Option R) (K1 : Ex → St → Option R) (p0 : Int) (p1 : List Int) (p2 : List Int) (p3 : List Int) (p4 : List Int) (p5 : List Int) : evLB (evCodeL sm_36 FU (ovr noO (evFn sm_36 fns FU 0)) .nil ir36_b2) (St.norm ir36_v2) (T_36_2 p0 p1 p2 p3 p4 p5) K0 K1 =
  bif decide (p0 < (64 : Int)) then gd (Sp.p_50 (List.getD p5 (4 : Nat) (0 : Int)) (6 : Int)) (gd (Sp.p_50 (List.getD p5 (4 : Nat) (0 : Int)) (11 : Int)) (gd (Sp.p_50 (List.getD p5 (4 : Nat) (0 : Int)) (25 : Int)) (gd (inB p0 (64 : Nat)) (gd (decide (Int.toNat p0 < (64 : Nat)) && true) (gd (inB p0 (64 : Nat)) (gd (decide (Int.toNat p0 < (64 : Nat)) && true) (gd (Sp.p_50 (List.getD p5 (0 : Nat) (0 : Int)) (2 : Int)) (gd (Sp.p_50 (List.getD p5 (0 : Nat) (0 : Int)) (13 : Int)) (gd (Sp.p_50 (List.getD p5 (0 : Nat) (0 : Int)) (22 : Int)) (K0 (T_36_2 (IntKind.wrap IntKind.i64 (p0 + (1 : Int))) p1 p2 p3 p4 [IntKind.wrap IntKind.u32 (IntKind.wrap IntKind.u32 (IntKind.wrap IntKind.u32 (IntKind.wrap IntKind.u32 (IntKind.wrap IntKind.u32 (List.getD p5 (7 : Nat) (0 : Int) + Sp.xorI IntKind.u32 (Sp.xorI IntKind.u32 (Prod.fst (Sp.v_50 (List.getD p5 (4 : Nat) (0 : Int)) (6 : Int))) (Prod.fst (Sp.v_50 (List.getD p5 (4 : Nat) (0 : Int)) (11 : Int)))) (Prod.fst (Sp.v_50 (List.getD p5 (4 : Nat) (0 : Int)) (25 : Int)))) + Sp.xorI IntKind.u32 (Sp.andI IntKind.u32 (List.getD p5 (4 : Nat) (0 : Int)) (List.getD p5 (5 : Nat) (0 : Int))) (Sp.andI IntKind.u32 (Sp.xorI IntKind.u32 (4294967295 : Int) (List.getD p5 (4 : Nat) (0 : Int))) (List.getD p5 (6 : Nat) (0 : Int)))) + List.getD p4 (Int.toNat p0) (0 : Int)) + List.getD p3 (Int.toNat p0) (0 : Int)) + IntKind.wrap IntKind.u32 (Sp.xorI IntKind.u32 (Sp.xorI IntKind.u32 (Prod.fst (Sp.v_50 (List.getD p5 (0 : Nat) (0 : Int)) (2 : Int))) (Prod.fst (Sp.v_50 (List.getD p5 (0 : Nat) (0 : Int)) (13 : Int)))) (Prod.fst (Sp.v_50 (List.getD p5 (0 : Nat) (0 : Int)) (22 : Int))) + Sp.xorI IntKind.u32 (Sp.xorI IntKind.u32 (Sp.andI IntKind.u32 (List.getD p5 (0 : Nat) (0 : Int)) (List.getD p5 (1 : Nat) (0 : Int))) (Sp.andI IntKind.u32 (List.getD p5 (0 : Nat) (0 : Int)) (List.getD p5 (2 : Nat) (0 : Int)))) (Sp.andI IntKind.u32 (List.getD p5 (1 : Nat) (0 : Int)) (List.getD p5 (2 : Nat) (0 : Int))))), List.getD p5 (0 : Nat) (0 : Int), List.getD p5 (1 : Nat) (0 : Int), List.getD p5 (2 : Nat) (0 : Int), IntKind.wrap IntKind.u32 (List.getD p5 (3 : Nat) (0 : Int) + IntKind.wrap IntKind.u32 (IntKind.wrap IntKind.u32 (IntKind.wrap IntKind.u32 (IntKind.wrap IntKind.u32 (List.getD p5 (7 : Nat) (0 : Int) + Sp.xorI IntKind.u32 (Sp.xorI IntKind.u32 (Prod.fst (Sp.v_50 (List.getD p5 (4 : Nat) (0 : Int)) (6 : Int))) (Prod.fst (Sp.v_50 (List.getD p5 (4 : Nat) (0 : Int)) (11 : Int)))) (Prod.fst (Sp.v_50 (List.getD p5 (4 : Nat) (0 : Int)) (25 : Int)))) + Sp.xorI IntKind.u32 (Sp.andI IntKind.u32 (List.getD p5 (4 : Nat) (0 : Int)) (List.getD p5 (5 : Nat) (0 : Int))) (Sp.andI IntKind.u32 (Sp.xorI IntKind.u32 (4294967295 : Int) (List.getD p5 (4 : Nat) (0 : Int))) (List.getD p5 (6 : Nat) (0 : Int)))) + List.getD p4 (Int.toNat p0) (0 : Int)) + List.getD p3 (Int.toNat p0) (0 : Int))), List.getD p5 (4 : Nat) (0 : Int), List.getD p5 (5 : Nat) (0 : Int), List.getD p5 (6 : Nat) (0 : Int)]))))))))))) else K1 (Ex.exit (4 : Nat)) (X_36_2_0 p1 p2 p5) := by kernel_rfl
theorem Bgd_36_2 {R : Type} {c : Bool} {x : Option R} {y : Option Sp.E_36_2} {k0 : (List Int) → (List Int) → (List Int) → Option R} (h : x = Sp.B_36_2 y k0) : gd c x = Sp.B_36_2 (gd c y) k0 := by cases c; rfl; exact h
theorem Bcond_36_2 {R : Type} {c : Bool} {x x' : Option R} {y y' : Option Sp.E_36_2} {k0 : (List Int) → (List Int) → (List Int) → Option R} (h : x = Sp.B_36_2 y k0) (h' : x' = Sp.B_36_2 y' k0) : (bif c then x else x') = Sp.B_36_2 (bif c then y else y') k0 := by cases c; exact h'; exact h
theorem loop_36_2 {R : Type} (k : Ex → St → Option R) : ∀ (m : Nat) (p0 : Int) (p1 : List Int) (p2 : List Int) (p3 : List Int) (p4 : List Int) (p5 : List Int), evLoopN (evCodeL sm_36 FU (ovr noO (evFn sm_36 fns FU 0)) .nil ir36_b2) (St.norm ir36_v2) m (T_36_2 p0 p1 p2 p3 p4 p5) k = Sp.B_36_2 (Sp.L_36_2 m p0 p1 p2 p3 p4 p5) (fun p1 p2 p5 => k (Ex.exit (4 : Nat)) (X_36_2_0 p1 p2 p5))
  | 0, _, _, _, _, _, _ => rfl
  | m + 1, p0, p1, p2, p3, p4, p5 => by
    rw [evLoopN_succ, body_36_2, Sp.L_36_2]
    repeat' first | apply Bgd_36_2 | apply Bcond_36_2 | exact loop_36_2 k m _ _ _ _ _ _ | rfl
theorem ok_36_2 {R : Type} (T : St) (k : Ex → St → Option R) (r : R) (h0 : o_36_2 G_36_2 T k = some r) : evLoopN (evCode sm_36 FU (evFn sm_36 fns FU 0) ir36_b2) (St.norm ir36_v2) FU T k = some r := by
  obtain ⟨p0, p1, p2, p3, p4, p5, rfl, h⟩ := o_36_2_inv h0
  refine evLoopN_L (t := .nil) noO_ok trivial _ _ _ _ ?_
  rw [loop_36_2]
  exact h
theorem OK_36_36_2 {R : Type} (T : St) (k : Ex → St → Option R) (r : R) (h : O_36_36_2 T k = some r) : evLoopN (evCode sm_36 FU (evFn sm_36 fns FU 0) ir36_b2) (St.norm ir36_v2) FU T k = some r := ok_36_2 T k r h
theorem body_36_3 {R : Type} (K0 : St → Option R) (K1 : Ex → St → Option R) (p0 : Int) (p1 : List Int) (p2 : List Int) (p3 : List Int) : evLB (evCodeL sm_36 FU (ovr noO (evFn sm_36 fns FU 0)) .nil ir36_b3) (St.norm ir36_v3) (T_36_3 p0 p1 p2 p3) K0 K1 =
  bif decide (p0 < (8 : Int)) then gd (inB p0 (8 : Nat)) (gd (decide (Int.toNat p0 < (8 : Nat)) && true) (gd (inB p0 (8 : Nat)) (gd (decide (Int.toNat p0 < (8 : Nat)) && true) (gd (inB p0 (8 : Nat)) (gd (decide (Int.toNat p0 < (8 : Nat)) && true) (K0 (T_36_3 (IntKind.wrap IntKind.i64 (p0 + (1 : Int))) (List.set p1 (Int.toNat p0) (IntKind.wrap IntKind.u32 (List.getD p1 (Int.toNat p0) (0 : Int) + List.getD p3 (Int.toNat p0) (0 : Int)))) p2 p3))))))) else K1 (Ex.exit (6 : Nat)) (X_36_3_0 p1 p2) := by kernel_rfl
theorem Bgd_36_3 {R : Type} {c : Bool} {x : Option R} {y : Option Sp.E_36_3} {k0 : (List Int) → (List Int) → Option R} (h : x = Sp.B_36_3 y k0) : gd c x = Sp.B_36_3 (gd c y) k0 := by cases c; rfl; exact h
theorem Bcond_36_3 {R : Type} {c : Bool} {x x' : Option R} {y y' : Option Sp.E_36_3} {k0 : (List Int) → (List Int) → Option R} (h : x = Sp.B_36_3 y k0) (h' : x' = Sp.B_36_3 y' k0) : (bif c then x else x') = Sp.B_36_3 (bif c then y else y') k0 := by cases c; exact h'; exact h
theorem loop_36_3 {R : Type} (k : Ex → St → Option R) : ∀ (m : Nat) (p0 : Int) (p1 : List Int) (p2 : List Int) (p3 : List Int), evLoopN (evCodeL sm_36 FU (ovr noO (evFn sm_36 fns FU 0)) .nil ir36_b3) (St.norm ir36_v3) m (T_36_3 p0 p1 p2 p3) k = Sp.B_36_3 (Sp.L_36_3 m p0 p1 p2 p3) (fun p1 p2 => k (Ex.exit (6 : Nat)) (X_36_3_0 p1 p2))
  | 0, _, _, _, _ => rfl
  | m + 1, p0, p1, p2, p3 => by
    rw [evLoopN_succ, body_36_3, Sp.L_36_3]
    repeat' first | apply Bgd_36_3 | apply Bcond_36_3 | exact loop_36_3 k m _ _ _ _ | rfl
theorem ok_36_3 {R : Type} (T : St) (k : Ex → St → Option R) (r : R) (h0 : o_36_3 G_36_3 T k = some r) : evLoopN (evCode sm_36 FU (evFn sm_36 fns FU 0) ir36_b3) (St.norm ir36_v3) FU T k = some r := by
  obtain ⟨p0, p1, p2, p3, rfl, h⟩ := o_36_3_inv h0
  refine evLoopN_L (t := .nil) noO_ok trivial _ _ _ _ ?_
  rw [loop_36_3]
  exact h
theorem OK_36_36_3 {R : Type} (T : St) (k : Ex → St → Option R) (r : R) (h : O_36_36_3 T k = some r) : evLoopN (evCode sm_36 FU (evFn sm_36 fns FU 0) ir36_b3) (St.norm ir36_v3) FU T k = some r := ok_36_3 T k r h
def F_36 (a0 : (List Int)) (a1 : (List Int)) : Option ((List Int) × Unit) :=
  Sp.B_36_0 (Sp.L_36_0 (4611686018427387904 : Nat) a1 (0 : Int) a0 (List.replicate (8 : Nat) (0 : Int)) (List.replicate (64 : Nat) (0 : Int))) fun (y11 y12 y13 : List Int) => Sp.B_36_1 (Sp.L_36_1 (4611686018427387904 : Nat) (16 : Int) y11 y12 y13) fun (y14 y15 y16 : List Int) => gd Sp.p_51 (Sp.B_36_2 (Sp.L_36_2 (4611686018427387904 : Nat) (0 : Int) y14 y15 y16 (Prod.fst Sp.v_51) y14) fun (y17 y18 y19 : List Int) => Sp.B_36_3 (Sp.L_36_3 (4611686018427387904 : Nat) (0 : Int) y17 y18 y19) fun (y20 y21 : List Int) => some (y20, PUnit.unit))
theorem fn_36 (a0 : (List Int)) (a1 : (List Int)) : evFnL sm_36 FU (ovr noO (evFn sm_36 fns FU 0)) (ir36_t O_36_36_0 O_36_36_1 O_36_36_2 O_36_36_3) ir36 (ofH [(.arr 8 (.int .u32)), (.slice (.int .u8))] (a0, a1, ())) [] (pureK [(.arr 8 (.int .u32))]) = F_36 a0 a1 := by kernel_rfl
def Sp.p_36 (a0 : (List Int)) (a1 : (List Int)) : Bool := (F_36 a0 a1).isSome
def Sp.v_36 (a0 : (List Int)) (a1 : (List Int)) : (List Int) × Unit := (F_36 a0 a1).getD (dfH [(.arr 8 (.int .u32))])
def s_36 : Summ := shN [(.arr 8 (.int .u32)), (.slice (.int .u8))] [(.arr 8 (.int .u32))] (fun x => Sp.p_36 x.1 x.2.1) (fun x => Sp.v_36 x.1 x.2.1)
theorem pv_36 (a0 : (List Int)) (a1 : (List Int)) {y : (List Int) × Unit} (h : F_36 a0 a1 = some y) : Sp.p_36 a0 a1 = true ∧ Sp.v_36 a0 a1 = y := ⟨by rw [Sp.p_36, h]; rfl, by rw [Sp.v_36, h]; rfl⟩
theorem run_36 (x : HDen [(.arr 8 (.int .u32)), (.slice (.int .u8))]) (y : HDen [(.arr 8 (.int .u32))]) (h : F_36 x.1 x.2.1 = some y) : evFn sm_36 fns FU 1 36 (ofH [(.arr 8 (.int .u32)), (.slice (.int .u8))] x) [] (pureK [(.arr 8 (.int .u32))]) = some y :=
  evFnL_sound (fn := ir36) (t := (ir36_t O_36_36_0 O_36_36_1 O_36_36_2 O_36_36_3)) (o := noO) rfl noO_ok (ir36_tok (fun T k r => OK_36_36_0 T k r) (fun T k r => OK_36_36_1 T k r) (fun T k r => OK_36_36_2 T k r) (fun T k r => OK_36_36_3 T k r)) ((fn_36 _ _).trans h)
end
end Go.Ev
namespace Go.Ev
open Go
set_option maxRecDepth 100000
set_option maxHeartbeats 4000000
set_option linter.unusedVariables false
noncomputable section

def sm_12 : Nat → Option Summ := fun f => bif Nat.beq f 35 then some s_35 else bif Nat.beq f 36 then some s_36 else none
def T_12_0 (p0 : List Int) (p1 : Int) (p2 : List Int) (p3 : List Int) : St := St.mk [CV.junk, CV.junk, CV.ptr (0 : Nat) [], CV.ptr (1 : Nat) [], CV.pure (Ty.slice (Ty.int IntKind.u8)) p0, CV.int IntKind.i64 p1, CV.junk, CV.junk, CV.junk, CV.junk, CV.junk, CV.junk, CV.junk, CV.junk, CV.junk, CV.junk, CV.junk, CV.junk, CV.junk, CV.junk, CV.junk, CV.junk, CV.junk, CV.junk, CV.junk, CV.junk, CV.junk, CV.junk, CV.junk, CV.junk, CV.junk, CV.junk, CV.junk, CV.junk, CV.junk, CV.junk, CV.junk, CV.junk, CV.junk, CV.junk, CV.junk, CV.junk] [Blk.mem (CV.pure (Ty.arr (32 : Nat) (Ty.int IntKind.u8)) p2), Blk.mem (CV.pure (Ty.arr (8 : Nat) (Ty.int IntKind.u32)) p3)] (0 : Nat)
def X_12_0_0 (p2 : List Int) (p3 : List Int) : St := St.mk [CV.junk, CV.junk, CV.ptr (0 : Nat) [], CV.ptr (1 : Nat) [], CV.junk, CV.junk, CV.junk, CV.junk, CV.junk, CV.junk, CV.junk, CV.junk, CV.junk, CV.junk, CV.junk, CV.junk, CV.junk, CV.junk, CV.junk, CV.junk, CV.junk, CV.junk, CV.junk, CV.junk, CV.junk, CV.junk, CV.junk, CV.junk, CV.junk, CV.junk, CV.junk, CV.junk, CV.junk, CV.junk, CV.junk, CV.junk, CV.junk, CV.junk, CV.junk, CV.junk, CV.junk, CV.junk] [Blk.mem (CV.pure (Ty.arr (32 : Nat) (Ty.int IntKind.u8)) p2), Blk.mem (CV.pure (Ty.arr (8 : Nat) (Ty.int IntKind.u32)) p3)] (0 : Nat)
inductive Sp.E_12_0 where
  | e0 (p2 : List Int) (p3 : List Int)
def Sp.B_12_0 {R : Type} (r : Option Sp.E_12_0) (k0 : (List Int) → (List Int) → Option R) : Option R := match r with
  | none => none
  | some (.e0 p2 p3) => k0 p2 p3
def Sp.L_12_0 : Nat → (List Int) → (Int) → (List Int) → (List Int) → Option Sp.E_12_0
  | 0, _, _, _, _ => none
  | m + 1, p0, p1, p2, p3 => bif decide (p1 < (↑(List.length p0) : Int)) then gd (sl3 p1 (IntKind.wrap IntKind.i64 (p1 + (64 : Int))) (↑(List.length p0) : Int)) (gd (Sp.p_36 p3 (List.take (Int.toNat (IntKind.wrap IntKind.i64 (p1 + (64 : Int))) - Int.toNat p1) (List.drop (Int.toNat p1) p0))) (Sp.L_12_0 m p0 (IntKind.wrap IntKind.i64 (p1 + (64 : Int))) p2 (Prod.fst (Sp.v_36 p3 (List.take (Int.toNat (IntKind.wrap IntKind.i64 (p1 + (64 : Int))) - Int.toNat p1) (List.drop (Int.toNat p1) p0)))))) else some (Sp.E_12_0.e0 p2 p3)
def G_12_0 {R : Type} (p0 : List Int) (p1 : Int) (p2 : List Int) (p3 : List Int) (k : Ex → St → Option R) : Option R := Sp.B_12_0 (Sp.L_12_0 FU p0 p1 p2 p3) (fun p2 p3 => k (Ex.exit (0 : Nat)) (X_12_0_0 p2 p3))
def o_12_0 {R : Type} (G : (List Int) → (Int) → (List Int) → (List Int) → (Ex → St → Option R) → Option R) : St → (Ex → St → Option R) → Option R := fun T k => match T.sl.getD 2 .junk, T.sl.getD 3 .junk, T.sl.getD 4 .junk, T.sl.getD 5 .junk, T.hp with
  | CV.ptr (0 : Nat) [], CV.ptr (1 : Nat) [], CV.pure (Ty.slice (Ty.int IntKind.u8)) p0, CV.int IntKind.i64 p1, ((Blk.mem (CV.pure (Ty.arr (32 : Nat) (Ty.int IntKind.u8)) p2)) :: (Blk.mem (CV.pure (Ty.arr (8 : Nat) (Ty.int IntKind.u32)) p3)) :: []) => gd (shapeOK T 42 [2, 3, 4, 5] (0 : Nat)) (G p0 p1 p2 p3 k)
  | _, _, _, _, _ => none
theorem o_12_0_inv {R : Type} {G : (List Int) → (Int) → (List Int) → (List Int) → (Ex → St → Option R) → Option R} {T : St} {k : Ex → St → Option R} {r : R} (h : o_12_0 G T k = some r) : ∃ p0 p1 p2 p3, T = T_12_0 p0 p1 p2 p3 ∧ G p0 p1 p2 p3 k = some r := by
  unfold o_12_0 at h
  split at h
  · obtain ⟨hs, h'⟩ := gd_some h
    refine ⟨_, _, _, _, (st_of (asg := [(2, _), (3, _), (4, _), (5, _)]) hs ⟨by assumption, by assumption, by assumption, by assumption, trivial⟩ (by assumption)).trans ?_, h'⟩
    kernel_rfl
  · cases h
def T_12_1 (p0 : Int) (p1 : List Int) (p2 : List Int) (p3 : List Int) : St := St.mk [CV.junk, CV.junk, CV.ptr (0 : Nat) [], CV.ptr (1 : Nat) [], CV.junk, CV.junk, CV.ptr (2 : Nat) [], CV.int IntKind.i64 p0, CV.junk, CV.junk, CV.junk, CV.junk, CV.junk, CV.junk, CV.junk, CV.junk, CV.junk, CV.junk, CV.junk, CV.junk, CV.junk, CV.junk, CV.junk, CV.junk, CV.junk, CV.junk, CV.junk, CV.junk, CV.junk, CV.junk, CV.junk, CV.junk, CV.junk, CV.junk, CV.junk, CV.junk, CV.junk, CV.junk, CV.junk, CV.junk, CV.junk, CV.junk] [Blk.mem (CV.pure (Ty.arr (32 : Nat) (Ty.int IntKind.u8)) p1), Blk.mem (CV.pure (Ty.arr (8 : Nat) (Ty.int IntKind.u32)) p2), Blk.mem (CV.pure (Ty.arr (32 : Nat) (Ty.int IntKind.u8)) p3)] (0 : Nat)
def X_12_1_0 (p1 : List Int) (p3 : List Int) : St := St.mk [CV.junk, CV.junk, CV.ptr (0 : Nat) [], CV.junk, CV.junk, CV.junk, CV.ptr (1 : Nat) [], CV.junk, CV.junk, CV.junk, CV.junk, CV.junk, CV.junk, CV.junk, CV.junk, CV.junk, CV.junk, CV.junk, CV.junk, CV.junk, CV.junk, CV.junk, CV.junk, CV.junk, CV.junk, CV.junk, CV.junk, CV.junk, CV.junk, CV.junk, CV.junk, CV.junk, CV.junk, CV.junk, CV.junk, CV.junk, CV.junk, CV.junk, CV.junk, CV.junk, CV.junk, CV.junk] [Blk.mem (CV.pure (Ty.arr (32 : Nat) (Ty.int IntKind.u8)) p1), Blk.mem (CV.pure (Ty.arr (32 : Nat) (Ty.int IntKind.u8)) p3)] (0 : Nat)
inductive Sp.E_12_1 where
  | e0 (p1 : List Int) (p3 : List Int)
def Sp.B_12_1 {R : Type} (r : Option Sp.E_12_1) (k0 : (List Int) → (List Int) → Option R) : Option R := match r with
  | none => none
  | some (.e0 p1 p3) => k0 p1 p3
def Sp.L_12_1 : Nat → (Int) → (List Int) → (List Int) → (List Int) → Option Sp.E_12_1
  | 0, _, _, _, _ => none
  | m + 1, p0, p1, p2, p3 => bif decide (p0 < (32 : Int)) then gd (inB (IntKind.wrap IntKind.i64 (Int.tdiv p0 (4 : Int))) (8 : Nat)) (gd (decide (Int.toNat (IntKind.wrap IntKind.i64 (Int.tdiv p0 (4 : Int))) < (8 : Nat)) && true) (gd (decide ((0 : Int) ≤ IntKind.wrap IntKind.u64 (IntKind.wrap IntKind.i64 ((24 : Int) - IntKind.wrap IntKind.i64 (Int.tmod p0 (4 : Int) * (8 : Int)))))) (gd (inB p0 (32 : Nat)) (gd (decide (Int.toNat p0 < (32 : Nat)) && true) (Sp.L_12_1 m (IntKind.wrap IntKind.i64 (p0 + (1 : Int))) p1 p2 (List.set p3 (Int.toNat p0) (IntKind.wrap IntKind.u8 (Int.fdiv (List.getD p2 (Int.toNat (IntKind.wrap IntKind.i64 (Int.tdiv p0 (4 : Int)))) (0 : Int)) ((2 : Int) ^ Nat.min (Int.toNat (IntKind.wrap IntKind.u64 (IntKind.wrap IntKind.i64 ((24 : Int) - IntKind.wrap IntKind.i64 (Int.tmod p0 (4 : Int) * (8 : Int)))))) (32 : Nat)))))))))) else some (Sp.E_12_1.e0 p1 p3)
def G_12_1 {R : Type} (p0 : Int) (p1 : List Int) (p2 : List Int) (p3 : List Int) (k : Ex → St → Option R) : Option R := Sp.B_12_1 (Sp.L_12_1 FU p0 p1 p2 p3) (fun p1 p3 => k (Ex.exit (2 : Nat)) (X_12_1_0 p1 p3))
def o_12_1 {R : Type} (G : (Int) → (List Int) → (List Int) → (List Int) → (Ex → St → Option R) → Option R) : St → (Ex → St → Option R) → Option R := fun T k => match T.sl.getD 2 .junk, T.sl.getD 3 .junk, T.sl.getD 6 .junk, T.sl.getD 7 .junk, T.hp with
  | CV.ptr (0 : Nat) [], CV.ptr (1 : Nat) [], CV.ptr (2 : Nat) [], CV.int IntKind.i64 p0, ((Blk.mem (CV.pure (Ty.arr (32 : Nat) (Ty.int IntKind.u8)) p1)) :: (Blk.mem (CV.pure (Ty.arr (8 : Nat) (Ty.int IntKind.u32)) p2)) :: (Blk.mem (CV.pure (Ty.arr (32 : Nat) (Ty.int IntKind.u8)) p3)) :: []) => gd (shapeOK T 42 [2, 3, 6, 7] (0 : Nat)) (G p0 p1 p2 p3 k)
  | _, _, _, _, _ => none
theorem o_12_1_inv {R : Type} {G : (Int) → (List Int) → (List Int) → (List Int) → (Ex → St → Option R) → Option R} {T : St} {k : Ex → St → Option R} {r : R} (h : o_12_1 G T k = some r) : ∃ p0 p1 p2 p3, T = T_12_1 p0 p1 p2 p3 ∧ G p0 p1 p2 p3 k = some r := by
  unfold o_12_1 at h
  split at h
  · obtain ⟨hs, h'⟩ := gd_some h
    refine ⟨_, _, _, _, (st_of (asg := [(2, _), (3, _), (6, _), (7, _)]) hs ⟨by assumption, by assumption, by assumption, by assumption, trivial⟩ (by assumption)).trans ?_, h'⟩
    kernel_rfl
  · cases h
def O_12_12_0 {R : Type} : St → (Ex → St → Option R) → Option R := fun T k => o_12_0 G_12_0 T k
def O_12_12_1 {R : Type} : St → (Ex → St → Option R) → Option R := fun T k => o_12_1 G_12_1 T k
theorem body_12_0 {R : Type} (K0 : St → Option R) (K1 : Ex → St → Option R) (p0 : List Int) (p1 : Int) (p2 : List Int) (p3 : List Int) : evLB (evCodeL sm_12 FU (ovr noO (evFn sm_12 fns FU 0)) .nil ir12_b0) (St.norm ir12_v0) (T_12_0 p0 p1 p2 p3) K0 K1 =
  bif decide (p1 < (↑(List.length p0) : Int)) then gd (sl3 p1 (IntKind.wrap IntKind.i64 (p1 + (64 : Int))) (↑(List.length p0) : Int)) (gd (Sp.p_36 p3 (List.take (Int.toNat (IntKind.wrap IntKind.i64 (p1 + (64 : Int))) - Int.toNat p1) (List.drop (Int.toNat p1) p0))) (K0 (T_12_0 p0 (IntKind.wrap IntKind.i64 (p1 + (64 : Int))) p2 (Prod.fst (Sp.v_36 p3 (List.take (Int.toNat (IntKind.wrap IntKind.i64 (p1 + (64 : Int))) - Int.toNat p1) (List.drop (Int.toNat p1) p0))))))) else K1 (Ex.exit (0 : Nat)) (X_12_0_0 p2 p3) := by kernel_rfl
theorem Bgd_12_0 {R : Type} {c : Bool} {x : Option R} {y : Option Sp.E_12_0} {k0 : (List Int) → (List Int) → Option R} (h : x = Sp.B_12_0 y k0) : gd c x = Sp.B_12_0 (gd c y) k0 := by cases c; rfl; exact h
theorem Bcond_12_0 {R : Type} {c : Bool} {x x' : Option R} {y y' : Option Sp.E_12_0} {k0 : (List Int) → (List Int) → Option R} (h : x = Sp.B_12_0 y k0) (h' : x' = Sp.B_12_0 y' k0) : (bif c then x else x') = Sp.B_12_0 (bif c then y else y') k0 := by cases c; exact h'; exact h
theorem loop_12_0 {R : Type} (k : Ex → St → Option R) : ∀ (m : Nat) (p0 : List Int) (p1 : Int) (p2 : List Int) (p3 : List Int), evLoopN (evCodeL sm_12 FU (ovr noO (evFn sm_12 fns FU 0)) .nil ir12_b0) (St.norm ir12_v0) m (T_12_0 p0 p1 p2 p3) k = Sp.B_12_0 (Sp.L_12_0 m p0 p1 p2 p3) (fun p2 p3 => k (Ex.exit (0 : Nat)) (X_12_0_0 p2 p3))
  | 0, _, _, _, _ => rfl
  | m + 1, p0, p1, p2, p3 => by
    rw [evLoopN_succ, body_12_0, Sp.L_12_0]
    repeat' first | apply Bgd_12_0 | apply Bcond_12_0 | exact loop_12_0 k m _ _ _ _ | rfl
theorem ok_12_0 {R : Type} (T : St) (k : Ex → St → Option R) (r : R) (h0 : o_12_0 G_12_0 T k = some r) : evLoopN (evCode sm_12 FU (evFn sm_12 fns FU 0) ir12_b0) (St.norm ir12_v0) FU T k = some r := by
  obtain ⟨p0, p1, p2, p3, rfl, h⟩ := o_12_0_inv h0
  refine evLoopN_L (t := .nil) noO_ok trivial _ _ _ _ ?_
  rw [loop_12_0]
  exact h
theorem OK_12_12_0 {R : Type} (T : St) (k : Ex → St → Option R) (r : R) (h : O_12_12_0 T k = some r) : evLoopN (evCode sm_12 FU (evFn sm_12 fns FU 0) ir12_b0) (St.norm ir12_v0) FU T k = some r := ok_12_0 T k r h
theorem body_12_1 {R : Type} (K0 : St → Option R) (K1 : Ex → St → Option R) (p0 : Int) (p1 : List Int) (p2 : List Int) (p3 : List Int) : evLB (evCodeL sm_12 FU (ovr noO (evFn sm_12 fns FU 0)) .nil ir12_b1) (St.norm ir12_v1) (T_12_1 p0 p1 p2 p3) K0 K1 =
  bif decide (p0 < (32 : Int)) then gd (inB (IntKind.wrap IntKind.i64 (Int.tdiv p0 (4 : Int))) (8 : Nat)) (gd (decide (Int.toNat (IntKind.wrap IntKind.i64 (Int.tdiv p0 (4 : Int))) < (8 : Nat)) && true) (gd (decide ((0 : Int) ≤ IntKind.wrap IntKind.u64 (IntKind.wrap IntKind.i64 ((24 : Int) - IntKind.wrap IntKind.i64 (Int.tmod p0 (4 : Int) * (8 : Int)))))) (gd (inB p0 (32 : Nat)) (gd (decide (Int.toNat p0 < (32 : Nat)) && true) (K0 (T_12_1 (IntKind.wrap IntKind.i64 (p0 + (1 : Int))) p1 p2 (List.set p3 (Int.toNat p0) (IntKind.wrap IntKind.u8 (Int.fdiv (List.getD p2 (Int.toNat (IntKind.wrap IntKind.i64 (Int.tdiv p0 (4 : Int)))) (0 : Int)) ((2 : Int) ^ Nat.min (Int.toNat (IntKind.wrap IntKind.u64 (IntKind.wrap IntKind.i64 ((24 : Int) - IntKind.wrap IntKind.i64 (Int.tmod p0 (4 : Int) * (8 : Int)))))) (32 : Nat))))))))))) else K1 (Ex.exit (2 : Nat)) (X_12_1_0 p1 p3) := by kernel_rfl
theorem Bgd_12_1 {R : Type} {c : Bool} {x : Option R} {y : Option Sp.E_12_1} {k0 : (List Int) → (List Int) → Option R} (h : x = Sp.B_12_1 y k0) : gd c x = Sp.B_12_1 (gd c y) k0 := by cases c; rfl; exact h
theorem Bcond_12_1 {R : Type} {c : Bool} {x x' : Option R} {y y' : Option Sp.E_12_1} {k0 : (List Int) → (List Int) → Option R} (h : x = Sp.B_12_1 y k0) (h' : x' = Sp.B_12_1 y' k0) : (bif c then x else x') = Sp.B_12_1 (bif c then y else y') k0 := by cases c; exact h'; exact h
theorem loop_12_1 {R : Type} (k : Ex → St → Option R) : ∀ (m : Nat) (p0 : Int) (p1 : List Int) (p2 : List Int) (p3 : List Int), evLoopN (evCodeL sm_12 FU (ovr noO (evFn sm_12 fns FU 0)) .nil ir12_b1) (St.norm ir12_v1) m (T_12_1 p0 p1 p2 p3) k = Sp.B_12_1 (Sp.L_12_1 m p0 p1 p2 p3) (fun p1 p3 => k (Ex.exit (2 : Nat)) (X_12_1_0 p1 p3))
  | 0, _, _, _, _ => rfl
  | m + 1, p0, p1, p2, p3 => by
    rw [evLoopN_succ, body_12_1, Sp.L_12_1]
    repeat' first | apply Bgd_12_1 | apply Bcond_12_1 | exact loop_12_1 k m _ _ _ _ | rfl
theorem ok_12_1 {R : Type} (T : St) (k : Ex → St → Option R) (r : R) (h0 : o_12_1 G_12_1 T k = some r) : evLoopN (evCode sm_12 FU (evFn sm_12 fns FU 0) ir12_b1) (St.norm ir12_v1) FU T k = some r := by
  obtain ⟨p0, p1, p2, p3, rfl, h⟩ := o_12_1_inv h0
  refine evLoopN_L (t := .nil) noO_ok trivial _ _ _ _ ?_
  rw [loop_12_1]
  exact h
theorem OK_12_12_1 {R : Type} (T : St) (k : Ex → St → Option R) (r : R) (h : O_12_12_1 T k = some r) : evLoopN (evCode sm_12 FU (evFn sm_12 fns FU 0) ir12_b1) (St.norm ir12_v1) FU T k = some r := ok_12_1 T k r h
def F_12 (a0 : (List Int)) : Option ((List Int) × Unit) :=
  gd (Sp.p_35 a0) (Sp.B_12_0 (Sp.L_12_0 (4611686018427387904 : Nat) (Prod.fst (Sp.v_35 a0)) (0 : Int) (List.replicate (32 : Nat) (0 : Int)) [(1779033703 : Int), (3144134277 : Int), (1013904242 : Int), (2773480762 : Int), (1359893119 : Int), (2600822924 : Int), (528734635 : Int), (1541459225 : Int)]) fun (y4 y5 : List Int) => Sp.B_12_1 (Sp.L_12_1 (4611686018427387904 : Nat) (0 : Int) y4 y5 (List.replicate (32 : Nat) (0 : Int))) fun (y6 y7 : List Int) => some (y7, PUnit.unit))
theorem fn_12 (a0 : (List Int)) : evFnL sm_12 FU (ovr noO (evFn sm_12 fns FU 0)) (ir12_t O_12_12_0 O_12_12_1) ir12 (ofH [(.slice (.int .u8))] (a0, ())) [] (pureK [(.arr 32 (.int .u8))]) = F_12 a0 := by kernel_rfl
def Sp.p_12 (a0 : (List Int)) : Bool := (F_12 a0).isSome
def Sp.v_12 (a0 : (List Int)) : (List Int) × Unit := (F_12 a0).getD (dfH [(.arr 32 (.int .u8))])
def s_12 : Summ := shN [(.slice (.int .u8))] [(.arr 32 (.int .u8))] (fun x => Sp.p_12 x.1) (fun x => Sp.v_12 x.1)
theorem pv_12 (a0 : (List Int)) {y : (List Int) × Unit} (h : F_12 a0 = some y) : Sp.p_12 a0 = true ∧ Sp.v_12 a0 = y := ⟨by rw [Sp.p_12, h]; rfl, by rw [Sp.v_12, h]; rfl⟩
theorem run_12 (x : HDen [(.slice (.int .u8))]) (y : HDen [(.arr 32 (.int .u8))]) (h : F_12 x.1 = some y) : evFn sm_12 fns FU 1 12 (ofH [(.slice (.int .u8))] x) [] (pureK [(.arr 32 (.int .u8))]) = some y :=
  evFnL_sound (fn := ir12) (t := (ir12_t O_12_12_0 O_12_12_1)) (o := noO) rfl noO_ok (ir12_tok (fun T k r => OK_12_12_0 T k r) (fun T k r => OK_12_12_1 T k r)) ((fn_12 _).trans h)
end
end Go.Ev
namespace Go.Ev
open Go
set_option maxRecDepth 100000
set_option maxHeartbeats 4000000
set_option linter.unusedVariables false
noncomputable section

def sm_17 : Nat → Option Summ := fun f => bif Nat.beq f 12 then some s_12 else none
def T_17_0 (p0 : Int) (p1 : Int) (p2 : List Int) (p3 : List Int) : St := St.mk [CV.junk, CV.junk, CV.int IntKind.i64 p0, CV.ptr (0 : Nat) [], CV.junk, CV.junk, CV.ptr (1 : Nat) [], CV.int IntKind.i64 p1, CV.junk, CV.junk, CV.junk, CV.junk, CV.junk, CV.junk, CV.junk, CV.junk, CV.junk, CV.junk, CV.junk, CV.junk, CV.junk] [Blk.mem (CV.pure (Ty.arr (32 : Nat) (Ty.int IntKind.u8)) p2), Blk.mem (CV.pure (Ty.arr (32 : Nat) (Ty.int IntKind.u8)) p3)] (0 : Nat)
def X_17_0_0 (p2 : List Int) (p3 : List Int) : St := St.mk [CV.junk, CV.junk, CV.junk, CV.ptr (0 : Nat) [], CV.junk, CV.junk, CV.ptr (1 : Nat) [], CV.junk, CV.junk, CV.junk, CV.junk, CV.junk, CV.junk, CV.junk, CV.junk, CV.junk, CV.junk, CV.junk, CV.junk, CV.junk, CV.junk] [Blk.mem (CV.pure (Ty.arr (32 : Nat) (Ty.int IntKind.u8)) p2), Blk.mem (CV.pure (Ty.arr (32 : Nat) (Ty.int IntKind.u8)) p3)] (0 : Nat)
inductive Sp.E_17_0 where
  | e0 (p2 : List Int) (p3 : List Int)
def Sp.B_17_0 {R : Type} (r : Option Sp.E_17_0) (k0 : (List Int) → (List Int) → Option R) : Option R := match r with
  | none => none
  | some (.e0 p2 p3) => k0 p2 p3
def Sp.L_17_0 : Nat → (Int) → (Int) → (List Int) → (List Int) → Option Sp.E_17_0
  | 0, _, _, _, _ => none
  | m + 1, p0, p1, p2, p3 => bif decide (p1 < p0) then gd (room ((1 : Nat) + List.length (List.take (32 : Nat) (List.drop (0 : Nat) p2))) (1 : Nat)) (gd (Sp.p_12 ([IntKind.wrap IntKind.u8 p1] ++ List.take (32 : Nat) (List.drop (0 : Nat) p2))) (Sp.L_17_0 m p0 (IntKind.wrap IntKind.i64 (p1 + (1 : Int))) (Prod.fst (Sp.v_12 ([IntKind.wrap IntKind.u8 p1] ++ List.take (32 : Nat) (List.drop (0 : Nat) p2)))) p3)) else some (Sp.E_17_0.e0 p2 p3)
def G_17_0 {R : Type} (p0 : Int) (p1 : Int) (p2 : List Int) (p3 : List Int) (k : Ex → St → Option R) : Option R := Sp.B_17_0 (Sp.L_17_0 FU p0 p1 p2 p3) (fun p2 p3 => k (Ex.exit (0 : Nat)) (X_17_0_0 p2 p3))
def o_17_0 {R : Type} (G : (Int) → (Int) → (List Int) → (List Int) → (Ex → St → Option R) → Option R) : St → (Ex → St → Option R) → Option R := fun T k => match T.sl.getD 2 .junk, T.sl.getD 3 .junk, T.sl.getD 6 .junk, T.sl.getD 7 .junk, T.hp with
  | CV.int IntKind.i64 p0, CV.ptr (0 : Nat) [], CV.ptr (1 : Nat) [], CV.int IntKind.i64 p1, ((Blk.mem (CV.pure (Ty.arr (32 : Nat) (Ty.int IntKind.u8)) p2)) :: (Blk.mem (CV.pure (Ty.arr (32 : Nat) (Ty.int IntKind.u8)) p3)) :: []) => gd (shapeOK T 21 [2, 3, 6, 7] (0 : Nat)) (G p0 p1 p2 p3 k)
  | _, _, _, _, _ => none
theorem o_17_0_inv {R : Type} {G : (Int) → (Int) → (List Int) → (List Int) → (Ex → St → Option R) → Option R} {T : St} {k : Ex → St → Option R} {r : R} (h : o_17_0 G T k = some r) : ∃ p0 p1 p2 p3, T = T_17_0 p0 p1 p2 p3 ∧ G p0 p1 p2 p3 k = some r := by
  unfold o_17_0 at h
  split at h
  · obtain ⟨hs, h'⟩ := gd_some h
    refine ⟨_, _, _, _, (st_of (asg := [(2, _), (3, _), (6, _), (7, _)]) hs ⟨by assumption, by assumption, by assumption, by assumption, trivial⟩ (by assumption)).trans ?_, h'⟩
    kernel_rfl
  · cases h
def O_17_17_0 {R : Type} : St → (Ex → St → Option R) → Option R := fun T k => o_17_0 G_17_0 T k
theorem body_17_0 {R : Type} (K0 : St → Option R) (K1 : Ex → St → Option R) (p0 : Int) (p1 : Int) (p2 : List Int) (p3 : List Int) : evLB (evCodeL sm_17 FU (ovr noO (evFn sm_17 fns FU 0)) .nil ir17_b0) (St.norm ir17_v0) (T_17_0 p0 p1 p2 p3) K0 K1 =
  bif decide (p1 < p0) then gd (room ((1 : Nat) + List.length (List.take (32 : Nat) (List.drop (0 : Nat) p2))) (1 : Nat)) (gd (Sp.p_12 ([IntKind.wrap IntKind.u8 p1] ++ List.take (32 : Nat) (List.drop (0 : Nat) p2))) (K0 (T_17_0 p0 (IntKind.wrap IntKind.i64 (p1 + (1 : Int))) (Prod.fst (Sp.v_12 ([IntKind.wrap IntKind.u8 p1] ++ List.take (32 : Nat) (List.drop (0 : Nat) p2)))) p3))) else K1 (Ex.exit (0 : Nat)) (X_17_0_0 p2 p3) := by kernel_rfl
theorem Bgd_17_0 {R : Type} {c : Bool} {x : Option R} {y : Option Sp.E_17_0} {k0 : (List Int) → (List Int) → Option R} (h : x = Sp.B_17_0 y k0) : gd c x = Sp.B_17_0 (gd c y) k0 := by cases c; rfl; exact h
theorem Bcond_17_0 {R : Type} {c : Bool} {x x' : Option R} {y y' : Option Sp.E_17_0} {k0 : (List Int) → (List Int) → Option R} (h : x = Sp.B_17_0 y k0) (h' : x' = Sp.B_17_0 y' k0) : (bif c then x else x') = Sp.B_17_0 (bif c then y else y') k0 := by cases c; exact h'; exact h
theorem loop_17_0 {R : Type} (k : Ex → St → Option R) : ∀ (m : Nat) (p0 : Int) (p1 : Int) (p2 : List Int) (p3 : List Int), evLoopN (evCodeL sm_17 FU (ovr noO (evFn sm_17 fns FU 0)) .nil ir17_b0) (St.norm ir17_v0) m (T_17_0 p0 p1 p2 p3) k = Sp.B_17_0 (Sp.L_17_0 m p0 p1 p2 p3) (fun p2 p3 => k (Ex.exit (0 : Nat)) (X_17_0_0 p2 p3))
  | 0, _, _, _, _ => rfl
  | m + 1, p0, p1, p2, p3 => by
    rw [evLoopN_succ, body_17_0, Sp.L_17_0]
    repeat' first | apply Bgd_17_0 | apply Bcond_17_0 | exact loop_17_0 k m _ _ _ _ | rfl
theorem ok_17_0 {R : Type} (T : St) (k : Ex → St → Option R) (r : R) (h0 : o_17_0 G_17_0 T k = some r) : evLoopN (evCode sm_17 FU (evFn sm_17 fns FU 0) ir17_b0) (St.norm ir17_v0) FU T k = some r := by
  obtain ⟨p0, p1, p2, p3, rfl, h⟩ := o_17_0_inv h0
  refine evLoopN_L (t := .nil) noO_ok trivial _ _ _ _ ?_
  rw [loop_17_0]
  exact h
theorem OK_17_17_0 {R : Type} (T : St) (k : Ex → St → Option R) (r : R) (h : O_17_17_0 T k = some r) : evLoopN (evCode sm_17 FU (evFn sm_17 fns FU 0) ir17_b0) (St.norm ir17_v0) FU T k = some r := ok_17_0 T k r h
def F_17 (a0 : (List Int)) (a1 : Int) (a2 : Int) : Option ((List Int) × Unit) :=
  Sp.B_17_0 (Sp.L_17_0 (4611686018427387904 : Nat) a2 a1 a0 (List.replicate (32 : Nat) (0 : Int))) fun (y2 y3 : List Int) => some (y2, PUnit.unit)
theorem fn_17 (a0 : (List Int)) (a1 : Int) (a2 : Int) : evFnL sm_17 FU (ovr noO (evFn sm_17 fns FU 0)) (ir17_t O_17_17_0) ir17 (ofH [(.arr 32 (.int .u8)), (.int .i64), (.int .i64)] (a0, a1, a2, ())) [] (pureK [(.arr 32 (.int .u8))]) = F_17 a0 a1 a2 := by kernel_rfl
def Sp.p_17 (a0 : (List Int)) (a1 : Int) (a2 : Int) : Bool := (F_17 a0 a1 a2).isSome
def Sp.v_17 (a0 : (List Int)) (a1 : Int) (a2 : Int) : (List Int) × Unit := (F_17 a0 a1 a2).getD (dfH [(.arr 32 (.int .u8))])
def s_17 : Summ := shN [(.arr 32 (.int .u8)), (.int .i64), (.int .i64)] [(.arr 32 (.int .u8))] (fun x => Sp.p_17 x.1 x.2.1 x.2.2.1) (fun x => Sp.v_17 x.1 x.2.1 x.2.2.1)
theorem pv_17 (a0 : (List Int)) (a1 : Int) (a2 : Int) {y : (List Int) × Unit} (h : F_17 a0 a1 a2 = some y) : Sp.p_17 a0 a1 a2 = true ∧ Sp.v_17 a0 a1 a2 = y := ⟨by rw [Sp.p_17, h]; rfl, by rw [Sp.v_17, h]; rfl⟩
theorem run_17 (x : HDen [(.arr 32 (.int .u8)), (.int .i64), (.int .i64)]) (y : HDen [(.arr 32 (.int .u8))]) (h : F_17 x.1 x.2.1 x.2.2.1 = some y) : evFn sm_17 fns FU 1 17 (ofH [(.arr 32 (.int .u8)), (.int .i64), (.int .i64)] x) [] (pureK [(.arr 32 (.int .u8))]) = some y :=
  evFnL_sound (fn := ir17) (t := (ir17_t O_17_17_0)) (o := noO) rfl noO_ok (ir17_tok (fun T k r => OK_17_17_0 T k r)) ((fn_17 _ _ _).trans h)
end
end Go.Ev
namespace Go.Ev
open Go
set_option maxRecDepth 100000
set_option maxHeartbeats 4000000
set_option linter.unusedVariables false
noncomputable section

def sm_42 : Nat → Option Summ := fun f => bif Nat.beq f 12 then some s_12 else none


def F_42 (a0 : (List Int)) (a1 : (List Int)) : Option ((List Int) × Unit) :=
  gd (room ((1 : Nat) + List.length (List.take (32 : Nat) (List.drop (0 : Nat) a0))) (1 : Nat)) (gd (room (List.length ([(255 : Int)] ++ List.take (32 : Nat) (List.drop (0 : Nat) a0)) + List.length (List.take (32 : Nat) (List.drop (0 : Nat) a1))) (1 : Nat)) (gd (Sp.p_12 ([(255 : Int)] ++ List.take (32 : Nat) (List.drop (0 : Nat) a0) ++ List.take (32 : Nat) (List.drop (0 : Nat) a1))) (some (Prod.fst (Sp.v_12 ([(255 : Int)] ++ List.take (32 : Nat) (List.drop (0 : Nat) a0) ++ List.take (32 : Nat) (List.drop (0 : Nat) a1))), PUnit.unit))))
theorem fn_42 (a0 : (List Int)) (a1 : (List Int)) : evFnL sm_42 FU (ovr noO (evFn sm_42 fns FU 0)) .nil ir42 (ofH [(.arr 32 (.int .u8)), (.arr 32 (.int .u8))] (a0, a1, ())) [] (pureK [(.arr 32 (.int .u8))]) = F_42 a0 a1 := by kernel_rfl
def Sp.p_42 (a0 : (List Int)) (a1 : (List Int)) : Bool := (F_42 a0 a1).isSome
def Sp.v_42 (a0 : (List Int)) (a1 : (List Int)) : (List Int) × Unit := (F_42 a0 a1).getD (dfH [(.arr 32 (.int .u8))])
def s_42 : Summ := shN [(.arr 32 (.int .u8)), (.arr 32 (.int .u8))] [(.arr 32 (.int .u8))] (fun x => Sp.p_42 x.1 x.2.1) (fun x => Sp.v_42 x.1 x.2.1)
theorem pv_42 (a0 : (List Int)) (a1 : (List Int)) {y : (List Int) × Unit} (h : F_42 a0 a1 = some y) : Sp.p_42 a0 a1 = true ∧ Sp.v_42 a0 a1 = y := ⟨by rw [Sp.p_42, h]; rfl, by rw [Sp.v_42, h]; rfl⟩
theorem run_42 (x : HDen [(.arr 32 (.int .u8)), (.arr 32 (.int .u8))]) (y : HDen [(.arr 32 (.int .u8))]) (h : F_42 x.1 x.2.1 = some y) : evFn sm_42 fns FU 1 42 (ofH [(.arr 32 (.int .u8)), (.arr 32 (.int .u8))] x) [] (pureK [(.arr 32 (.int .u8))]) = some y :=
  evFnL_sound (fn := ir42) (t := .nil) (o := noO) rfl noO_ok trivial ((fn_42 _ _).trans h)
end
end Go.Ev
namespace Go.Ev
open Go
set_option maxRecDepth 100000
set_option maxHeartbeats 4000000
set_option linter.unusedVariables false
noncomputable section

def sm_45 : Nat → Option Summ := fun f => bif Nat.beq f 12 then some s_12 else none


def F_45 (a0 : (List Int)) (a1 : Int) (a2 : Int) : Option ((List Int) × Unit) :=
  gd (room ((0 : Nat) + List.length (List.take (32 : Nat) (List.drop (0 : Nat) a0))) (1 : Nat)) (gd (room (List.length ([] ++ List.take (32 : Nat) (List.drop (0 : Nat) a0)) + (2 : Nat)) (1 : Nat)) (gd (Sp.p_12 ([] ++ List.take (32 : Nat) (List.drop (0 : Nat) a0) ++ [IntKind.wrap IntKind.u8 a1, IntKind.wrap IntKind.u8 a2])) (some (Prod.fst (Sp.v_12 ([] ++ List.take (32 : Nat) (List.drop (0 : Nat) a0) ++ [IntKind.wrap IntKind.u8 a1, IntKind.wrap IntKind.u8 a2])), PUnit.unit))))
theorem fn_45 (a0 : (List Int)) (a1 : Int) (a2 : Int) : evFnL sm_45 FU (ovr noO (evFn sm_45 fns FU 0)) .nil ir45 (ofH [(.arr 32 (.int .u8)), (.int .i64), (.int .i64)] (a0, a1, a2, ())) [] (pureK [(.arr 32 (.int .u8))]) = F_45 a0 a1 a2 := by kernel_rfl
def Sp.p_45 (a0 : (List Int)) (a1 : Int) (a2 : Int) : Bool := (F_45 a0 a1 a2).isSome
def Sp.v_45 (a0 : (List Int)) (a1 : Int) (a2 : Int) : (List Int) × Unit := (F_45 a0 a1 a2).getD (dfH [(.arr 32 (.int .u8))])
def s_45 : Summ := shN [(.arr 32 (.int .u8)), (.int .i64), (.int .i64)] [(.arr 32 (.int .u8))] (fun x => Sp.p_45 x.1 x.2.1 x.2.2.1) (fun x => Sp.v_45 x.1 x.2.1 x.2.2.1)
theorem pv_45 (a0 : (List Int)) (a1 : Int) (a2 : Int) {y : (List Int) × Unit} (h : F_45 a0 a1 a2 = some y) : Sp.p_45 a0 a1 a2 = true ∧ Sp.v_45 a0 a1 a2 = y := ⟨by rw [Sp.p_45, h]; rfl, by rw [Sp.v_45, h]; rfl⟩
theorem run_45 (x : HDen [(.arr 32 (.int .u8)), (.int .i64), (.int .i64)]) (y : HDen [(.arr 32 (.int .u8))]) (h : F_45 x.1 x.2.1 x.2.2.1 = some y) : evFn sm_45 fns FU 1 45 (ofH [(.arr 32 (.int .u8)), (.int .i64), (.int .i64)] x) [] (pureK [(.arr 32 (.int .u8))]) = some y :=
  evFnL_sound (fn := ir45) (t := .nil) (o := noO) rfl noO_ok trivial ((fn_45 _ _ _).trans h)
end
end Go.Ev
namespace Go.Ev
open Go
set_option maxRecDepth 100000
set_option maxHeartbeats 4000000
set_option linter.unusedVariables false
noncomputable section

def sm_41 : Nat → Option Summ := fun f => bif Nat.beq f 12 then some s_12 else none
def T_41_0 (p0 : List (List Int)) (p1 : Int) (p2 : List Int) (p3 : List Int) : St := St.mk [CV.pure (Ty.slice (Ty.arr (32 : Nat) (Ty.int IntKind.u8))) p0, CV.junk, CV.ptr (0 : Nat) [], CV.whole (1 : Nat), CV.int IntKind.i64 p1, CV.junk, CV.junk, CV.junk, CV.junk, CV.junk, CV.junk, CV.junk, CV.junk, CV.junk, CV.junk, CV.junk, CV.junk, CV.junk, CV.junk] [Blk.mem (CV.pure (Ty.arr (32 : Nat) (Ty.int IntKind.u8)) p2), Blk.vec (5 : Nat) (Ty.int IntKind.u8) p3] (0 : Nat)
def X_41_0_0 (p2 : List Int) (p3 : List Int) : St := St.mk [CV.junk, CV.junk, CV.ptr (0 : Nat) [], CV.whole (1 : Nat), CV.junk, CV.junk, CV.junk, CV.junk, CV.junk, CV.junk, CV.junk, CV.junk, CV.junk, CV.junk, CV.junk, CV.junk, CV.junk, CV.junk, CV.junk] [Blk.mem (CV.pure (Ty.arr (32 : Nat) (Ty.int IntKind.u8)) p2), Blk.vec (5 : Nat) (Ty.int IntKind.u8) p3] (0 : Nat)
inductive Sp.E_41_0 where
  | e0 (p2 : List Int) (p3 : List Int)
def Sp.B_41_0 {R : Type} (r : Option Sp.E_41_0) (k0 : (List Int) → (List Int) → Option R) : Option R := match r with
  | none => none
  | some (.e0 p2 p3) => k0 p2 p3
def Sp.L_41_0 : Nat → (List (List Int)) → (Int) → (List Int) → (List Int) → Option Sp.E_41_0
  | 0, _, _, _, _ => none
  | m + 1, p0, p1, p2, p3 => bif decide (p1 < (↑(List.length p0) : Int)) then gd (inB p1 (List.length p0)) (gd (room (List.length p3 + List.length (List.take (32 : Nat) (List.drop (0 : Nat) (List.getD p0 (Int.toNat p1) (Ty.dflt (Ty.arr (32 : Nat) (Ty.int IntKind.u8))))))) (1 : Nat)) (Sp.L_41_0 m p0 (IntKind.wrap IntKind.i64 (p1 + (1 : Int))) p2 (p3 ++ List.take (32 : Nat) (List.drop (0 : Nat) (List.getD p0 (Int.toNat p1) (Ty.dflt (Ty.arr (32 : Nat) (Ty.int IntKind.u8)))))))) else some (Sp.E_41_0.e0 p2 p3)
def G_41_0 {R : Type} (p0 : List (List Int)) (p1 : Int) (p2 : List Int) (p3 : List Int) (k : Ex → St → Option R) : Option R := Sp.B_41_0 (Sp.L_41_0 FU p0 p1 p2 p3) (fun p2 p3 => k (Ex.exit (0 : Nat)) (X_41_0_0 p2 p3))
def o_41_0 {R : Type} (G : (List (List Int)) → (Int) → (List Int) → (List Int) → (Ex → St → Option R) → Option R) : St → (Ex → St → Option R) → Option R := fun T k => match T.sl.getD 0 .junk, T.sl.getD 2 .junk, T.sl.getD 3 .junk, T.sl.getD 4 .junk, T.hp with
  | CV.pure (Ty.slice (Ty.arr (32 : Nat) (Ty.int IntKind.u8))) p0, CV.ptr (0 : Nat) [], CV.whole (1 : Nat), CV.int IntKind.i64 p1, ((Blk.mem (CV.pure (Ty.arr (32 : Nat) (Ty.int IntKind.u8)) p2)) :: (Blk.vec (5 : Nat) (Ty.int IntKind.u8) p3) :: []) => gd (shapeOK T 19 [0, 2, 3, 4] (0 : Nat)) (G p0 p1 p2 p3 k)
  | _, _, _, _, _ => none
theorem o_41_0_inv {R : Type} {G : (List (List Int)) → (Int) → (List Int) → (List Int) → (Ex → St → Option R) → Option R} {T : St} {k : Ex → St → Option R} {r : R} (h : o_41_0 G T k = some r) : ∃ p0 p1 p2 p3, T = T_41_0 p0 p1 p2 p3 ∧ G p0 p1 p2 p3 k = some r := by
  unfold o_41_0 at h
  split at h
  · obtain ⟨hs, h'⟩ := gd_some h
    refine ⟨_, _, _, _, (st_of (asg := [(0, _), (2, _), (3, _), (4, _)]) hs ⟨by assumption, by assumption, by assumption, by assumption, trivial⟩ (by assumption)).trans ?_, h'⟩
    kernel_rfl
  · cases h
def O_41_41_0 {R : Type} : St → (Ex → St → Option R) → Option R := fun T k => o_41_0 G_41_0 T k
theorem body_41_0 {R : Type} (K0 : St → Option R) (K1 : Ex → St → Option R) (p0 : List (List Int)) (p1 : Int) (p2 : List Int) (p3 : List Int) : evLB (evCodeL sm_41 FU (ovr noO (evFn sm_41 fns FU 0)) .nil ir41_b0) (St.norm ir41_v0) (T_41_0 p0 p1 p2 p3) K0 K1 =
  bif decide (p1 < (↑(List.length p0) : Int)) then gd (inB p1 (List.length p0)) (gd (room (List.length p3 + List.length (List.take (32 : Nat) (List.drop (0 : Nat) (List.getD p0 (Int.toNat p1) (Ty.dflt (Ty.arr (32 : Nat) (Ty.int IntKind.u8))))))) (1 : Nat)) (K0 (T_41_0 p0 (IntKind.wrap IntKind.i64 (p1 + (1 : Int))) p2 (p3 ++ List.take (32 : Nat) (List.drop (0 : Nat) (List.getD p0 (Int.toNat p1) (Ty.dflt (Ty.arr (32 : Nat) (Ty.int IntKind.u8))))))))) else K1 (Ex.exit (0 : Nat)) (X_41_0_0 p2 p3) := by kernel_rfl
theorem Bgd_41_0 {R : Type} {c : Bool} {x : Option R} {y : Option Sp.E_41_0} {k0 : (List Int) → (List Int) → Option R} (h : x = Sp.B_41_0 y k0) : gd c x = Sp.B_41_0 (gd c y) k0 := by cases c; rfl; exact h
theorem Bcond_41_0 {R : Type} {c : Bool} {x x' : Option R} {y y' : Option Sp.E_41_0} {k0 : (List Int) → (List Int) → Option R} (h : x = Sp.B_41_0 y k0) (h' : x' = Sp.B_41_0 y' k0) : (bif c then x else x') = Sp.B_41_0 (bif c then y else y') k0 := by cases c; exact h'; exact h
theorem loop_41_0 {R : Type} (k : Ex → St → Option R) : ∀ (m : Nat) (p0 : List (List Int)) (p1 : Int) (p2 : List Int) (p3 : List Int), evLoopN (evCodeL sm_41 FU (ovr noO (evFn sm_41 fns FU 0)) .nil ir41_b0) (St.norm ir41_v0) m (T_41_0 p0 p1 p2 p3) k = Sp.B_41_0 (Sp.L_41_0 m p0 p1 p2 p3) (fun p2 p3 => k (Ex.exit (0 : Nat)) (X_41_0_0 p2 p3))
  | 0, _, _, _, _ => rfl
  | m + 1, p0, p1, p2, p3 => by
    rw [evLoopN_succ, body_41_0, Sp.L_41_0]
    repeat' first | apply Bgd_41_0 | apply Bcond_41_0 | exact loop_41_0 k m _ _ _ _ | rfl
theorem ok_41_0 {R : Type} (T : St) (k : Ex → St → Option R) (r : R) (h0 : o_41_0 G_41_0 T k = some r) : evLoopN (evCode sm_41 FU (evFn sm_41 fns FU 0) ir41_b0) (St.norm ir41_v0) FU T k = some r := by
  obtain ⟨p0, p1, p2, p3, rfl, h⟩ := o_41_0_inv h0
  refine evLoopN_L (t := .nil) noO_ok trivial _ _ _ _ ?_
  rw [loop_41_0]
  exact h
theorem OK_41_41_0 {R : Type} (T : St) (k : Ex → St → Option R) (r : R) (h : O_41_41_0 T k = some r) : evLoopN (evCode sm_41 FU (evFn sm_41 fns FU 0) ir41_b0) (St.norm ir41_v0) FU T k = some r := ok_41_0 T k r h
def F_41 (a0 : (List (List Int))) : Option ((List Int) × Unit) :=
  Sp.B_41_0 (Sp.L_41_0 (4611686018427387904 : Nat) a0 (0 : Int) (List.replicate (32 : Nat) (0 : Int)) []) fun (y2 y3 : List Int) => gd (Sp.p_12 y3) (some (Prod.fst (Sp.v_12 y3), PUnit.unit))
theorem fn_41 (a0 : (List (List Int))) : evFnL sm_41 FU (ovr noO (evFn sm_41 fns FU 0)) (ir41_t O_41_41_0) ir41 (ofH [(.slice (.arr 32 (.int .u8)))] (a0, ())) [] (pureK [(.arr 32 (.int .u8))]) = F_41 a0 := by kernel_rfl
def Sp.p_41 (a0 : (List (List Int))) : Bool := (F_41 a0).isSome
def Sp.v_41 (a0 : (List (List Int))) : (List Int) × Unit := (F_41 a0).getD (dfH [(.arr 32 (.int .u8))])
def s_41 : Summ := shN [(.slice (.arr 32 (.int .u8)))] [(.arr 32 (.int .u8))] (fun x => Sp.p_41 x.1) (fun x => Sp.v_41 x.1)
theorem pv_41 (a0 : (List (List Int))) {y : (List Int) × Unit} (h : F_41 a0 = some y) : Sp.p_41 a0 = true ∧ Sp.v_41 a0 = y := ⟨by rw [Sp.p_41, h]; rfl, by rw [Sp.v_41, h]; rfl⟩
theorem run_41 (x : HDen [(.slice (.arr 32 (.int .u8)))]) (y : HDen [(.arr 32 (.int .u8))]) (h : F_41 x.1 = some y) : evFn sm_41 fns FU 1 41 (ofH [(.slice (.arr 32 (.int .u8)))] x) [] (pureK [(.arr 32 (.int .u8))]) = some y :=
  evFnL_sound (fn := ir41) (t := (ir41_t O_41_41_0)) (o := noO) rfl noO_ok (ir41_tok (fun T k r => OK_41_41_0 T k r)) ((fn_41 _).trans h)
end
end Go.Ev
namespace Go.Ev
open Go
set_option maxRecDepth 100000
set_option maxHeartbeats 4000000
set_option linter.unusedVariables false
noncomputable section

def sm_46 : Nat → Option Summ := fun f => bif Nat.beq f 17 then some s_17 else bif Nat.beq f 41 then some s_41 else bif Nat.beq f 45 then some s_45 else none
def T_46_0 (p0 : Int) (p1 : Int) (p2 : List Int) (p3 : List Int) (p4 : List (List Int)) : St := St.mk [CV.junk, CV.int IntKind.i64 p0, CV.ptr (0 : Nat) [], CV.junk, CV.ptr (1 : Nat) [], CV.whole (2 : Nat), CV.int IntKind.i64 p1, CV.junk, CV.junk, CV.junk, CV.junk, CV.junk, CV.junk, CV.junk, CV.junk, CV.junk, CV.junk, CV.junk, CV.junk, CV.junk, CV.junk] [Blk.mem (CV.pure (Ty.arr (32 : Nat) (Ty.int IntKind.u8)) p2), Blk.mem (CV.pure (Ty.arr (32 : Nat) (Ty.int IntKind.u8)) p3), Blk.vec (25 : Nat) (Ty.arr (32 : Nat) (Ty.int IntKind.u8)) p4] (0 : Nat)
def X_46_0_0 (p3 : List Int) (p4 : List (List Int)) : St := St.mk [CV.junk, CV.junk, CV.junk, CV.junk, CV.ptr (0 : Nat) [], CV.whole (1 : Nat), CV.junk, CV.junk, CV.junk, CV.junk, CV.junk, CV.junk, CV.junk, CV.junk, CV.junk, CV.junk, CV.junk, CV.junk, CV.junk, CV.junk, CV.junk] [Blk.mem (CV.pure (Ty.arr (32 : Nat) (Ty.int IntKind.u8)) p3), Blk.vec (25 : Nat) (Ty.arr (32 : Nat) (Ty.int IntKind.u8)) p4] (0 : Nat)
inductive Sp.E_46_0 where
  | e0 (p3 : List Int) (p4 : List (List Int))
def Sp.B_46_0 {R : Type} (r : Option Sp.E_46_0) (k0 : (List Int) → (List (List Int)) → Option R) : Option R := match r with
  | none => none
  | some (.e0 p3 p4) => k0 p3 p4
def Sp.L_46_0 : Nat → (Int) → (Int) → (List Int) → (List Int) → (List (List Int)) → Option Sp.E_46_0
  | 0, _, _, _, _, _ => none
  | m + 1, p0, p1, p2, p3, p4 => bif decide (p1 < (67 : Int)) then gd (Sp.p_45 p2 p0 p1) (gd (Sp.p_17 (Prod.fst (Sp.v_45 p2 p0 p1)) (0 : Int) (15 : Int)) (gd (room (List.length p4 + (1 : Nat)) (32 : Nat)) (Sp.L_46_0 m p0 (IntKind.wrap IntKind.i64 (p1 + (1 : Int))) p2 p3 (p4 ++ [Prod.fst (Sp.v_17 (Prod.fst (Sp.v_45 p2 p0 p1)) (0 : Int) (15 : Int))])))) else some (Sp.E_46_0.e0 p3 p4)
def G_46_0 {R : Type} (p0 : Int) (p1 : Int) (p2 : List Int) (p3 : List Int) (p4 : List (List Int)) (k : Ex → St → Option R) : Option R := Sp.B_46_0 (Sp.L_46_0 FU p0 p1 p2 p3 p4) (fun p3 p4 => k (Ex.exit (0 : Nat)) (X_46_0_0 p3 p4))
def o_46_0 {R : Type} (G : (Int) → (Int) → (List Int) → (List Int) → (List (List Int)) → (Ex → St → Option R) → Option R) : St → (Ex → St → Option R) → Option R := fun T k => match T.sl.getD 1 .junk, T.sl.getD 2 .junk, T.sl.getD 4 .junk, T.sl.getD 5 .junk, T.sl.getD 6 .junk, T.hp with
  | CV.int IntKind.i64 p0, CV.ptr (0 : Nat) [], CV.ptr (1 : Nat) [], CV.whole (2 : Nat), CV.int IntKind.i64 p1, ((Blk.mem (CV.pure (Ty.arr (32 : Nat) (Ty.int IntKind.u8)) p2)) :: (Blk.mem (CV.pure (Ty.arr (32 : Nat) (Ty.int IntKind.u8)) p3)) :: (Blk.vec (25 : Nat) (Ty.arr (32 : Nat) (Ty.int IntKind.u8)) p4) :: []) => gd (shapeOK T 21 [1, 2, 4, 5, 6] (0 : Nat)) (G p0 p1 p2 p3 p4 k)
  | _, _, _, _, _, _ => none
theorem o_46_0_inv {R : Type} {G : (Int) → (Int) → (List Int) → (List Int) → (List (List Int)) → (Ex → St → Option R) → Option R} {T : St} {k : Ex → St → Option R} {r : R} (h : o_46_0 G T k = some r) : ∃ p0 p1 p2 p3 p4, T = T_46_0 p0 p1 p2 p3 p4 ∧ G p0 p1 p2 p3 p4 k = some r := by
  unfold o_46_0 at h
  split at h
  · obtain ⟨hs, h'⟩ := gd_some h
    refine ⟨_, _, _, _, _, (st_of (asg := [(1, _), (2, _), (4, _), (5, _), (6, _)]) hs ⟨by assumption, by assumption, by assumption, by assumption, by assumption, trivial⟩ (by assumption)).trans ?_, h'⟩
    kernel_rfl
  · cases h
def O_46_46_0 {R : Type} : St → (Ex → St → Option R) → Option R := fun T k => o_46_0 G_46_0 T k
theorem body_46_0 {R : Type} (K0 : St → Option R) (K1 : Ex → St → Option R) (p0 : Int) (p1 : Int) (p2 : List Int) (p3 : List Int) (p4 : List (List Int)) : evLB (evCodeL sm_46 FU (ovr noO (evFn sm_46 fns FU 0)) .nil ir46_b0) (St.norm ir46_v0) (T_46_0 p0 p1 p2 p3 p4) K0 K1 =
  bif decide (p1 < (67 : Int)) then gd (Sp.p_45 p2 p0 p1) (gd (Sp.p_17 (Prod.fst (Sp.v_45 p2 p0 p1)) (0 : Int) (15 : Int)) (gd (room (List.length p4 + (1 : Nat)) (32 : Nat)) (K0 (T_46_0 p0 (IntKind.wrap IntKind.i64 (p1 + (1 : Int))) p2 p3 (p4 ++ [Prod.fst (Sp.v_17 (Prod.fst (Sp.v_45 p2 p0 p1)) (0 : Int) (15 : Int))]))))) else K1 (Ex.exit (0 : Nat)) (X_46_0_0 p3 p4) := by kernel_rfl
theorem Bgd_46_0 {R : Type} {c : Bool} {x : Option R} {y : Option Sp.E_46_0} {k0 : (List Int) → (List (List Int)) → Option R} (h : x = Sp.B_46_0 y k0) : gd c x = Sp.B_46_0 (gd c y) k0 := by cases c; rfl; exact h
theorem Bcond_46_0 {R : Type} {c : Bool} {x x' : Option R} {y y' : Option Sp.E_46_0} {k0 : (List Int) → (List (List Int)) → Option R} (h : x = Sp.B_46_0 y k0) (h' : x' = Sp.B_46_0 y' k0) : (bif c then x else x') = Sp.B_46_0 (bif c then y else y') k0 := by cases c; exact h'; exact h
theorem loop_46_0 {R : Type} (k : Ex → St → Option R) : ∀ (m : Nat) (p0 : Int) (p1 : Int) (p2 : List Int) (p3 : List Int) (p4 : List (List Int)), evLoopN (evCodeL sm_46 FU (ovr noO (evFn sm_46 fns FU 0)) .nil ir46_b0) (St.norm ir46_v0) m (T_46_0 p0 p1 p2 p3 p4) k = Sp.B_46_0 (Sp.L_46_0 m p0 p1 p2 p3 p4) (fun p3 p4 => k (Ex.exit (0 : Nat)) (X_46_0_0 p3 p4))
  | 0, _, _, _, _, _ => rfl
  | m + 1, p0, p1, p2, p3, p4 => by
    rw [evLoopN_succ, body_46_0, Sp.L_46_0]
    repeat' first | apply Bgd_46_0 | apply Bcond_46_0 | exact loop_46_0 k m _ _ _ _ _ | rfl
theorem ok_46_0 {R : Type} (T : St) (k : Ex → St → Option R) (r : R) (h0 : o_46_0 G_46_0 T k = some r) : evLoopN (evCode sm_46 FU (evFn sm_46 fns FU 0) ir46_b0) (St.norm ir46_v0) FU T k = some r := by
  obtain ⟨p0, p1, p2, p3, p4, rfl, h⟩ := o_46_0_inv h0
  refine evLoopN_L (t := .nil) noO_ok trivial _ _ _ _ ?_
  rw [loop_46_0]
  exact h
theorem OK_46_46_0 {R : Type} (T : St) (k : Ex → St → Option R) (r : R) (h : O_46_46_0 T k = some r) : evLoopN (evCode sm_46 FU (evFn sm_46 fns FU 0) ir46_b0) (St.norm ir46_v0) FU T k = some r := ok_46_0 T k r h
def F_46 (a0 : (List Int)) (a1 : Int) : Option ((List Int) × Unit) :=
  Sp.B_46_0 (Sp.L_46_0 (4611686018427387904 : Nat) a1 (0 : Int) a0 (List.replicate (32 : Nat) (0 : Int)) []) fun (y2 : List Int) (y3 : List (List Int)) => gd (Sp.p_41 y3) (some (Prod.fst (Sp.v_41 y3), PUnit.unit))
theorem fn_46 (a0 : (List Int)) (a1 : Int) : evFnL sm_46 FU (ovr noO (evFn sm_46 fns FU 0)) (ir46_t O_46_46_0) ir46 (ofH [(.arr 32 (.int .u8)), (.int .i64)] (a0, a1, ())) [] (pureK [(.arr 32 (.int .u8))]) = F_46 a0 a1 := by kernel_rfl
def Sp.p_46 (a0 : (List Int)) (a1 : Int) : Bool := (F_46 a0 a1).isSome
def Sp.v_46 (a0 : (List Int)) (a1 : Int) : (List Int) × Unit := (F_46 a0 a1).getD (dfH [(.arr 32 (.int .u8))])
def s_46 : Summ := shN [(.arr 32 (.int .u8)), (.int .i64)] [(.arr 32 (.int .u8))] (fun x => Sp.p_46 x.1 x.2.1) (fun x => Sp.v_46 x.1 x.2.1)
theorem pv_46 (a0 : (List Int)) (a1 : Int) {y : (List Int) × Unit} (h : F_46 a0 a1 = some y) : Sp.p_46 a0 a1 = true ∧ Sp.v_46 a0 a1 = y := ⟨by rw [Sp.p_46, h]; rfl, by rw [Sp.v_46, h]; rfl⟩
theorem run_46 (x : HDen [(.arr 32 (.int .u8)), (.int .i64)]) (y : HDen [(.arr 32 (.int .u8))]) (h : F_46 x.1 x.2.1 = some y) : evFn sm_46 fns FU 1 46 (ofH [(.arr 32 (.int .u8)), (.int .i64)] x) [] (pureK [(.arr 32 (.int .u8))]) = some y :=
  evFnL_sound (fn := ir46) (t := (ir46_t O_46_46_0)) (o := noO) rfl noO_ok (ir46_tok (fun T k r => OK_46_46_0 T k r)) ((fn_46 _ _).trans h)
end
end Go.Ev
namespace Go.Ev
open Go
set_option maxRecDepth 100000
set_option maxHeartbeats 4000000
set_option linter.unusedVariables false
noncomputable section

def sm_22 : Nat → Option Summ := fun f => bif Nat.beq f 15 then some s_15 else bif Nat.beq f 17 then some s_17 else bif Nat.beq f 42 then some s_42 else bif Nat.beq f 45 then some s_45 else bif Nat.beq f 46 then some s_46 else none
def T_22_0 (p0 : Int) (p1 : List Int) (p2 : Int) (p3 : List Int) (p4 : Int) (p5 : List (List Int)) (p6 : List (List Int)) (p7 : Int) (p8 : List (List Int)) (p9 : List (List Int)) : St := St.mk [CV.junk, CV.int IntKind.i64 p0, CV.junk, CV.ptr (0 : Nat) [], CV.junk, CV.junk, CV.ptr (1 : Nat) [], CV.pure (Ty.slice (Ty.int IntKind.i64)) p1, CV.ptr (4 : Nat) [], CV.int IntKind.i64 p2, CV.junk, CV.junk, CV.junk, CV.junk, CV.junk, CV.junk, CV.junk, CV.junk, CV.junk, CV.junk, CV.junk, CV.junk, CV.junk, CV.junk, CV.junk, CV.junk, CV.junk, CV.junk, CV.junk, CV.junk, CV.junk, CV.junk, CV.junk, CV.junk, CV.junk, CV.junk, CV.junk, CV.junk, CV.junk, CV.junk, CV.junk, CV.junk, CV.junk, CV.junk, CV.junk, CV.junk, CV.junk, CV.junk, CV.junk, CV.junk, CV.junk, CV.junk, CV.junk, CV.junk] [Blk.mem (CV.pure (Ty.arr (32 : Nat) (Ty.int IntKind.u8)) p3), Blk.mem (CV.pair (CV.int IntKind.i64 p4) (CV.pair (CV.whole (2 : Nat)) (CV.pair (CV.whole (3 : Nat)) (CV.pure Ty.unit PUnit.unit)))), Blk.vec (25 : Nat) (Ty.arr (32 : Nat) (Ty.int IntKind.u8)) p5, Blk.vec (25 : Nat) (Ty.arr (32 : Nat) (Ty.int IntKind.u8)) p6, Blk.mem (CV.pair (CV.int IntKind.i64 p7) (CV.pair (CV.whole (5 : Nat)) (CV.pair (CV.whole (6 : Nat)) (CV.pure Ty.unit PUnit.unit)))), Blk.vec (25 : Nat) (Ty.arr (32 : Nat) (Ty.int IntKind.u8)) p8, Blk.vec (25 : Nat) (Ty.arr (32 : Nat) (Ty.int IntKind.u8)) p9] (0 : Nat)
def X_22_0_0 (p0 : Int) (p3 : List Int) (p4 : Int) (p5 : List (List Int)) (p6 : List (List Int)) (p7 : Int) (p8 : List (List Int)) (p9 : List (List Int)) : St := St.mk [CV.junk, CV.int IntKind.i64 p0, CV.junk, CV.ptr (0 : Nat) [], CV.junk, CV.junk, CV.ptr (1 : Nat) [], CV.junk, CV.ptr (4 : Nat) [], CV.junk, CV.junk, CV.junk, CV.junk, CV.junk, CV.junk, CV.junk, CV.junk, CV.junk, CV.junk, CV.junk, CV.junk, CV.junk, CV.junk, CV.junk, CV.junk, CV.junk, CV.junk, CV.junk, CV.junk, CV.junk, CV.junk, CV.junk, CV.junk, CV.junk, CV.junk, CV.junk, CV.junk, CV.junk, CV.junk, CV.junk, CV.junk, CV.junk, CV.junk, CV.junk, CV.junk, CV.junk, CV.junk, CV.junk, CV.junk, CV.junk, CV.junk, CV.junk, CV.junk, CV.junk] [Blk.mem (CV.pure (Ty.arr (32 : Nat) (Ty.int IntKind.u8)) p3), Blk.mem (CV.pair (CV.int IntKind.i64 p4) (CV.pair (CV.whole (2 : Nat)) (CV.pair (CV.whole (3 : Nat)) (CV.pure Ty.unit PUnit.unit)))), Blk.vec (25 : Nat) (Ty.arr (32 : Nat) (Ty.int IntKind.u8)) p5, Blk.vec (25 : Nat) (Ty.arr (32 : Nat) (Ty.int IntKind.u8)) p6, Blk.mem (CV.pair (CV.int IntKind.i64 p7) (CV.pair (CV.whole (5 : Nat)) (CV.pair (CV.whole (6 : Nat)) (CV.pure Ty.unit PUnit.unit)))), Blk.vec (25 : Nat) (Ty.arr (32 : Nat) (Ty.int IntKind.u8)) p8, Blk.vec (25 : Nat) (Ty.arr (32 : Nat) (Ty.int IntKind.u8)) p9] (0 : Nat)
inductive Sp.E_22_0 where
  | e0 (p0 : Int) (p3 : List Int) (p4 : Int) (p5 : List (List Int)) (p6 : List (List Int)) (p7 : Int) (p8 : List (List Int)) (p9 : List (List Int))
def Sp.B_22_0 {R : Type} (r : Option Sp.E_22_0) (k0 : (Int) → (List Int) → (Int) → (List (List Int)) → (List (List Int)) → (Int) → (List (List Int)) → (List (List Int)) → Option R) : Option R := match r with
  | none => none
  | some (.e0 p0 p3 p4 p5 p6 p7 p8 p9) => k0 p0 p3 p4 p5 p6 p7 p8 p9
def Sp.L_22_0 : Nat → (Int) → (List Int) → (Int) → (List Int) → (Int) → (List (List Int)) → (List (List Int)) → (Int) → (List (List Int)) → (List (List Int)) → Option Sp.E_22_0
  | 0, _, _, _, _, _, _, _, _, _, _ => none
  | m + 1, p0, p1, p2, p3, p4, p5, p6, p7, p8, p9 => bif decide (p2 < (67 : Int)) then gd (Sp.p_45 p3 p0 p2) (gd (inB p2 (List.length p1)) (gd (Sp.p_17 (Prod.fst (Sp.v_45 p3 p0 p2)) (0 : Int) (List.getD p1 (Int.toNat p2) (0 : Int))) (gd (room (List.length p8 + (1 : Nat)) (32 : Nat)) (Sp.L_22_0 m p0 p1 (IntKind.wrap IntKind.i64 (p2 + (1 : Int))) p3 p4 p5 p6 p7 (p8 ++ [Prod.fst (Sp.v_17 (Prod.fst (Sp.v_45 p3 p0 p2)) (0 : Int) (List.getD p1 (Int.toNat p2) (0 : Int)))]) p9)))) else some (Sp.E_22_0.e0 p0 p3 p4 p5 p6 p7 p8 p9)
def G_22_0 {R : Type} (p0 : Int) (p1 : List Int) (p2 : Int) (p3 : List Int) (p4 : Int) (p5 : List (List Int)) (p6 : List (List Int)) (p7 : Int) (p8 : List (List Int)) (p9 : List (List Int)) (k : Ex → St → Option R) : Option R := Sp.B_22_0 (Sp.L_22_0 FU p0 p1 p2 p3 p4 p5 p6 p7 p8 p9) (fun p0 p3 p4 p5 p6 p7 p8 p9 => k (Ex.exit (0 : Nat)) (X_22_0_0 p0 p3 p4 p5 p6 p7 p8 p9))
def o_22_0 {R : Type} (G : (Int) → (List Int) → (Int) → (List Int) → (Int) → (List (List Int)) → (List (List Int)) → (Int) → (List (List Int)) → (List (List Int)) → (Ex → St → Option R) → Option R) : St → (Ex → St → Option R) → Option R := fun T k => match T.sl.getD 1 .junk, T.sl.getD 3 .junk, T.sl.getD 6 .junk, T.sl.getD 7 .junk, T.sl.getD 8 .junk, T.sl.getD 9 .junk, T.hp with
  | CV.int IntKind.i64 p0, CV.ptr (0 : Nat) [], CV.ptr (1 : Nat) [], CV.pure (Ty.slice (Ty.int IntKind.i64)) p1, CV.ptr (4 : Nat) [], CV.int IntKind.i64 p2, ((Blk.mem (CV.pure (Ty.arr (32 : Nat) (Ty.int IntKind.u8)) p3)) :: (Blk.mem (CV.pair (CV.int IntKind.i64 p4) (CV.pair (CV.whole (2 : Nat)) (CV.pair (CV.whole (3 : Nat)) (CV.pure Ty.unit PUnit.unit))))) :: (Blk.vec (25 : Nat) (Ty.arr (32 : Nat) (Ty.int IntKind.u8)) p5) :: (Blk.vec (25 : Nat) (Ty.arr (32 : Nat) (Ty.int IntKind.u8)) p6) :: (Blk.mem (CV.pair (CV.int IntKind.i64 p7) (CV.pair (CV.whole (5 : Nat)) (CV.pair (CV.whole (6 : Nat)) (CV.pure Ty.unit PUnit.unit))))) :: (Blk.vec (25 : Nat) (Ty.arr (32 : Nat) (Ty.int IntKind.u8)) p8) :: (Blk.vec (25 : Nat) (Ty.arr (32 : Nat) (Ty.int IntKind.u8)) p9) :: []) => gd (shapeOK T 54 [1, 3, 6, 7, 8, 9] (0 : Nat)) (G p0 p1 p2 p3 p4 p5 p6 p7 p8 p9 k)
  | _, _, _, _, _, _, _ => none
theorem o_22_0_inv {R : Type} {G : (Int) → (List Int) → (Int) → (List Int) → (Int) → (List (List Int)) → (List (List Int)) → (Int) → (List (List Int)) → (List (List Int)) → (Ex → St → Option R) → Option R} {T : St} {k : Ex → St → Option R} {r : R} (h : o_22_0 G T k = some r) : ∃ p0 p1 p2 p3 p4 p5 p6 p7 p8 p9, T = T_22_0 p0 p1 p2 p3 p4 p5 p6 p7 p8 p9 ∧ G p0 p1 p2 p3 p4 p5 p6 p7 p8 p9 k = some r := by
  unfold o_22_0 at h
  split at h
  · obtain ⟨hs, h'⟩ := gd_some h
    refine ⟨_, _, _, _, _, _, _, _, _, _, (st_of (asg := [(1, _), (3, _), (6, _), (7, _), (8, _), (9, _)]) hs ⟨by assumption, by assumption, by assumption, by assumption, by assumption, by assumption, trivial⟩ (by assumption)).trans ?_, h'⟩
    kernel_rfl
  · cases h
def O_22_22_0 {R : Type} : St → (Ex → St → Option R) → Option R := fun T k => o_22_0 G_22_0 T k
theorem body_22_0 {R : Type} (K0 : St → Option R) (K1 : Ex → St → Option R) (p0 : Int) (p1 : List Int) (p2 : Int) (p3 : List Int) (p4 : Int) (p5 : List (List Int)) (p6 : List (List Int)) (p7 : Int) (p8 : List (List Int)) (p9 : List (List Int)) : evLB (evCodeL sm_22 FU (ovr noO (evFn sm_22 fns FU 0)) .nil ir22_b0) (St.norm ir22_v0) (T_22_0 p0 p1 p2 p3 p4 p5 p6 p7 p8 p9) K0 K1 =
  bif decide (p2 < (67 : Int)) then gd (Sp.p_45 p3 p0 p2) (gd (inB p2 (List.length p1)) (gd (Sp.p_17 (Prod.fst (Sp.v_45 p3 p0 p2)) (0 : Int) (List.getD p1 (Int.toNat p2) (0 : Int))) (gd (room (List.length p8 + (1 : Nat)) (32 : Nat)) (K0 (T_22_0 p0 p1 (IntKind.wrap IntKind.i64 (p2 + (1 : Int))) p3 p4 p5 p6 p7 (p8 ++ [Prod.fst (Sp.v_17 (Prod.fst (Sp.v_45 p3 p0 p2)) (0 : Int) (List.getD p1 (Int.toNat p2) (0 : Int)))]) p9))))) else K1 (Ex.exit (0 : Nat)) (X_22_0_0 p0 p3 p4 p5 p6 p7 p8 p9) := by kernel_rfl
theorem Bgd_22_0 {R : Type} {c : Bool} {x : Option R} {y : Option Sp.E_22_0} {k0 : (Int) → (List Int) → (Int) → (List (List Int)) → (List (List Int)) → (Int) → (List (List Int)) → (List (List Int)) → Option R} (h : x = Sp.B_22_0 y k0) : gd c x = Sp.B_22_0 (gd c y) k0 := by cases c; rfl; exact h
theorem Bcond_22_0 {R : Type} {c : Bool} {x x' : Option R} {y y' : Option Sp.E_22_0} {k0 : (Int) → (List Int) → (Int) → (List (List Int)) → (List (List Int)) → (Int) → (List (List Int)) → (List (List Int)) → Option R} (h : x = Sp.B_22_0 y k0) (h' : x' = Sp.B_22_0 y' k0) : (bif c then x else x') = Sp.B_22_0 (bif c then y else y') k0 := by cases c; exact h'; exact h
theorem loop_22_0 {R : Type} (k : Ex → St → Option R) : ∀ (m : Nat) (p0 : Int) (p1 : List Int) (p2 : Int) (p3 : List Int) (p4 : Int) (p5 : List (List Int)) (p6 : List (List Int)) (p7 : Int) (p8 : List (List Int)) (p9 : List (List Int)), evLoopN (evCodeL sm_22 FU (ovr noO (evFn sm_22 fns FU 0)) .nil ir22_b0) (St.norm ir22_v0) m (T_22_0 p0 p1 p2 p3 p4 p5 p6 p7 p8 p9) k = Sp.B_22_0 (Sp.L_22_0 m p0 p1 p2 p3 p4 p5 p6 p7 p8 p9) (fun p0 p3 p4 p5 p6 p7 p8 p9 => k (Ex.exit (0 : Nat)) (X_22_0_0 p0 p3 p4 p5 p6 p7 p8 p9))
  | 0, _, _, _, _, _, _, _, _, _, _ => rfl
  | m + 1, p0, p1, p2, p3, p4, p5, p6, p7, p8, p9 => by
    rw [evLoopN_succ, body_22_0, Sp.L_22_0]
    repeat' first | apply Bgd_22_0 | apply Bcond_22_0 | exact loop_22_0 k m _ _ _ _ _ _ _ _ _ _ | rfl
theorem ok_22_0 {R : Type} (T : St) (k : Ex → St → Option R) (r : R) (h0 : o_22_0 G_22_0 T k = some r) : evLoopN (evCode sm_22 FU (evFn sm_22 fns FU 0) ir22_b0) (St.norm ir22_v0) FU T k = some r := by
  obtain ⟨p0, p1, p2, p3, p4, p5, p6, p7, p8, p9, rfl, h⟩ := o_22_0_inv h0
  refine evLoopN_L (t := .nil) noO_ok trivial _ _ _ _ ?_
  rw [loop_22_0]
  exact h
theorem OK_22_22_0 {R : Type} (T : St) (k : Ex → St → Option R) (r : R) (h : O_22_22_0 T k = some r) : evLoopN (evCode sm_22 FU (evFn sm_22 fns FU 0) ir22_b0) (St.norm ir22_v0) FU T k = some r := ok_22_0 T k r h
def F_22 (a0 : (List Int)) (a1 : Int) (a2 : (List Int)) : Option ((Int × ((List (List Int)) × ((List (List Int)) × Unit))) × Unit) :=
  gd (Sp.p_15 a2) (Sp.B_22_0 (Sp.L_22_0 (4611686018427387904 : Nat) a1 (Prod.fst (Sp.v_15 a2)) (0 : Int) a0 (0 : Int) [] [] a1 [] []) fun (y8 : Int) (y9 : List Int) (y10 : Int) (y11 y12 : List (List Int)) (y13 : Int) (y14 y15 : List (List Int)) => gd (Sp.p_46 y9 (Sp.xorI IntKind.i64 y8 (1 : Int))) (gd (Sp.p_46 y9 (IntKind.wrap IntKind.i64 ((2 : Int) - IntKind.wrap IntKind.i64 (IntKind.wrap IntKind.i64 (Int.tdiv y8 (2 : Int)) * (2 : Int))))) (gd (Sp.p_46 y9 (IntKind.wrap IntKind.i64 (IntKind.wrap IntKind.i64 ((2 : Int) - IntKind.wrap IntKind.i64 (IntKind.wrap IntKind.i64 (Int.tdiv y8 (2 : Int)) * (2 : Int))) + (1 : Int)))) (gd (Sp.p_42 (Prod.fst (Sp.v_46 y9 (IntKind.wrap IntKind.i64 ((2 : Int) - IntKind.wrap IntKind.i64 (IntKind.wrap IntKind.i64 (Int.tdiv y8 (2 : Int)) * (2 : Int)))))) (Prod.fst (Sp.v_46 y9 (IntKind.wrap IntKind.i64 (IntKind.wrap IntKind.i64 ((2 : Int) - IntKind.wrap IntKind.i64 (IntKind.wrap IntKind.i64 (Int.tdiv y8 (2 : Int)) * (2 : Int))) + (1 : Int)))))) (some ((y8, y14, [Prod.fst (Sp.v_46 y9 (Sp.xorI IntKind.i64 y8 (1 : Int))), Prod.fst (Sp.v_42 (Prod.fst (Sp.v_46 y9 (IntKind.wrap IntKind.i64 ((2 : Int) - IntKind.wrap IntKind.i64 (IntKind.wrap IntKind.i64 (Int.tdiv y8 (2 : Int)) * (2 : Int)))))) (Prod.fst (Sp.v_46 y9 (IntKind.wrap IntKind.i64 (IntKind.wrap IntKind.i64 ((2 : Int) - IntKind.wrap IntKind.i64 (IntKind.wrap IntKind.i64 (Int.tdiv y8 (2 : Int)) * (2 : Int))) + (1 : Int))))))], PUnit.unit), PUnit.unit))))))
theorem fn_22 (a0 : (List Int)) (a1 : Int) (a2 : (List Int)) : evFnL sm_22 FU (ovr noO (evFn sm_22 fns FU 0)) (ir22_t O_22_22_0) ir22 (ofH [(.arr 32 (.int .u8)), (.int .i64), (.arr 32 (.int .u8))] (a0, a1, a2, ())) [] (pureK [(.pair (.int .i64) (.pair (.slice (.arr 32 (.int .u8))) (.pair (.slice (.arr 32 (.int .u8))) .unit)))]) = F_22 a0 a1 a2 := by kernel_rfl
def Sp.p_22 (a0 : (List Int)) (a1 : Int) (a2 : (List Int)) : Bool := (F_22 a0 a1 a2).isSome
def Sp.v_22 (a0 : (List Int)) (a1 : Int) (a2 : (List Int)) : (Int × ((List (List Int)) × ((List (List Int)) × Unit))) × Unit := (F_22 a0 a1 a2).getD (dfH [(.pair (.int .i64) (.pair (.slice (.arr 32 (.int .u8))) (.pair (.slice (.arr 32 (.int .u8))) .unit)))])
def s_22 : Summ := shS [(.arr 32 (.int .u8)), (.int .i64), (.arr 32 (.int .u8))] [(.pair (.int .i64) (.pair (.slice (.arr 32 (.int .u8))) (.pair (.slice (.arr 32 (.int .u8))) .unit)))] (fun x => Sp.p_22 x.1 x.2.1 x.2.2.1) (fun x => Sp.v_22 x.1 x.2.1 x.2.2.1)
theorem pv_22 (a0 : (List Int)) (a1 : Int) (a2 : (List Int)) {y : (Int × ((List (List Int)) × ((List (List Int)) × Unit))) × Unit} (h : F_22 a0 a1 a2 = some y) : Sp.p_22 a0 a1 a2 = true ∧ Sp.v_22 a0 a1 a2 = y := ⟨by rw [Sp.p_22, h]; rfl, by rw [Sp.v_22, h]; rfl⟩
theorem run_22 (x : HDen [(.arr 32 (.int .u8)), (.int .i64), (.arr 32 (.int .u8))]) (y : HDen [(.pair (.int .i64) (.pair (.slice (.arr 32 (.int .u8))) (.pair (.slice (.arr 32 (.int .u8))) .unit)))]) (h : F_22 x.1 x.2.1 x.2.2.1 = some y) : evFn sm_22 fns FU 1 22 (ofH [(.arr 32 (.int .u8)), (.int .i64), (.arr 32 (.int .u8))] x) [] (pureK [(.pair (.int .i64) (.pair (.slice (.arr 32 (.int .u8))) (.pair (.slice (.arr 32 (.int .u8))) .unit)))]) = some y :=
  evFnL_sound (fn := ir22) (t := (ir22_t O_22_22_0)) (o := noO) rfl noO_ok (ir22_tok (fun T k r => OK_22_22_0 T k r)) ((fn_22 _ _ _).trans h)
end
end Go.Ev
namespace Go.Ev
open Go
set_option maxRecDepth 100000
set_option maxHeartbeats 4000000
set_option linter.unusedVariables false
noncomputable section

def sm_23 : Nat → Option Summ := fun f => bif Nat.beq f 40 then some s_40 else bif Nat.beq f 44 then some s_44 else none


def F_23 (a0 : (List Int)) : Option ((List Int) × Unit) :=
  gd (Sp.p_44 a0 (0 : Int)) (gd (Sp.p_44 a0 (1 : Int)) (gd (Sp.p_40 (Prod.fst (Sp.v_44 a0 (0 : Int))) (Prod.fst (Sp.v_44 a0 (1 : Int)))) (gd (Sp.p_44 a0 (2 : Int)) (gd (Sp.p_44 a0 (3 : Int)) (gd (Sp.p_40 (Prod.fst (Sp.v_44 a0 (2 : Int))) (Prod.fst (Sp.v_44 a0 (3 : Int)))) (gd (Sp.p_40 (Prod.fst (Sp.v_40 (Prod.fst (Sp.v_44 a0 (0 : Int))) (Prod.fst (Sp.v_44 a0 (1 : Int))))) (Prod.fst (Sp.v_40 (Prod.fst (Sp.v_44 a0 (2 : Int))) (Prod.fst (Sp.v_44 a0 (3 : Int)))))) (some (Prod.fst (Sp.v_40 (Prod.fst (Sp.v_40 (Prod.fst (Sp.v_44 a0 (0 : Int))) (Prod.fst (Sp.v_44 a0 (1 : Int))))) (Prod.fst (Sp.v_40 (Prod.fst (Sp.v_44 a0 (2 : Int))) (Prod.fst (Sp.v_44 a0 (3 : Int)))))), PUnit.unit))))))))
theorem fn_23 (a0 : (List Int)) : evFnL sm_23 FU (ovr noO (evFn sm_23 fns FU 0)) .nil ir23 (ofH [(.arr 32 (.int .u8))] (a0, ())) [] (pureK [(.arr 32 (.int .u8))]) = F_23 a0 := by kernel_rfl
def Sp.p_23 (a0 : (List Int)) : Bool := (F_23 a0).isSome
def Sp.v_23 (a0 : (List Int)) : (List Int) × Unit := (F_23 a0).getD (dfH [(.arr 32 (.int .u8))])
def s_23 : Summ := shN [(.arr 32 (.int .u8))] [(.arr 32 (.int .u8))] (fun x => Sp.p_23 x.1) (fun x => Sp.v_23 x.1)
theorem pv_23 (a0 : (List Int)) {y : (List Int) × Unit} (h : F_23 a0 = some y) : Sp.p_23 a0 = true ∧ Sp.v_23 a0 = y := ⟨by rw [Sp.p_23, h]; rfl, by rw [Sp.v_23, h]; rfl⟩
theorem run_23 (x : HDen [(.arr 32 (.int .u8))]) (y : HDen [(.arr 32 (.int .u8))]) (h : F_23 x.1 = some y) : evFn sm_23 fns FU 1 23 (ofH [(.arr 32 (.int .u8))] x) [] (pureK [(.arr 32 (.int .u8))]) = some y :=
  evFnL_sound (fn := ir23) (t := .nil) (o := noO) rfl noO_ok trivial ((fn_23 _).trans h)
end
end Go.Ev
namespace Go.Ev
open Go
set_option maxRecDepth 100000
set_option maxHeartbeats 4000000
set_option linter.unusedVariables false
noncomputable section

def sm_24 : Nat → Option Summ := fun f => bif Nat.beq f 42 then some s_42 else bif Nat.beq f 46 then some s_46 else none


def F_24 (a0 : (List Int)) : Option ((List Int) × Unit) :=
  gd (Sp.p_46 a0 (0 : Int)) (gd (Sp.p_46 a0 (1 : Int)) (gd (Sp.p_42 (Prod.fst (Sp.v_46 a0 (0 : Int))) (Prod.fst (Sp.v_46 a0 (1 : Int)))) (gd (Sp.p_46 a0 (2 : Int)) (gd (Sp.p_46 a0 (3 : Int)) (gd (Sp.p_42 (Prod.fst (Sp.v_46 a0 (2 : Int))) (Prod.fst (Sp.v_46 a0 (3 : Int)))) (gd (Sp.p_42 (Prod.fst (Sp.v_42 (Prod.fst (Sp.v_46 a0 (0 : Int))) (Prod.fst (Sp.v_46 a0 (1 : Int))))) (Prod.fst (Sp.v_42 (Prod.fst (Sp.v_46 a0 (2 : Int))) (Prod.fst (Sp.v_46 a0 (3 : Int)))))) (some (Prod.fst (Sp.v_42 (Prod.fst (Sp.v_42 (Prod.fst (Sp.v_46 a0 (0 : Int))) (Prod.fst (Sp.v_46 a0 (1 : Int))))) (Prod.fst (Sp.v_42 (Prod.fst (Sp.v_46 a0 (2 : Int))) (Prod.fst (Sp.v_46 a0 (3 : Int)))))), PUnit.unit))))))))
theorem fn_24 (a0 : (List Int)) : evFnL sm_24 FU (ovr noO (evFn sm_24 fns FU 0)) .nil ir24 (ofH [(.arr 32 (.int .u8))] (a0, ())) [] (pureK [(.arr 32 (.int .u8))]) = F_24 a0 := by kernel_rfl
def Sp.p_24 (a0 : (List Int)) : Bool := (F_24 a0).isSome
def Sp.v_24 (a0 : (List Int)) : (List Int) × Unit := (F_24 a0).getD (dfH [(.arr 32 (.int .u8))])
def s_24 : Summ := shN [(.arr 32 (.int .u8))] [(.arr 32 (.int .u8))] (fun x => Sp.p_24 x.1) (fun x => Sp.v_24 x.1)
theorem pv_24 (a0 : (List Int)) {y : (List Int) × Unit} (h : F_24 a0 = some y) : Sp.p_24 a0 = true ∧ Sp.v_24 a0 = y := ⟨by rw [Sp.p_24, h]; rfl, by rw [Sp.v_24, h]; rfl⟩
theorem run_24 (x : HDen [(.arr 32 (.int .u8))]) (y : HDen [(.arr 32 (.int .u8))]) (h : F_24 x.1 = some y) : evFn sm_24 fns FU 1 24 (ofH [(.arr 32 (.int .u8))] x) [] (pureK [(.arr 32 (.int .u8))]) = some y :=
  evFnL_sound (fn := ir24) (t := .nil) (o := noO) rfl noO_ok trivial ((fn_24 _).trans h)
end
end Go.Ev
namespace Go.Ev
open Go
set_option maxRecDepth 100000
set_option maxHeartbeats 4000000
set_option linter.unusedVariables false
noncomputable section

def sm_7 : Nat → Option Summ := fun f => bif Nat.beq f 10 then some s_10 else bif Nat.beq f 20 then some s_20 else bif Nat.beq f 21 then some s_21 else bif Nat.beq f 22 then some s_22 else bif Nat.beq f 23 then some s_23 else bif Nat.beq f 24 then some s_24 else none
def T_7_0 (p0 : Int) (p1 : Int × List (List Int) × List (List Int) × PUnit) : St := St.mk [CV.junk, CV.junk, CV.junk, CV.junk, CV.junk, CV.junk, CV.junk, CV.ptr (0 : Nat) [], CV.int IntKind.i64 p0, CV.junk, CV.junk, CV.junk, CV.junk, CV.junk, CV.junk, CV.junk, CV.junk, CV.junk, CV.junk, CV.junk, CV.junk, CV.junk, CV.junk, CV.junk, CV.junk, CV.junk, CV.junk, CV.junk, CV.junk, CV.junk, CV.junk, CV.junk, CV.junk, CV.junk, CV.junk, CV.junk, CV.junk, CV.junk, CV.junk, CV.junk, CV.junk, CV.junk, CV.junk, CV.junk, CV.junk, CV.junk, CV.junk, CV.junk] [Blk.mem (CV.pure (Ty.pair (Ty.int IntKind.i64) (Ty.pair (Ty.slice (Ty.arr (32 : Nat) (Ty.int IntKind.u8))) (Ty.pair (Ty.slice (Ty.arr (32 : Nat) (Ty.int IntKind.u8))) Ty.unit))) p1)] (0 : Nat)
def X_7_0_0 (p1 : Int × List (List Int) × List (List Int) × PUnit) : St := St.mk [CV.junk, CV.junk, CV.junk, CV.junk, CV.junk, CV.junk, CV.bool (Prod.fst (Sp.v_21 p1 ((0 : Int), [], [], PUnit.unit))), CV.junk, CV.junk, CV.junk, CV.junk, CV.junk, CV.junk, CV.junk, CV.junk, CV.junk, CV.junk, CV.junk, CV.junk, CV.junk, CV.junk, CV.junk, CV.junk, CV.junk, CV.junk, CV.junk, CV.junk, CV.junk, CV.junk, CV.junk, CV.junk, CV.junk, CV.junk, CV.junk, CV.junk, CV.junk, CV.junk, CV.junk, CV.junk, CV.junk, CV.junk, CV.junk, CV.junk, CV.junk, CV.junk, CV.junk, CV.junk, CV.junk] [] (0 : Nat)
def X_7_0_1 : St := St.mk [CV.junk, CV.junk, CV.junk, CV.junk, CV.junk, CV.junk, CV.bool false, CV.junk, CV.junk, CV.junk, CV.junk, CV.junk, CV.junk, CV.junk, CV.junk, CV.junk, CV.junk, CV.junk, CV.junk, CV.junk, CV.junk, CV.junk, CV.junk, CV.junk, CV.junk, CV.junk, CV.junk, CV.junk, CV.junk, CV.junk, CV.junk, CV.junk, CV.junk, CV.junk, CV.junk, CV.junk, CV.junk, CV.junk, CV.junk, CV.junk, CV.junk, CV.junk, CV.junk, CV.junk, CV.junk, CV.junk, CV.junk, CV.junk] [] (0 : Nat)
inductive Sp.E_7_0 where
  | e0 (p1 : Int × List (List Int) × List (List Int) × PUnit)
  | e1
def Sp.B_7_0 {R : Type} (r : Option Sp.E_7_0) (k0 : (Int × List (List Int) × List (List Int) × PUnit) → Option R) (k1 : Option R) : Option R := match r with
  | none => none
  | some (.e0 p1) => k0 p1
  | some (.e1) => k1
def Sp.J_7_0 (p0 : Int) (p1 : Int × List (List Int) × List (List Int) × PUnit) : Option Sp.E_7_0 :=
  bif p0 == (2 : Int) then gd (Sp.p_21 p1 ((0 : Int), [], [], PUnit.unit)) (some (Sp.E_7_0.e0 p1)) else some (Sp.E_7_0.e1)
def G_7_0 {R : Type} (p0 : Int) (p1 : Int × List (List Int) × List (List Int) × PUnit) (k : Ex → St → Option R) : Option R := Sp.B_7_0 (Sp.J_7_0 p0 p1) (fun p1 => k Ex.ret (X_7_0_0 p1)) (k Ex.ret (X_7_0_1))
def o_7_0 {R : Type} (G : (Int) → (Int × List (List Int) × List (List Int) × PUnit) → (Ex → St → Option R) → Option R) : St → (Ex → St → Option R) → Option R := fun T k => match T.sl.getD 7 .junk, T.sl.getD 8 .junk, T.hp with
  | CV.ptr (0 : Nat) [], CV.int IntKind.i64 p0, ((Blk.mem (CV.pure (Ty.pair (Ty.int IntKind.i64) (Ty.pair (Ty.slice (Ty.arr (32 : Nat) (Ty.int IntKind.u8))) (Ty.pair (Ty.slice (Ty.arr (32 : Nat) (Ty.int IntKind.u8))) Ty.unit))) p1)) :: []) => gd (shapeOK T 48 [7, 8] (0 : Nat)) (G p0 p1 k)
  | _, _, _ => none
theorem o_7_0_inv {R : Type} {G : (Int) → (Int × List (List Int) × List (List Int) × PUnit) → (Ex → St → Option R) → Option R} {T : St} {k : Ex → St → Option R} {r : R} (h : o_7_0 G T k = some r) : ∃ p0 p1, T = T_7_0 p0 p1 ∧ G p0 p1 k = some r := by
  unfold o_7_0 at h
  split at h
  · obtain ⟨hs, h'⟩ := gd_some h
    refine ⟨_, _, (st_of (asg := [(7, _), (8, _)]) hs ⟨by assumption, by assumption, trivial⟩ (by assumption)).trans ?_, h'⟩
    kernel_rfl
  · cases h
def O_7_7_0 {R : Type} : St → (Ex → St → Option R) → Option R := fun T k => o_7_0 G_7_0 T k
theorem body_7_0 {R : Type} (K1 : Ex → St → Option R) (p0 : Int) (p1 : Int × List (List Int) × List (List Int) × PUnit) : evJ (evCodeL sm_7 FU (ovr noO (evFn sm_7 fns FU 0)) .nil ir7_b0) (T_7_0 p0 p1) K1 =
  bif p0 == (2 : Int) then gd (Sp.p_21 p1 ((0 : Int), [], [], PUnit.unit)) (K1 Ex.ret (X_7_0_0 p1)) else K1 Ex.ret X_7_0_1 := by kernel_rfl
theorem Bgd_7_0 {R : Type} {c : Bool} {x : Option R} {y : Option Sp.E_7_0} {k0 : (Int × List (List Int) × List (List Int) × PUnit) → Option R} {k1 : Option R} (h : x = Sp.B_7_0 y k0 k1) : gd c x = Sp.B_7_0 (gd c y) k0 k1 := by cases c; rfl; exact h
theorem Bcond_7_0 {R : Type} {c : Bool} {x x' : Option R} {y y' : Option Sp.E_7_0} {k0 : (Int × List (List Int) × List (List Int) × PUnit) → Option R} {k1 : Option R} (h : x = Sp.B_7_0 y k0 k1) (h' : x' = Sp.B_7_0 y' k0 k1) : (bif c then x else x') = Sp.B_7_0 (bif c then y else y') k0 k1 := by cases c; exact h'; exact h
theorem loop_7_0 {R : Type} (k : Ex → St → Option R) (p0 : Int) (p1 : Int × List (List Int) × List (List Int) × PUnit) : evJ (evCodeL sm_7 FU (ovr noO (evFn sm_7 fns FU 0)) .nil ir7_b0) (T_7_0 p0 p1) k = Sp.B_7_0 (Sp.J_7_0 p0 p1) (fun p1 => k Ex.ret (X_7_0_0 p1)) (k Ex.ret (X_7_0_1)) := by
  rw [body_7_0, Sp.J_7_0]
  repeat' first | apply Bgd_7_0 | apply Bcond_7_0 | rfl
theorem ok_7_0 {R : Type} (T : St) (k : Ex → St → Option R) (r : R) (h0 : o_7_0 G_7_0 T k = some r) : evCode sm_7 FU (evFn sm_7 fns FU 0) ir7_b0 T k = some r := by
  obtain ⟨p0, p1, rfl, h⟩ := o_7_0_inv h0
  refine bodyL_sound (t := .nil) noO_ok trivial ((loop_7_0 k _ _).trans h)
theorem OK_7_7_0 {R : Type} (T : St) (k : Ex → St → Option R) (r : R) (h : O_7_7_0 T k = some r) : evCode sm_7 FU (evFn sm_7 fns FU 0) ir7_b0 T k = some r := ok_7_0 T k r h
def F_7 (a0 : (List Int)) (a1 : (List Int)) (a2 : Int) : Option (Bool) :=
  gd Sp.p_10 (bif !Prod.fst Sp.v_10 then some false else gd (Sp.p_20 a0 a2 a1) (bif decide (a2 < (0 : Int)) then Sp.B_7_0 (Sp.J_7_0 (Prod.fst (Prod.snd (Sp.v_20 a0 a2 a1))) (Prod.fst (Sp.v_20 a0 a2 a1))) (fun (y2 : Int × List (List Int) × List (List Int) × PUnit) => some (Prod.fst (Sp.v_21 y2 ((0 : Int), [], [], PUnit.unit)))) (some false) else bif decide (a2 > (3 : Int)) then Sp.B_7_0 (Sp.J_7_0 (Prod.fst (Prod.snd (Sp.v_20 a0 a2 a1))) (Prod.fst (Sp.v_20 a0 a2 a1))) (fun (y3 : Int × List (List Int) × List (List Int) × PUnit) => some (Prod.fst (Sp.v_21 y3 ((0 : Int), [], [], PUnit.unit)))) (some false) else bif Prod.fst (Prod.snd (Sp.v_20 a0 a2 a1)) == (0 : Int) then gd (Sp.p_22 a0 a2 a1) (gd (Sp.p_21 (Prod.fst (Sp.v_20 a0 a2 a1)) (Prod.fst (Sp.v_22 a0 a2 a1))) (bif Prod.fst (Sp.v_21 (Prod.fst (Sp.v_20 a0 a2 a1)) (Prod.fst (Sp.v_22 a0 a2 a1))) then gd (Sp.p_23 a0) (gd (Sp.p_24 a0) (some (Ty.beq (Ty.arr (32 : Nat) (Ty.int IntKind.u8)) (Prod.fst (Sp.v_23 a0)) (Prod.fst (Sp.v_24 a0))))) else some false)) else some false))
theorem fn_7 (a0 : (List Int)) (a1 : (List Int)) (a2 : Int) : evFnL sm_7 FU (ovr noO (evFn sm_7 fns FU 0)) (ir7_t O_7_7_0) ir7 (ofH [(.arr 32 (.int .u8)), (.arr 32 (.int .u8)), (.int .i64)] (a0, a1, a2, ())) [] bk = F_7 a0 a1 a2 := by kernel_rfl
theorem run_7 (a0 : (List Int)) (a1 : (List Int)) (a2 : Int) {b : Bool} (h : F_7 a0 a1 a2 = some b) : evFn sm_7 fns FU 1 7 (ofH [(.arr 32 (.int .u8)), (.arr 32 (.int .u8)), (.int .i64)] (a0, a1, a2, ())) [] bk = some b :=
  evFnL_sound (fn := ir7) (t := (ir7_t O_7_7_0)) (o := noO) rfl noO_ok (ir7_tok (fun T k r => OK_7_7_0 T k r)) ((fn_7 _ _ _).trans h)
end
end Go.Ev
namespace Go.Proofs
open Go.Shelf
end Go.Proofs
namespace Go.Ev
open Go Go.Proofs Go.RowKit
set_option maxRecDepth 100000
set_option maxHeartbeats 4000000
def smB : Nat → Bool := fun f => [10, 11, 12, 13, 14, 15, 16, 17, 18, 19, 20, 21, 22, 23, 24, 25, 26, 27, 28, 29, 30, 31, 32, 35, 36, 37, 38, 39, 40, 41, 42, 43, 44, 45, 46, 47, 48, 49, 50, 51, 52].contains f
theorem hm0 : Try.prog.follows .mixedOrders = true := by kernel_rfl
theorem key3 : fnKey Try.prog smB 3 = ir3.key := by kernel_rfl
theorem key4 : fnKey Try.prog smB 4 = ir4.key := by kernel_rfl
theorem key5 : fnKey Try.prog smB 5 = ir5.key := by kernel_rfl
theorem key6 : fnKey Try.prog smB 6 = ir6.key := by kernel_rfl
theorem key7 : fnKey Try.prog smB 7 = ir7.key := by kernel_rfl
theorem key8 : fnKey Try.prog smB 8 = ir8.key := by kernel_rfl
theorem key9 : fnKey Try.prog smB 9 = ir9.key := by kernel_rfl
theorem key10 : fnKey Try.prog smB 10 = ir10.key := by kernel_rfl
theorem key11 : fnKey Try.prog smB 11 = ir11.key := by kernel_rfl
theorem key12 : fnKey Try.prog smB 12 = ir12.key := by kernel_rfl
theorem key13 : fnKey Try.prog smB 13 = ir13.key := by kernel_rfl
theorem key14 : fnKey Try.prog smB 14 = ir14.key := by kernel_rfl
theorem key15 : fnKey Try.prog smB 15 = ir15.key := by kernel_rfl
theorem key16 : fnKey Try.prog smB 16 = ir16.key := by kernel_rfl
theorem key17 : fnKey Try.prog smB 17 = ir17.key := by kernel_rfl
theorem key18 : fnKey Try.prog smB 18 = ir18.key := by kernel_rfl
theorem key19 : fnKey Try.prog smB 19 = ir19.key := by kernel_rfl
theorem key20 : fnKey Try.prog smB 20 = ir20.key := by kernel_rfl
theorem key21 : fnKey Try.prog smB 21 = ir21.key := by kernel_rfl
theorem key22 : fnKey Try.prog smB 22 = ir22.key := by kernel_rfl
theorem key23 : fnKey Try.prog smB 23 = ir23.key := by kernel_rfl
theorem key24 : fnKey Try.prog smB 24 = ir24.key := by kernel_rfl
theorem key25 : fnKey Try.prog smB 25 = ir25.key := by kernel_rfl
theorem key26 : fnKey Try.prog smB 26 = ir26.key := by kernel_rfl
theorem key27 : fnKey Try.prog smB 27 = ir27.key := by kernel_rfl
theorem key28 : fnKey Try.prog smB 28 = ir28.key := by kernel_rfl
theorem key29 : fnKey Try.prog smB 29 = ir29.key := by kernel_rfl
theorem key30 : fnKey Try.prog smB 30 = ir30.key := by kernel_rfl
theorem key31 : fnKey Try.prog smB 31 = ir31.key := by kernel_rfl
theorem key32 : fnKey Try.prog smB 32 = ir32.key := by kernel_rfl
theorem key33 : fnKey Try.prog smB 33 = ir33.key := by kernel_rfl
theorem key34 : fnKey Try.prog smB 34 = ir34.key := by kernel_rfl
theorem key35 : fnKey Try.prog smB 35 = ir35.key := by kernel_rfl
theorem key36 : fnKey Try.prog smB 36 = ir36.key := by kernel_rfl
theorem key37 : fnKey Try.prog smB 37 = ir37.key := by kernel_rfl
theorem key38 : fnKey Try.prog smB 38 = ir38.key := by kernel_rfl
theorem key39 : fnKey Try.prog smB 39 = ir39.key := by kernel_rfl
theorem key40 : fnKey Try.prog smB 40 = ir40.key := by kernel_rfl
theorem key41 : fnKey Try.prog smB 41 = ir41.key := by kernel_rfl
theorem key42 : fnKey Try.prog smB 42 = ir42.key := by kernel_rfl
theorem key43 : fnKey Try.prog smB 43 = ir43.key := by kernel_rfl
theorem key44 : fnKey Try.prog smB 44 = ir44.key := by kernel_rfl
theorem key45 : fnKey Try.prog smB 45 = ir45.key := by kernel_rfl
theorem key46 : fnKey Try.prog smB 46 = ir46.key := by kernel_rfl
theorem key47 : fnKey Try.prog smB 47 = ir47.key := by kernel_rfl
theorem key48 : fnKey Try.prog smB 48 = ir48.key := by kernel_rfl
theorem key49 : fnKey Try.prog smB 49 = ir49.key := by kernel_rfl
theorem key50 : fnKey Try.prog smB 50 = ir50.key := by kernel_rfl
theorem key51 : fnKey Try.prog smB 51 = ir51.key := by kernel_rfl
theorem key52 : fnKey Try.prog smB 52 = ir52.key := by kernel_rfl
theorem fns_ok : FnsOK Try.prog smB fns := by
  intro f fn h
  unfold fns at h
  split at h
  · simp only [Option.some.injEq] at h; subst h; exact key3
  · simp only [Option.some.injEq] at h; subst h; exact key4
  · simp only [Option.some.injEq] at h; subst h; exact key5
  · simp only [Option.some.injEq] at h; subst h; exact key6
  · simp only [Option.some.injEq] at h; subst h; exact key7
  · simp only [Option.some.injEq] at h; subst h; exact key8
  · simp only [Option.some.injEq] at h; subst h; exact key9
  · simp only [Option.some.injEq] at h; subst h; exact key10
  · simp only [Option.some.injEq] at h; subst h; exact key11
  · simp only [Option.some.injEq] at h; subst h; exact key12
  · simp only [Option.some.injEq] at h; subst h; exact key13
  · simp only [Option.some.injEq] at h; subst h; exact key14
  · simp only [Option.some.injEq] at h; subst h; exact key15
  · simp only [Option.some.injEq] at h; subst h; exact key16
  · simp only [Option.some.injEq] at h; subst h; exact key17
  · simp only [Option.some.injEq] at h; subst h; exact key18
  · simp only [Option.some.injEq] at h; subst h; exact key19
  · simp only [Option.some.injEq] at h; subst h; exact key20
  · simp only [Option.some.injEq] at h; subst h; exact key21
  · simp only [Option.some.injEq] at h; subst h; exact key22
  · simp only [Option.some.injEq] at h; subst h; exact key23
  · simp only [Option.some.injEq] at h; subst h; exact key24
  · simp only [Option.some.injEq] at h; subst h; exact key25
  · simp only [Option.some.injEq] at h; subst h; exact key26
  · simp only [Option.some.injEq] at h; subst h; exact key27
  · simp only [Option.some.injEq] at h; subst h; exact key28
  · simp only [Option.some.injEq] at h; subst h; exact key29
  · simp only [Option.some.injEq] at h; subst h; exact key30
  · simp only [Option.some.injEq] at h; subst h; exact key31
  · simp only [Option.some.injEq] at h; subst h; exact key32
  · simp only [Option.some.injEq] at h; subst h; exact key33
  · simp only [Option.some.injEq] at h; subst h; exact key34
  · simp only [Option.some.injEq] at h; subst h; exact key35
  · simp only [Option.some.injEq] at h; subst h; exact key36
  · simp only [Option.some.injEq] at h; subst h; exact key37
  · simp only [Option.some.injEq] at h; subst h; exact key38
  · simp only [Option.some.injEq] at h; subst h; exact key39
  · simp only [Option.some.injEq] at h; subst h; exact key40
  · simp only [Option.some.injEq] at h; subst h; exact key41
  · simp only [Option.some.injEq] at h; subst h; exact key42
  · simp only [Option.some.injEq] at h; subst h; exact key43
  · simp only [Option.some.injEq] at h; subst h; exact key44
  · simp only [Option.some.injEq] at h; subst h; exact key45
  · simp only [Option.some.injEq] at h; subst h; exact key46
  · simp only [Option.some.injEq] at h; subst h; exact key47
  · simp only [Option.some.injEq] at h; subst h; exact key48
  · simp only [Option.some.injEq] at h; subst h; exact key49
  · simp only [Option.some.injEq] at h; subst h; exact key50
  · simp only [Option.some.injEq] at h; subst h; exact key51
  · simp only [Option.some.injEq] at h; subst h; exact key52
  · cases h
theorem smok_32 : ∀ f s, sm_32 f = some s → SummOK Try.prog f s := by
  intro f s h
  unfold sm_32 at h
  cases h
theorem call_32 {R : Type} (n base : Nat) : CallOK Try.prog base (evFn (R := R) sm_32 fns FU n) := ev_sound hm0 smok_32 (fun f s h => (smok_32 f s h).2.1) fns_ok n
theorem sok_32 : SummOK Try.prog 32 s_32 := summ_shN (by decide) (fun _ => rfl) (fun _ => rfl) (call_32 1) (by kernel_rfl) run_32
theorem smok_47 : ∀ f s, sm_47 f = some s → SummOK Try.prog f s := by
  intro f s h
  unfold sm_47 at h
  cases h
theorem call_47 {R : Type} (n base : Nat) : CallOK Try.prog base (evFn (R := R) sm_47 fns FU n) := ev_sound hm0 smok_47 (fun f s h => (smok_47 f s h).2.1) fns_ok n
theorem sok_47 : SummOK Try.prog 47 s_47 := summ_shN (by decide) (fun _ => rfl) (fun _ => rfl) (call_47 1) (by kernel_rfl) run_47
theorem smok_52 : ∀ f s, sm_52 f = some s → SummOK Try.prog f s := by
  intro f s h
  unfold sm_52 at h
  cases h
theorem call_52 {R : Type} (n base : Nat) : CallOK Try.prog base (evFn (R := R) sm_52 fns FU n) := ev_sound hm0 smok_52 (fun f s h => (smok_52 f s h).2.1) fns_ok n
theorem sok_52 : SummOK Try.prog 52 s_52 := summ_shN (by decide) (fun _ => rfl) (fun _ => rfl) (call_52 1) (by kernel_rfl) run_52
theorem smok_49 : ∀ f s, sm_49 f = some s → SummOK Try.prog f s := by
  intro f s h
  unfold sm_49 at h
  by_cases h52 : f = 52
  · subst h52
    injection h with h
    subst h
    exact sok_52
  rw [nbeq_ne h52, cond_false] at h
  cases h
theorem call_49 {R : Type} (n base : Nat) : CallOK Try.prog base (evFn (R := R) sm_49 fns FU n) := ev_sound hm0 smok_49 (fun f s h => (smok_49 f s h).2.1) fns_ok n
theorem sok_49 : SummOK Try.prog 49 s_49 := summ_shN (by decide) (fun _ => rfl) (fun _ => rfl) (call_49 1) (by kernel_rfl) run_49
theorem smok_11 : ∀ f s, sm_11 f = some s → SummOK Try.prog f s := by
  intro f s h
  unfold sm_11 at h
  by_cases h32 : f = 32
  · subst h32
    injection h with h
    subst h
    exact sok_32
  rw [nbeq_ne h32, cond_false] at h
  by_cases h47 : f = 47
  · subst h47
    injection h with h
    subst h
    exact sok_47
  rw [nbeq_ne h47, cond_false] at h
  by_cases h49 : f = 49
  · subst h49
    injection h with h
    subst h
    exact sok_49
  rw [nbeq_ne h49, cond_false] at h
  cases h
theorem call_11 {R : Type} (n base : Nat) : CallOK Try.prog base (evFn (R := R) sm_11 fns FU n) := ev_sound hm0 smok_11 (fun f s h => (smok_11 f s h).2.1) fns_ok n
theorem sok_11 : SummOK Try.prog 11 s_11 := summ_shN (by decide) (fun _ => rfl) (fun _ => rfl) (call_11 2) (by kernel_rfl) run_11
theorem smok_13 : ∀ f s, sm_13 f = some s → SummOK Try.prog f s := by
  intro f s h
  unfold sm_13 at h
  cases h
theorem call_13 {R : Type} (n base : Nat) : CallOK Try.prog base (evFn (R := R) sm_13 fns FU n) := ev_sound hm0 smok_13 (fun f s h => (smok_13 f s h).2.1) fns_ok n
theorem sok_13 : SummOK Try.prog 13 s_13 := summ_sh (fun _ => rfl) (fun _ => rfl) (call_13 1) (by kernel_rfl) run_13
theorem smok_10 : ∀ f s, sm_10 f = some s → SummOK Try.prog f s := by
  intro f s h
  unfold sm_10 at h
  by_cases h11 : f = 11
  · subst h11
    injection h with h
    subst h
    exact sok_11
  rw [nbeq_ne h11, cond_false] at h
  by_cases h13 : f = 13
  · subst h13
    injection h with h
    subst h
    exact sok_13
  rw [nbeq_ne h13, cond_false] at h
  cases h
theorem call_10 {R : Type} (n base : Nat) : CallOK Try.prog base (evFn (R := R) sm_10 fns FU n) := ev_sound hm0 smok_10 (fun f s h => (smok_10 f s h).2.1) fns_ok n
theorem sok_10 : SummOK Try.prog 10 s_10 := summ_shN (by decide) (fun _ => rfl) (fun _ => rfl) (call_10 1) (by kernel_rfl) run_10
theorem smok_37 : ∀ f s, sm_37 f = some s → SummOK Try.prog f s := by
  intro f s h
  unfold sm_37 at h
  by_cases h11 : f = 11
  · subst h11
    injection h with h
    subst h
    exact sok_11
  rw [nbeq_ne h11, cond_false] at h
  cases h
theorem call_37 {R : Type} (n base : Nat) : CallOK Try.prog base (evFn (R := R) sm_37 fns FU n) := ev_sound hm0 smok_37 (fun f s h => (smok_37 f s h).2.1) fns_ok n
theorem sok_37 : SummOK Try.prog 37 s_37 := summ_shN (by decide) (fun _ => rfl) (fun _ => rfl) (call_37 1) (by kernel_rfl) run_37
theorem smok_40 : ∀ f s, sm_40 f = some s → SummOK Try.prog f s := by
  intro f s h
  unfold sm_40 at h
  by_cases h11 : f = 11
  · subst h11
    injection h with h
    subst h
    exact sok_11
  rw [nbeq_ne h11, cond_false] at h
  cases h
theorem call_40 {R : Type} (n base : Nat) : CallOK Try.prog base (evFn (R := R) sm_40 fns FU n) := ev_sound hm0 smok_40 (fun f s h => (smok_40 f s h).2.1) fns_ok n
theorem sok_40 : SummOK Try.prog 40 s_40 := summ_shN (by decide) (fun _ => rfl) (fun _ => rfl) (call_40 1) (by kernel_rfl) run_40
theorem smok_43 : ∀ f s, sm_43 f = some s → SummOK Try.prog f s := by
  intro f s h
  unfold sm_43 at h
  by_cases h11 : f = 11
  · subst h11
    injection h with h
    subst h
    exact sok_11
  rw [nbeq_ne h11, cond_false] at h
  cases h
theorem call_43 {R : Type} (n base : Nat) : CallOK Try.prog base (evFn (R := R) sm_43 fns FU n) := ev_sound hm0 smok_43 (fun f s h => (smok_43 f s h).2.1) fns_ok n
theorem sok_43 : SummOK Try.prog 43 s_43 := summ_shN (by decide) (fun _ => rfl) (fun _ => rfl) (call_43 1) (by kernel_rfl) run_43
theorem smok_39 : ∀ f s, sm_39 f = some s → SummOK Try.prog f s := by
  intro f s h
  unfold sm_39 at h
  by_cases h11 : f = 11
  · subst h11
    injection h with h
    subst h
    exact sok_11
  rw [nbeq_ne h11, cond_false] at h
  cases h
theorem call_39 {R : Type} (n base : Nat) : CallOK Try.prog base (evFn (R := R) sm_39 fns FU n) := ev_sound hm0 smok_39 (fun f s h => (smok_39 f s h).2.1) fns_ok n
theorem sok_39 : SummOK Try.prog 39 s_39 := summ_shN (by decide) (fun _ => rfl) (fun _ => rfl) (call_39 1) (by kernel_rfl) run_39
theorem smok_44 : ∀ f s, sm_44 f = some s → SummOK Try.prog f s := by
  intro f s h
  unfold sm_44 at h
  by_cases h37 : f = 37
  · subst h37
    injection h with h
    subst h
    exact sok_37
  rw [nbeq_ne h37, cond_false] at h
  by_cases h39 : f = 39
  · subst h39
    injection h with h
    subst h
    exact sok_39
  rw [nbeq_ne h39, cond_false] at h
  by_cases h43 : f = 43
  · subst h43
    injection h with h
    subst h
    exact sok_43
  rw [nbeq_ne h43, cond_false] at h
  cases h
theorem call_44 {R : Type} (n base : Nat) : CallOK Try.prog base (evFn (R := R) sm_44 fns FU n) := ev_sound hm0 smok_44 (fun f s h => (smok_44 f s h).2.1) fns_ok n
theorem sok_44 : SummOK Try.prog 44 s_44 := summ_shN (by decide) (fun _ => rfl) (fun _ => rfl) (call_44 1) (by kernel_rfl) run_44
theorem smok_20 : ∀ f s, sm_20 f = some s → SummOK Try.prog f s := by
  intro f s h
  unfold sm_20 at h
  by_cases h13 : f = 13
  · subst h13
    injection h with h
    subst h
    exact sok_13
  rw [nbeq_ne h13, cond_false] at h
  by_cases h37 : f = 37
  · subst h37
    injection h with h
    subst h
    exact sok_37
  rw [nbeq_ne h37, cond_false] at h
  by_cases h40 : f = 40
  · subst h40
    injection h with h
    subst h
    exact sok_40
  rw [nbeq_ne h40, cond_false] at h
  by_cases h43 : f = 43
  · subst h43
    injection h with h
    subst h
    exact sok_43
  rw [nbeq_ne h43, cond_false] at h
  by_cases h44 : f = 44
  · subst h44
    injection h with h
    subst h
    exact sok_44
  rw [nbeq_ne h44, cond_false] at h
  cases h
theorem call_20 {R : Type} (n base : Nat) : CallOK Try.prog base (evFn (R := R) sm_20 fns FU n) := ev_sound hm0 smok_20 (fun f s h => (smok_20 f s h).2.1) fns_ok n
theorem sok_20 : SummOK Try.prog 20 s_20 := summ_sh (fun _ => rfl) (fun _ => rfl) (call_20 1) (by kernel_rfl) run_20
theorem smok_21 : ∀ f s, sm_21 f = some s → SummOK Try.prog f s := by
  intro f s h
  unfold sm_21 at h
  cases h
theorem call_21 {R : Type} (n base : Nat) : CallOK Try.prog base (evFn (R := R) sm_21 fns FU n) := ev_sound hm0 smok_21 (fun f s h => (smok_21 f s h).2.1) fns_ok n
theorem sok_21 : SummOK Try.prog 21 s_21 := summ_shN (by decide) (fun _ => rfl) (fun _ => rfl) (call_21 1) (by kernel_rfl) run_21
theorem smok_15 : ∀ f s, sm_15 f = some s → SummOK Try.prog f s := by
  intro f s h
  unfold sm_15 at h
  cases h
theorem call_15 {R : Type} (n base : Nat) : CallOK Try.prog base (evFn (R := R) sm_15 fns FU n) := ev_sound hm0 smok_15 (fun f s h => (smok_15 f s h).2.1) fns_ok n
theorem sok_15 : SummOK Try.prog 15 s_15 := summ_sh (fun _ => rfl) (fun _ => rfl) (call_15 1) (by kernel_rfl) run_15
theorem smok_35 : ∀ f s, sm_35 f = some s → SummOK Try.prog f s := by
  intro f s h
  unfold sm_35 at h
  cases h
theorem call_35 {R : Type} (n base : Nat) : CallOK Try.prog base (evFn (R := R) sm_35 fns FU n) := ev_sound hm0 smok_35 (fun f s h => (smok_35 f s h).2.1) fns_ok n
theorem sok_35 : SummOK Try.prog 35 s_35 := summ_sh (fun _ => rfl) (fun _ => rfl) (call_35 1) (by kernel_rfl) run_35
theorem smok_50 : ∀ f s, sm_50 f = some s → SummOK Try.prog f s := by
  intro f s h
  unfold sm_50 at h
  cases h
theorem call_50 {R : Type} (n base : Nat) : CallOK Try.prog base (evFn (R := R) sm_50 fns FU n) := ev_sound hm0 smok_50 (fun f s h => (smok_50 f s h).2.1) fns_ok n
theorem sok_50 : SummOK Try.prog 50 s_50 := summ_shN (by decide) (fun _ => rfl) (fun _ => rfl) (call_50 1) (by kernel_rfl) run_50
theorem smok_51 : ∀ f s, sm_51 f = some s → SummOK Try.prog f s := by
  intro f s h
  unfold sm_51 at h
  cases h
theorem call_51 {R : Type} (n base : Nat) : CallOK Try.prog base (evFn (R := R) sm_51 fns FU n) := ev_sound hm0 smok_51 (fun f s h => (smok_51 f s h).2.1) fns_ok n
theorem sok_51 : SummOK Try.prog 51 s_51 := summ_shN (by decide) (fun _ => rfl) (fun _ => rfl) (call_51 1) (by kernel_rfl) run_51
theorem smok_36 : ∀ f s, sm_36 f = some s → SummOK Try.prog f s := by
  intro f s h
  unfold sm_36 at h
  by_cases h50 : f = 50
  · subst h50
    injection h with h
    subst h
    exact sok_50
  rw [nbeq_ne h50, cond_false] at h
  by_cases h51 : f = 51
  · subst h51
    injection h with h
    subst h
    exact sok_51
  rw [nbeq_ne h51, cond_false] at h
  cases h
theorem call_36 {R : Type} (n base : Nat) : CallOK Try.prog base (evFn (R := R) sm_36 fns FU n) := ev_sound hm0 smok_36 (fun f s h => (smok_36 f s h).2.1) fns_ok n
theorem sok_36 : SummOK Try.prog 36 s_36 := summ_shN (by decide) (fun _ => rfl) (fun _ => rfl) (call_36 1) (by kernel_rfl) run_36
theorem smok_12 : ∀ f s, sm_12 f = some s → SummOK Try.prog f s := by
  intro f s h
  unfold sm_12 at h
  by_cases h35 : f = 35
  · subst h35
    injection h with h
    subst h
    exact sok_35
  rw [nbeq_ne h35, cond_false] at h
  by_cases h36 : f = 36
  · subst h36
    injection h with h
    subst h
    exact sok_36
  rw [nbeq_ne h36, cond_false] at h
  cases h
theorem call_12 {R : Type} (n base : Nat) : CallOK Try.prog base (evFn (R := R) sm_12 fns FU n) := ev_sound hm0 smok_12 (fun f s h => (smok_12 f s h).2.1) fns_ok n
theorem sok_12 : SummOK Try.prog 12 s_12 := summ_shN (by decide) (fun _ => rfl) (fun _ => rfl) (call_12 1) (by kernel_rfl) run_12
theorem smok_17 : ∀ f s, sm_17 f = some s → SummOK Try.prog f s := by
  intro f s h
  unfold sm_17 at h
  by_cases h12 : f = 12
  · subst h12
    injection h with h
    subst h
    exact sok_12
  rw [nbeq_ne h12, cond_false] at h
  cases h
theorem call_17 {R : Type} (n base : Nat) : CallOK Try.prog base (evFn (R := R) sm_17 fns FU n) := ev_sound hm0 smok_17 (fun f s h => (smok_17 f s h).2.1) fns_ok n
theorem sok_17 : SummOK Try.prog 17 s_17 := summ_shN (by decide) (fun _ => rfl) (fun _ => rfl) (call_17 1) (by kernel_rfl) run_17
theorem smok_42 : ∀ f s, sm_42 f = some s → SummOK Try.prog f s := by
  intro f s h
  unfold sm_42 at h
  by_cases h12 : f = 12
  · subst h12
    injection h with h
    subst h
    exact sok_12
  rw [nbeq_ne h12, cond_false] at h
  cases h
theorem call_42 {R : Type} (n base : Nat) : CallOK Try.prog base (evFn (R := R) sm_42 fns FU n) := ev_sound hm0 smok_42 (fun f s h => (smok_42 f s h).2.1) fns_ok n
theorem sok_42 : SummOK Try.prog 42 s_42 := summ_shN (by decide) (fun _ => rfl) (fun _ => rfl) (call_42 1) (by kernel_rfl) run_42
theorem smok_45 : ∀ f s, sm_45 f = some s → SummOK Try.prog f s := by
  intro f s h
  unfold sm_45 at h
  by_cases h12 : f = 12
  · subst h12
    injection h with h
    subst h
    exact sok_12
  rw [nbeq_ne h12, cond_false] at h
  cases h
theorem call_45 {R : Type} (n base : Nat) : CallOK Try.prog base (evFn (R := R) sm_45 fns FU n) := ev_sound hm0 smok_45 (fun f s h => (smok_45 f s h).2.1) fns_ok n
theorem sok_45 : SummOK Try.prog 45 s_45 := summ_shN (by decide) (fun _ => rfl) (fun _ => rfl) (call_45 1) (by kernel_rfl) run_45
theorem smok_41 : ∀ f s, sm_41 f = some s → SummOK Try.prog f s := by
  intro f s h
  unfold sm_41 at h
  by_cases h12 : f = 12
  · subst h12
    injection h with h
    subst h
    exact sok_12
  rw [nbeq_ne h12, cond_false] at h
  cases h
theorem call_41 {R : Type} (n base : Nat) : CallOK Try.prog base (evFn (R := R) sm_41 fns FU n) := ev_sound hm0 smok_41 (fun f s h => (smok_41 f s h).2.1) fns_ok n
theorem sok_41 : SummOK Try.prog 41 s_41 := summ_shN (by decide) (fun _ => rfl) (fun _ => rfl) (call_41 1) (by kernel_rfl) run_41
theorem smok_46 : ∀ f s, sm_46 f = some s → SummOK Try.prog f s := by
  intro f s h
  unfold sm_46 at h
  by_cases h17 : f = 17
  · subst h17
    injection h with h
    subst h
    exact sok_17
  rw [nbeq_ne h17, cond_false] at h
  by_cases h41 : f = 41
  · subst h41
    injection h with h
    subst h
    exact sok_41
  rw [nbeq_ne h41, cond_false] at h
  by_cases h45 : f = 45
  · subst h45
    injection h with h
    subst h
    exact sok_45
  rw [nbeq_ne h45, cond_false] at h
  cases h
theorem call_46 {R : Type} (n base : Nat) : CallOK Try.prog base (evFn (R := R) sm_46 fns FU n) := ev_sound hm0 smok_46 (fun f s h => (smok_46 f s h).2.1) fns_ok n
theorem sok_46 : SummOK Try.prog 46 s_46 := summ_shN (by decide) (fun _ => rfl) (fun _ => rfl) (call_46 1) (by kernel_rfl) run_46
theorem smok_22 : ∀ f s, sm_22 f = some s → SummOK Try.prog f s := by
  intro f s h
  unfold sm_22 at h
  by_cases h15 : f = 15
  · subst h15
    injection h with h
    subst h
    exact sok_15
  rw [nbeq_ne h15, cond_false] at h
  by_cases h17 : f = 17
  · subst h17
    injection h with h
    subst h
    exact sok_17
  rw [nbeq_ne h17, cond_false] at h
  by_cases h42 : f = 42
  · subst h42
    injection h with h
    subst h
    exact sok_42
  rw [nbeq_ne h42, cond_false] at h
  by_cases h45 : f = 45
  · subst h45
    injection h with h
    subst h
    exact sok_45
  rw [nbeq_ne h45, cond_false] at h
  by_cases h46 : f = 46
  · subst h46
    injection h with h
    subst h
    exact sok_46
  rw [nbeq_ne h46, cond_false] at h
  cases h
theorem call_22 {R : Type} (n base : Nat) : CallOK Try.prog base (evFn (R := R) sm_22 fns FU n) := ev_sound hm0 smok_22 (fun f s h => (smok_22 f s h).2.1) fns_ok n
theorem sok_22 : SummOK Try.prog 22 s_22 := summ_sh (fun _ => rfl) (fun _ => rfl) (call_22 1) (by kernel_rfl) run_22
theorem smok_23 : ∀ f s, sm_23 f = some s → SummOK Try.prog f s := by
  intro f s h
  unfold sm_23 at h
  by_cases h40 : f = 40
  · subst h40
    injection h with h
    subst h
    exact sok_40
  rw [nbeq_ne h40, cond_false] at h
  by_cases h44 : f = 44
  · subst h44
    injection h with h
    subst h
    exact sok_44
  rw [nbeq_ne h44, cond_false] at h
  cases h
theorem call_23 {R : Type} (n base : Nat) : CallOK Try.prog base (evFn (R := R) sm_23 fns FU n) := ev_sound hm0 smok_23 (fun f s h => (smok_23 f s h).2.1) fns_ok n
theorem sok_23 : SummOK Try.prog 23 s_23 := summ_shN (by decide) (fun _ => rfl) (fun _ => rfl) (call_23 1) (by kernel_rfl) run_23
theorem smok_24 : ∀ f s, sm_24 f = some s → SummOK Try.prog f s := by
  intro f s h
  unfold sm_24 at h
  by_cases h42 : f = 42
  · subst h42
    injection h with h
    subst h
    exact sok_42
  rw [nbeq_ne h42, cond_false] at h
  by_cases h46 : f = 46
  · subst h46
    injection h with h
    subst h
    exact sok_46
  rw [nbeq_ne h46, cond_false] at h
  cases h
theorem call_24 {R : Type} (n base : Nat) : CallOK Try.prog base (evFn (R := R) sm_24 fns FU n) := ev_sound hm0 smok_24 (fun f s h => (smok_24 f s h).2.1) fns_ok n
theorem sok_24 : SummOK Try.prog 24 s_24 := summ_shN (by decide) (fun _ => rfl) (fun _ => rfl) (call_24 1) (by kernel_rfl) run_24
theorem smok_7 : ∀ f s, sm_7 f = some s → SummOK Try.prog f s := by
  intro f s h
  unfold sm_7 at h
  by_cases h10 : f = 10
  · subst h10
    injection h with h
    subst h
    exact sok_10
  rw [nbeq_ne h10, cond_false] at h
  by_cases h20 : f = 20
  · subst h20
    injection h with h
    subst h
    exact sok_20
  rw [nbeq_ne h20, cond_false] at h
  by_cases h21 : f = 21
  · subst h21
    injection h with h
    subst h
    exact sok_21
  rw [nbeq_ne h21, cond_false] at h
  by_cases h22 : f = 22
  · subst h22
    injection h with h
    subst h
    exact sok_22
  rw [nbeq_ne h22, cond_false] at h
  by_cases h23 : f = 23
  · subst h23
    injection h with h
    subst h
    exact sok_23
  rw [nbeq_ne h23, cond_false] at h
  by_cases h24 : f = 24
  · subst h24
    injection h with h
    subst h
    exact sok_24
  rw [nbeq_ne h24, cond_false] at h
  cases h
theorem call_7 {R : Type} (n base : Nat) : CallOK Try.prog base (evFn (R := R) sm_7 fns FU n) := ev_sound hm0 smok_7 (fun f s h => (smok_7 f s h).2.1) fns_ok n
end Go.Ev
