/- Helpers: functions of the program as Lean functions, and what they compute. No condition. -/
import Derived.Test.YtbbpamlijfhebaaE5P2
import Derived.Test.YtbbpamlijfhebaaG5P0
import Derived.Test.YtbbpamlijfhebaaG5P1
import Derived.Test.YtbbpamlijfhebaaProg
set_option maxRecDepth 10000
set_option linter.unusedVariables false
set_option linter.unusedSimpArgs false
namespace Go.Ev
open Go
set_option maxRecDepth 100000
set_option maxHeartbeats 4000000
set_option linter.unusedVariables false
noncomputable section
abbrev Zy33_0 : Ty := (Ty.pair (Ty.int IntKind.i64) (Ty.pair (Ty.int IntKind.i64) (Ty.pair (Ty.int IntKind.i64) (Ty.pair (Ty.int IntKind.i64) (Ty.pair (Ty.int IntKind.i64) (Ty.pair (Ty.slice (Ty.int IntKind.i64)) (Ty.pair (Ty.int IntKind.i64) Ty.unit)))))))
abbrev Zy33_1 : Ty := (Ty.pair (Ty.int IntKind.i64) (Ty.pair (Ty.int IntKind.i64) (Ty.pair (Ty.int IntKind.i64) (Ty.pair (Ty.int IntKind.i64) (Ty.pair (Ty.int IntKind.i64) (Ty.pair (Ty.int IntKind.i64) (Ty.pair Ty.bool (Ty.pair (Ty.int IntKind.i64) Ty.unit))))))))
abbrev Zt33_2 : Type := List (Int × Int × Int × Int × Int × Int × Bool × Int × PUnit)
abbrev Zt33_3 : Type := List (Int × Int × Int × Int × Int × List Int × Int × PUnit)
abbrev Zy33_4 : Ty := (Ty.slice (Ty.pair (Ty.int IntKind.i64) (Ty.pair (Ty.int IntKind.i64) (Ty.pair (Ty.int IntKind.i64) (Ty.pair (Ty.int IntKind.i64) (Ty.pair (Ty.int IntKind.i64) (Ty.pair (Ty.int IntKind.i64) (Ty.pair Ty.bool (Ty.pair (Ty.int IntKind.i64) Ty.unit)))))))))
abbrev Zy33_5 : Ty := (.pair (.slice (.pair (.int .i64) (.pair (.int .i64) (.pair (.int .i64) (.pair (.int .i64) (.pair (.int .i64) (.pair (.int .i64) (.pair .bool (.pair (.int .i64) .unit))))))))) (.pair (.slice (.pair (.int .i64) (.pair (.int .i64) (.pair (.int .i64) (.pair (.int .i64) (.pair (.int .i64) (.pair (.slice (.int .i64)) (.pair (.int .i64) .unit)))))))) (.pair (.int .i64) (.pair .bool .unit))))
abbrev Zt33_6 : Type := Int × Bool × PUnit
abbrev Zt33_7 : Type := List (Int × Int × Int × Int × Int × Int × Bool × Int × PUnit) × List (Int × Int × Int × Int × Int × List Int × Int × PUnit) × Int × Bool × PUnit
abbrev Zy33_8 : Ty := (Ty.pair (Ty.slice (Ty.pair (Ty.int IntKind.i64) (Ty.pair (Ty.int IntKind.i64) (Ty.pair (Ty.int IntKind.i64) (Ty.pair (Ty.int IntKind.i64) (Ty.pair (Ty.int IntKind.i64) (Ty.pair (Ty.int IntKind.i64) (Ty.pair Ty.bool (Ty.pair (Ty.int IntKind.i64) Ty.unit))))))))) (Ty.pair (Ty.slice (Ty.pair (Ty.int IntKind.i64) (Ty.pair (Ty.int IntKind.i64) (Ty.pair (Ty.int IntKind.i64) (Ty.pair (Ty.int IntKind.i64) (Ty.pair (Ty.int IntKind.i64) (Ty.pair (Ty.slice (Ty.int IntKind.i64)) (Ty.pair (Ty.int IntKind.i64) Ty.unit)))))))) (Ty.pair (Ty.int IntKind.i64) (Ty.pair Ty.bool Ty.unit))))
abbrev Zy33_9 : Ty := (Ty.pair (Ty.int IntKind.i64) (Ty.pair Ty.bool Ty.unit))
abbrev Zt33_10 : Type := (Int × (Int × (Int × (Int × (Int × (Int × (Bool × (Int × Unit))))))))
abbrev Zt33_11 : Type := List (Int × (Int × (Int × (Int × (Int × ((List Int) × (Int × Unit)))))))

abbrev s33_46 : Summ := vecS (.pair (.int .i64) (.pair (.int .i64) (.pair (.int .i64) (.pair (.int .i64) (.pair (.int .i64) (.pair (.slice (.int .i64)) (.pair (.int .i64) .unit))))))) 46 72
abbrev s33_47 : Summ := vecS (.int .i64) 3 8
def sm_33 : Nat → Option Summ := fun f => bif Nat.beq f 15 then some s_15 else bif Nat.beq f 40 then some s_40 else bif Nat.beq f 46 then some s33_46 else bif Nat.beq f 47 then some s33_47 else none
def T_33_35_0_0 (p0 : Int) (p1 : Int) (p2 : Zt33_7) (p3 : Zt33_6) (p4 : Zt33_2) (p5 : Zt33_6) (p6 : Zt33_3) (p7 : Zt33_6) (p8 : Zt33_2) (p9 : Zt33_3) : St := St.mk ([jk, CV.ptr (2 : Nat) [], CV.ptr (4 : Nat) []] ++ (jl 7 ++ ([CV.int IntKind.i64 p0, CV.int IntKind.i64 p1] ++ (jl 16)))) [Blk.mem (CV.pure Zy33_8 p2), Blk.mem (CV.pair (CV.nil (23 : Nat) Zy33_1) (CV.pair (CV.nil (46 : Nat) Zy33_0) (CV.pure Zy33_9 p3))), Blk.mem (CV.pair (CV.pure Zy33_4 p4) (CV.pair (CV.whole (3 : Nat)) (CV.pure Zy33_9 p5))), Blk.vec (46 : Nat) Zy33_0 p6, Blk.mem (CV.pair (CV.whole (5 : Nat)) (CV.pair (CV.whole (6 : Nat)) (CV.pure Zy33_9 p7))), Blk.vec (23 : Nat) Zy33_1 p8, Blk.vec (46 : Nat) Zy33_0 p9] (2 : Nat)
def X_33_35_0_0_0 (p2 : Zt33_7) (p3 : Zt33_6) (p4 : Zt33_2) (p5 : Zt33_6) (p6 : Zt33_3) (p7 : Zt33_6) (p8 : Zt33_2) (p9 : Zt33_3) : St := St.mk ([jk, CV.ptr (2 : Nat) [], CV.ptr (4 : Nat) []] ++ (jl 25)) [Blk.mem (CV.pure Zy33_8 p2), Blk.mem (CV.pair (CV.nil (23 : Nat) Zy33_1) (CV.pair (CV.nil (46 : Nat) Zy33_0) (CV.pure Zy33_9 p3))), Blk.mem (CV.pair (CV.pure Zy33_4 p4) (CV.pair (CV.whole (3 : Nat)) (CV.pure Zy33_9 p5))), Blk.vec (46 : Nat) Zy33_0 p6, Blk.mem (CV.pair (CV.whole (5 : Nat)) (CV.pair (CV.whole (6 : Nat)) (CV.pure Zy33_9 p7))), Blk.vec (23 : Nat) Zy33_1 p8, Blk.vec (46 : Nat) Zy33_0 p9] (2 : Nat)
inductive Sp.E_33_35_0_0 where
  | e0 (p2 : Zt33_7) (p3 : Zt33_6) (p4 : Zt33_2) (p5 : Zt33_6) (p6 : Zt33_3) (p7 : Zt33_6) (p8 : Zt33_2) (p9 : Zt33_3)
def Sp.B_33_35_0_0 {R : Type} (r : Option Sp.E_33_35_0_0) (k0 : (Zt33_7) → (Zt33_6) → (Zt33_2) → (Zt33_6) → (Zt33_3) → (Zt33_6) → (Zt33_2) → (Zt33_3) → Option R) : Option R := match r with
  | none => none
  | some (.e0 p2 p3 p4 p5 p6 p7 p8 p9) => k0 p2 p3 p4 p5 p6 p7 p8 p9
def Sp.L_33_35_0_0 : Nat → (Int) → (Int) → (List (Int × Int × Int × Int × Int × Int × Bool × Int × PUnit) × List (Int × Int × Int × Int × Int × List Int × Int × PUnit) × Int × Bool × PUnit) → (Int × Bool × PUnit) → (List (Int × Int × Int × Int × Int × Int × Bool × Int × PUnit)) → (Int × Bool × PUnit) → (List (Int × Int × Int × Int × Int × List Int × Int × PUnit)) → (Int × Bool × PUnit) → (List (Int × Int × Int × Int × Int × Int × Bool × Int × PUnit)) → (List (Int × Int × Int × Int × Int × List Int × Int × PUnit)) → Option Sp.E_33_35_0_0
  | 0, _, _, _, _, _, _, _, _, _, _ => none
  | m + 1, p0, p1, p2, p3, p4, p5, p6, p7, p8, p9 => bif decide (p1 < p0) then gd (inB p1 (List.length p6)) (gd (decide (Int.toNat p1 < List.length p6) && true) (gd (room (List.length ((List.getD p6 (Int.toNat p1) Zd1).2.2.2.2.2.1)) (8 : Nat)) (gd (inB p1 (List.length p6)) (gd (decide (Int.toNat p1 < List.length p6) && true && true) (Sp.L_33_35_0_0 m p0 (IntKind.wrap IntKind.i64 (p1 + (1 : Int))) p2 p3 p4 p5 (List.set p6 (Int.toNat p1) ((List.getD p6 (Int.toNat p1) Zd1).1, (List.getD p6 (Int.toNat p1) Zd1).2.1, (List.getD p6 (Int.toNat p1) Zd1).2.2.1, (List.getD p6 (Int.toNat p1) Zd1).2.2.2.1, (List.getD p6 (Int.toNat p1) Zd1).2.2.2.2.1, (List.getD p6 (Int.toNat p1) Zd1).2.2.2.2.2.1, (List.getD p6 (Int.toNat p1) Zd1).2.2.2.2.2.2)) p7 p8 p9))))) else some (Sp.E_33_35_0_0.e0 p2 p3 p4 p5 p6 p7 p8 p9)
def G_33_35_0_0 {R : Type} (p0 : Int) (p1 : Int) (p2 : Zt33_7) (p3 : Zt33_6) (p4 : Zt33_2) (p5 : Zt33_6) (p6 : Zt33_3) (p7 : Zt33_6) (p8 : Zt33_2) (p9 : Zt33_3) (k : Ex → St → Option R) : Option R := Sp.B_33_35_0_0 (Sp.L_33_35_0_0 FU p0 p1 p2 p3 p4 p5 p6 p7 p8 p9) (fun p2 p3 p4 p5 p6 p7 p8 p9 => k (Ex.exit (0 : Nat)) (X_33_35_0_0_0 p2 p3 p4 p5 p6 p7 p8 p9))
def o_33_35_0_0 {R : Type} (G : (Int) → (Int) → (Zt33_7) → (Zt33_6) → (Zt33_2) → (Zt33_6) → (Zt33_3) → (Zt33_6) → (Zt33_2) → (Zt33_3) → (Ex → St → Option R) → Option R) : St → (Ex → St → Option R) → Option R := fun T k => match T.sl.getD 1 .junk, T.sl.getD 2 .junk, T.sl.getD 10 .junk, T.sl.getD 11 .junk, T.hp with
  | CV.ptr (2 : Nat) [], CV.ptr (4 : Nat) [], CV.int IntKind.i64 p0, CV.int IntKind.i64 p1, ((Blk.mem (CV.pure (Ty.pair (Ty.slice (Ty.pair (Ty.int IntKind.i64) (Ty.pair (Ty.int IntKind.i64) (Ty.pair (Ty.int IntKind.i64) (Ty.pair (Ty.int IntKind.i64) (Ty.pair (Ty.int IntKind.i64) (Ty.pair (Ty.int IntKind.i64) (Ty.pair Ty.bool (Ty.pair (Ty.int IntKind.i64) Ty.unit))))))))) (Ty.pair (Ty.slice (Ty.pair (Ty.int IntKind.i64) (Ty.pair (Ty.int IntKind.i64) (Ty.pair (Ty.int IntKind.i64) (Ty.pair (Ty.int IntKind.i64) (Ty.pair (Ty.int IntKind.i64) (Ty.pair (Ty.slice (Ty.int IntKind.i64)) (Ty.pair (Ty.int IntKind.i64) Ty.unit)))))))) (Ty.pair (Ty.int IntKind.i64) (Ty.pair Ty.bool Ty.unit)))) p2)) :: (Blk.mem (CV.pair (CV.nil (23 : Nat) (Ty.pair (Ty.int IntKind.i64) (Ty.pair (Ty.int IntKind.i64) (Ty.pair (Ty.int IntKind.i64) (Ty.pair (Ty.int IntKind.i64) (Ty.pair (Ty.int IntKind.i64) (Ty.pair (Ty.int IntKind.i64) (Ty.pair Ty.bool (Ty.pair (Ty.int IntKind.i64) Ty.unit))))))))) (CV.pair (CV.nil (46 : Nat) (Ty.pair (Ty.int IntKind.i64) (Ty.pair (Ty.int IntKind.i64) (Ty.pair (Ty.int IntKind.i64) (Ty.pair (Ty.int IntKind.i64) (Ty.pair (Ty.int IntKind.i64) (Ty.pair (Ty.slice (Ty.int IntKind.i64)) (Ty.pair (Ty.int IntKind.i64) Ty.unit)))))))) (CV.pure (Ty.pair (Ty.int IntKind.i64) (Ty.pair Ty.bool Ty.unit)) p3)))) :: (Blk.mem (CV.pair (CV.pure (Ty.slice (Ty.pair (Ty.int IntKind.i64) (Ty.pair (Ty.int IntKind.i64) (Ty.pair (Ty.int IntKind.i64) (Ty.pair (Ty.int IntKind.i64) (Ty.pair (Ty.int IntKind.i64) (Ty.pair (Ty.int IntKind.i64) (Ty.pair Ty.bool (Ty.pair (Ty.int IntKind.i64) Ty.unit))))))))) p4) (CV.pair (CV.whole (3 : Nat)) (CV.pure (Ty.pair (Ty.int IntKind.i64) (Ty.pair Ty.bool Ty.unit)) p5)))) :: (Blk.vec (46 : Nat) (Ty.pair (Ty.int IntKind.i64) (Ty.pair (Ty.int IntKind.i64) (Ty.pair (Ty.int IntKind.i64) (Ty.pair (Ty.int IntKind.i64) (Ty.pair (Ty.int IntKind.i64) (Ty.pair (Ty.slice (Ty.int IntKind.i64)) (Ty.pair (Ty.int IntKind.i64) Ty.unit))))))) p6) :: (Blk.mem (CV.pair (CV.whole (5 : Nat)) (CV.pair (CV.whole (6 : Nat)) (CV.pure (Ty.pair (Ty.int IntKind.i64) (Ty.pair Ty.bool Ty.unit)) p7)))) :: (Blk.vec (23 : Nat) (Ty.pair (Ty.int IntKind.i64) (Ty.pair (Ty.int IntKind.i64) (Ty.pair (Ty.int IntKind.i64) (Ty.pair (Ty.int IntKind.i64) (Ty.pair (Ty.int IntKind.i64) (Ty.pair (Ty.int IntKind.i64) (Ty.pair Ty.bool (Ty.pair (Ty.int IntKind.i64) Ty.unit)))))))) p8) :: (Blk.vec (46 : Nat) (Ty.pair (Ty.int IntKind.i64) (Ty.pair (Ty.int IntKind.i64) (Ty.pair (Ty.int IntKind.i64) (Ty.pair (Ty.int IntKind.i64) (Ty.pair (Ty.int IntKind.i64) (Ty.pair (Ty.slice (Ty.int IntKind.i64)) (Ty.pair (Ty.int IntKind.i64) Ty.unit))))))) p9) :: []) => gd (shapeOK T 28 [1, 2, 10, 11] (2 : Nat)) (G p0 p1 p2 p3 p4 p5 p6 p7 p8 p9 k)
  | _, _, _, _, _ => none
theorem o_33_35_0_0_inv {R : Type} {G : (Int) → (Int) → (Zt33_7) → (Zt33_6) → (Zt33_2) → (Zt33_6) → (Zt33_3) → (Zt33_6) → (Zt33_2) → (Zt33_3) → (Ex → St → Option R) → Option R} {T : St} {k : Ex → St → Option R} {r : R} (h : o_33_35_0_0 G T k = some r) : ∃ p0 p1 p2 p3 p4 p5 p6 p7 p8 p9, T = T_33_35_0_0 p0 p1 p2 p3 p4 p5 p6 p7 p8 p9 ∧ G p0 p1 p2 p3 p4 p5 p6 p7 p8 p9 k = some r := by
  unfold o_33_35_0_0 at h
  split at h
  · obtain ⟨hs, h'⟩ := gd_some h
    refine ⟨_, _, _, _, _, _, _, _, _, _, (st_of (asg := [(1, _), (2, _), (10, _), (11, _)]) hs ⟨by assumption, by assumption, by assumption, by assumption, trivial⟩ (by assumption)).trans ?_, h'⟩
    kernel_rfl
  · cases h
def T_33_1 (p0 : Int) (p1 : Nat) (p2 : Bool) (p3 : Int) (p4 : Int) (p5 : Zt33_2) (p6 : Zt33_6) (p7 : Zt33_3) (p8 : Zt33_6) (p9 : Zt33_2) (p10 : Zt33_3) : St := St.mk ([jk, CV.ptr (0 : Nat) [], CV.ptr (2 : Nat) [], jk, CV.int IntKind.i64 p0, CV.ptr (1 : Nat) [Step.ix p1 (7 : Nat)], CV.bool p2] ++ (jl 15 ++ ([CV.int IntKind.i64 p3, CV.int IntKind.i64 p4] ++ (jl 84)))) [Blk.mem (CV.pair (CV.pure Zy33_4 p5) (CV.pair (CV.whole (1 : Nat)) (CV.pure Zy33_9 p6))), Blk.vec (46 : Nat) Zy33_0 p7, Blk.mem (CV.pair (CV.whole (3 : Nat)) (CV.pair (CV.whole (4 : Nat)) (CV.pure Zy33_9 p8))), Blk.vec (23 : Nat) Zy33_1 p9, Blk.vec (46 : Nat) Zy33_0 p10] (0 : Nat)
def X_33_1_0 (p0 : Int) (p1 : Nat) (p2 : Bool) (p3 : Int) (p4 : Int) (p5 : Zt33_2) (p6 : Zt33_6) (p7 : Zt33_3) (p8 : Zt33_6) (p9 : Zt33_2) (p10 : Zt33_3) : St := St.mk ([jk, CV.ptr (0 : Nat) [], CV.ptr (2 : Nat) [], jk, CV.int IntKind.i64 p0, CV.ptr (1 : Nat) [Step.ix p1 (7 : Nat)], CV.bool p2] ++ (jl 15 ++ ([CV.int IntKind.i64 p3, CV.int IntKind.i64 p4] ++ (jl 41 ++ ([CV.bool true, CV.bool p2, CV.bool true, CV.undef, CV.undef, CV.undef, CV.undef, CV.undef, CV.undef, CV.undef, CV.undef, CV.undef, CV.undef, CV.undef, CV.bool true, CV.ptr (1 : Nat) [Step.ix p1 (7 : Nat)], CV.ptr (1 : Nat) [Step.ix p1 (7 : Nat)], CV.ptr (1 : Nat) [Step.ix p1 (7 : Nat)], CV.ptr (1 : Nat) [Step.ix p1 (7 : Nat), Step.f (1 : Nat) (1 : Nat)], CV.int IntKind.i64 ((List.getD p7 p1 (Ty.dflt Zy33_0)).2.1), CV.pair (CV.int IntKind.i64 (8 : Int)) (CV.pair (CV.int IntKind.i64 ((List.getD p7 p1 (Ty.dflt Zy33_0)).2.1)) (CV.pair (CV.int IntKind.i64 (0 : Int)) (CV.pair (CV.int IntKind.i64 (0 : Int)) (CV.pair (CV.int IntKind.i64 (0 : Int)) (CV.pair (CV.nil (3 : Nat) (Ty.int IntKind.i64)) (CV.pure (Ty.pair (Ty.int IntKind.i64) Ty.unit) (((0 : Int), PUnit.unit) : (Int × Unit)))))))), CV.ptr (1 : Nat) [Step.ix p1 (7 : Nat)]] ++ (jl 21)))))) [Blk.mem (CV.pair (CV.pure Zy33_4 p5) (CV.pair (CV.whole (1 : Nat)) (CV.pure Zy33_9 p6))), Blk.vec (46 : Nat) Zy33_0 ((List.set p7 p1 ((8 : Int), (List.getD p7 p1 (Ty.dflt Zy33_0)).2.1, (0 : Int), (0 : Int), (0 : Int), [], (0 : Int), PUnit.unit)) : (Zt33_11)), Blk.mem (CV.pair (CV.whole (3 : Nat)) (CV.pair (CV.whole (4 : Nat)) (CV.pure Zy33_9 p8))), Blk.vec (23 : Nat) Zy33_1 p9, Blk.vec (46 : Nat) Zy33_0 p10] (0 : Nat)
def X_33_1_1 (p0 : Int) (p1 : Nat) (p2 : Bool) (p3 : Int) (p4 : Int) (p5 : Zt33_2) (p6 : Zt33_6) (p7 : Zt33_3) (p8 : Zt33_6) (p9 : Zt33_2) (p10 : Zt33_3) : St := St.mk ([jk, CV.ptr (0 : Nat) [], CV.ptr (2 : Nat) [], jk, CV.int IntKind.i64 p0, CV.ptr (1 : Nat) [Step.ix p1 (7 : Nat)], CV.bool p2] ++ (jl 15 ++ ([CV.int IntKind.i64 p3, CV.int IntKind.i64 p4] ++ (jl 41 ++ ([CV.bool true, CV.bool p2, CV.bool false, CV.ptr (1 : Nat) [Step.ix p1 (7 : Nat)], CV.ptr (1 : Nat) [Step.ix p1 (7 : Nat)], CV.ptr (1 : Nat) [Step.ix p1 (7 : Nat), Step.f (3 : Nat) (3 : Nat)], CV.int IntKind.i64 ((List.getD p7 p1 (Ty.dflt Zy33_0)).2.2.2.1), CV.ptr (0 : Nat) [Step.f (0 : Nat) (0 : Nat)], CV.pure Zy33_4 p5, CV.int IntKind.i64 p0, CV.ref Zy33_1 ((List.getD p5 (Int.toNat p0) (Ty.dflt Zy33_1)) : Zt33_10), CV.ref (Ty.int IntKind.i64) (((List.getD p5 (Int.toNat p0) (Ty.dflt Zy33_1)).2.2.2.2.1) : Int), CV.int IntKind.i64 ((List.getD p5 (Int.toNat p0) (Ty.dflt Zy33_1)).2.2.2.2.1), CV.bool ((List.getD p7 p1 (Ty.dflt Zy33_0)).2.2.2.1 == (List.getD p5 (Int.toNat p0) (Ty.dflt Zy33_1)).2.2.2.2.1), CV.bool ((List.getD p7 p1 (Ty.dflt Zy33_0)).2.2.2.1 == (List.getD p5 (Int.toNat p0) (Ty.dflt Zy33_1)).2.2.2.2.1), CV.ptr (1 : Nat) [Step.ix p1 (7 : Nat)], CV.ptr (1 : Nat) [Step.ix p1 (7 : Nat)], CV.ptr (1 : Nat) [Step.ix p1 (7 : Nat)], CV.ptr (1 : Nat) [Step.ix p1 (7 : Nat), Step.f (1 : Nat) (1 : Nat)], CV.int IntKind.i64 ((List.getD p7 p1 (Ty.dflt Zy33_0)).2.1), CV.pair (CV.int IntKind.i64 (8 : Int)) (CV.pair (CV.int IntKind.i64 ((List.getD p7 p1 (Ty.dflt Zy33_0)).2.1)) (CV.pair (CV.int IntKind.i64 (0 : Int)) (CV.pair (CV.int IntKind.i64 (0 : Int)) (CV.pair (CV.int IntKind.i64 (0 : Int)) (CV.pair (CV.nil (3 : Nat) (Ty.int IntKind.i64)) (CV.pure (Ty.pair (Ty.int IntKind.i64) Ty.unit) (((0 : Int), PUnit.unit) : (Int × Unit)))))))), CV.ptr (1 : Nat) [Step.ix p1 (7 : Nat)]] ++ (jl 21)))))) [Blk.mem (CV.pair (CV.pure Zy33_4 p5) (CV.pair (CV.whole (1 : Nat)) (CV.pure Zy33_9 p6))), Blk.vec (46 : Nat) Zy33_0 ((List.set p7 p1 ((8 : Int), (List.getD p7 p1 (Ty.dflt Zy33_0)).2.1, (0 : Int), (0 : Int), (0 : Int), [], (0 : Int), PUnit.unit)) : (Zt33_11)), Blk.mem (CV.pair (CV.whole (3 : Nat)) (CV.pair (CV.whole (4 : Nat)) (CV.pure Zy33_9 p8))), Blk.vec (23 : Nat) Zy33_1 p9, Blk.vec (46 : Nat) Zy33_0 p10] (0 : Nat)
def X_33_1_2 (p0 : Int) (p1 : Nat) (p2 : Bool) (p3 : Int) (p4 : Int) (p5 : Zt33_2) (p6 : Zt33_6) (p7 : Zt33_3) (p8 : Zt33_6) (p9 : Zt33_2) (p10 : Zt33_3) : St := St.mk ([jk, CV.ptr (0 : Nat) [], CV.ptr (2 : Nat) [], jk, CV.int IntKind.i64 p0, CV.ptr (1 : Nat) [Step.ix p1 (7 : Nat)], CV.bool p2] ++ (jl 15 ++ ([CV.int IntKind.i64 p3, CV.int IntKind.i64 p4] ++ (jl 41 ++ ([CV.bool false, CV.bool p2, CV.bool false, CV.ptr (1 : Nat) [Step.ix p1 (7 : Nat)], CV.ptr (1 : Nat) [Step.ix p1 (7 : Nat)], CV.ptr (1 : Nat) [Step.ix p1 (7 : Nat), Step.f (3 : Nat) (3 : Nat)], CV.int IntKind.i64 ((List.getD p7 p1 (Ty.dflt Zy33_0)).2.2.2.1), CV.ptr (0 : Nat) [Step.f (0 : Nat) (0 : Nat)], CV.pure Zy33_4 p5, CV.int IntKind.i64 p0, CV.ref Zy33_1 ((List.getD p5 (Int.toNat p0) (Ty.dflt Zy33_1)) : Zt33_10), CV.ref (Ty.int IntKind.i64) (((List.getD p5 (Int.toNat p0) (Ty.dflt Zy33_1)).2.2.2.2.1) : Int), CV.int IntKind.i64 ((List.getD p5 (Int.toNat p0) (Ty.dflt Zy33_1)).2.2.2.2.1), CV.bool ((List.getD p7 p1 (Ty.dflt Zy33_0)).2.2.2.1 == (List.getD p5 (Int.toNat p0) (Ty.dflt Zy33_1)).2.2.2.2.1), CV.bool ((List.getD p7 p1 (Ty.dflt Zy33_0)).2.2.2.1 == (List.getD p5 (Int.toNat p0) (Ty.dflt Zy33_1)).2.2.2.2.1)] ++ (jl 7 ++ [CV.bool true, CV.ptr (1 : Nat) [Step.ix p1 (7 : Nat)], CV.ptr (1 : Nat) [Step.ix p1 (7 : Nat)], CV.ptr (1 : Nat) [Step.ix p1 (7 : Nat), Step.f (3 : Nat) (3 : Nat)], CV.int IntKind.i64 ((List.getD p7 p1 (Ty.dflt Zy33_0)).2.2.2.1), CV.ptr (0 : Nat) [Step.f (0 : Nat) (0 : Nat)], CV.pure Zy33_4 p5, CV.int IntKind.i64 p0, CV.ref Zy33_1 ((List.getD p5 (Int.toNat p0) (Ty.dflt Zy33_1)) : Zt33_10), CV.ref (Ty.int IntKind.i64) (((List.getD p5 (Int.toNat p0) (Ty.dflt Zy33_1)).2.2.2.1) : Int), CV.int IntKind.i64 ((List.getD p5 (Int.toNat p0) (Ty.dflt Zy33_1)).2.2.2.1), CV.bool (decide ((List.getD p7 p1 (Ty.dflt Zy33_0)).2.2.2.1 ≥ (List.getD p5 (Int.toNat p0) (Ty.dflt Zy33_1)).2.2.2.1)), CV.ptr (1 : Nat) [Step.ix p1 (7 : Nat)], CV.ptr (1 : Nat) [Step.ix p1 (7 : Nat)], CV.ptr (1 : Nat) [Step.ix p1 (7 : Nat), Step.f (0 : Nat) (0 : Nat)], CV.int IntKind.i64 ((List.getD p7 p1 (Ty.dflt Zy33_0)).1), CV.int IntKind.i64 (Sp.andnI IntKind.i64 ((List.getD p7 p1 (Ty.dflt Zy33_0)).1) (16 : Int)), CV.ptr (1 : Nat) [Step.ix p1 (7 : Nat)], CV.ptr (1 : Nat) [Step.ix p1 (7 : Nat), Step.f (0 : Nat) (0 : Nat)], jk, jk])))))) [Blk.mem (CV.pair (CV.pure Zy33_4 p5) (CV.pair (CV.whole (1 : Nat)) (CV.pure Zy33_9 p6))), Blk.vec (46 : Nat) Zy33_0 ((List.set p7 p1 (Sp.andnI IntKind.i64 ((List.getD p7 p1 (Ty.dflt Zy33_0)).1) (16 : Int), (List.getD p7 p1 (Ty.dflt Zy33_0)).2)) : (Zt33_11)), Blk.mem (CV.pair (CV.whole (3 : Nat)) (CV.pair (CV.whole (4 : Nat)) (CV.pure Zy33_9 p8))), Blk.vec (23 : Nat) Zy33_1 p9, Blk.vec (46 : Nat) Zy33_0 p10] (0 : Nat)
def X_33_1_3 (p0 : Int) (p1 : Nat) (p2 : Bool) (p3 : Int) (p4 : Int) (p5 : Zt33_2) (p6 : Zt33_6) (p7 : Zt33_3) (p8 : Zt33_6) (p9 : Zt33_2) (p10 : Zt33_3) : St := St.mk ([jk, CV.ptr (0 : Nat) [], CV.ptr (2 : Nat) [], jk, CV.int IntKind.i64 p0, CV.ptr (1 : Nat) [Step.ix p1 (7 : Nat)], CV.bool p2] ++ (jl 15 ++ ([CV.int IntKind.i64 p3, CV.int IntKind.i64 p4] ++ (jl 41 ++ ([CV.bool false, CV.bool p2, CV.bool false, CV.ptr (1 : Nat) [Step.ix p1 (7 : Nat)], CV.ptr (1 : Nat) [Step.ix p1 (7 : Nat)], CV.ptr (1 : Nat) [Step.ix p1 (7 : Nat), Step.f (3 : Nat) (3 : Nat)], CV.int IntKind.i64 ((List.getD p7 p1 (Ty.dflt Zy33_0)).2.2.2.1), CV.ptr (0 : Nat) [Step.f (0 : Nat) (0 : Nat)], CV.pure Zy33_4 p5, CV.int IntKind.i64 p0, CV.ref Zy33_1 ((List.getD p5 (Int.toNat p0) (Ty.dflt Zy33_1)) : Zt33_10), CV.ref (Ty.int IntKind.i64) (((List.getD p5 (Int.toNat p0) (Ty.dflt Zy33_1)).2.2.2.2.1) : Int), CV.int IntKind.i64 ((List.getD p5 (Int.toNat p0) (Ty.dflt Zy33_1)).2.2.2.2.1), CV.bool ((List.getD p7 p1 (Ty.dflt Zy33_0)).2.2.2.1 == (List.getD p5 (Int.toNat p0) (Ty.dflt Zy33_1)).2.2.2.2.1), CV.bool ((List.getD p7 p1 (Ty.dflt Zy33_0)).2.2.2.1 == (List.getD p5 (Int.toNat p0) (Ty.dflt Zy33_1)).2.2.2.2.1)] ++ (jl 7 ++ ([CV.bool false, CV.ptr (1 : Nat) [Step.ix p1 (7 : Nat)], CV.ptr (1 : Nat) [Step.ix p1 (7 : Nat)], CV.ptr (1 : Nat) [Step.ix p1 (7 : Nat), Step.f (3 : Nat) (3 : Nat)], CV.int IntKind.i64 ((List.getD p7 p1 (Ty.dflt Zy33_0)).2.2.2.1), CV.ptr (0 : Nat) [Step.f (0 : Nat) (0 : Nat)], CV.pure Zy33_4 p5, CV.int IntKind.i64 p0, CV.ref Zy33_1 ((List.getD p5 (Int.toNat p0) (Ty.dflt Zy33_1)) : Zt33_10), CV.ref (Ty.int IntKind.i64) (((List.getD p5 (Int.toNat p0) (Ty.dflt Zy33_1)).2.2.2.1) : Int), CV.int IntKind.i64 ((List.getD p5 (Int.toNat p0) (Ty.dflt Zy33_1)).2.2.2.1), CV.bool (decide ((List.getD p7 p1 (Ty.dflt Zy33_0)).2.2.2.1 ≥ (List.getD p5 (Int.toNat p0) (Ty.dflt Zy33_1)).2.2.2.1))] ++ (jl 9)))))))) [Blk.mem (CV.pair (CV.pure Zy33_4 p5) (CV.pair (CV.whole (1 : Nat)) (CV.pure Zy33_9 p6))), Blk.vec (46 : Nat) Zy33_0 p7, Blk.mem (CV.pair (CV.whole (3 : Nat)) (CV.pair (CV.whole (4 : Nat)) (CV.pure Zy33_9 p8))), Blk.vec (23 : Nat) Zy33_1 p9, Blk.vec (46 : Nat) Zy33_0 p10] (0 : Nat)
inductive Sp.E_33_1 where
  | e0 (p0 : Int) (p1 : Nat) (p2 : Bool) (p3 : Int) (p4 : Int) (p5 : Zt33_2) (p6 : Zt33_6) (p7 : Zt33_3) (p8 : Zt33_6) (p9 : Zt33_2) (p10 : Zt33_3)
  | e1 (p0 : Int) (p1 : Nat) (p2 : Bool) (p3 : Int) (p4 : Int) (p5 : Zt33_2) (p6 : Zt33_6) (p7 : Zt33_3) (p8 : Zt33_6) (p9 : Zt33_2) (p10 : Zt33_3)
  | e2 (p0 : Int) (p1 : Nat) (p2 : Bool) (p3 : Int) (p4 : Int) (p5 : Zt33_2) (p6 : Zt33_6) (p7 : Zt33_3) (p8 : Zt33_6) (p9 : Zt33_2) (p10 : Zt33_3)
  | e3 (p0 : Int) (p1 : Nat) (p2 : Bool) (p3 : Int) (p4 : Int) (p5 : Zt33_2) (p6 : Zt33_6) (p7 : Zt33_3) (p8 : Zt33_6) (p9 : Zt33_2) (p10 : Zt33_3)
def Sp.B_33_1 {R : Type} (r : Option Sp.E_33_1) (k0 : (Int) → (Nat) → (Bool) → (Int) → (Int) → (Zt33_2) → (Zt33_6) → (Zt33_3) → (Zt33_6) → (Zt33_2) → (Zt33_3) → Option R) (k1 : (Int) → (Nat) → (Bool) → (Int) → (Int) → (Zt33_2) → (Zt33_6) → (Zt33_3) → (Zt33_6) → (Zt33_2) → (Zt33_3) → Option R) (k2 : (Int) → (Nat) → (Bool) → (Int) → (Int) → (Zt33_2) → (Zt33_6) → (Zt33_3) → (Zt33_6) → (Zt33_2) → (Zt33_3) → Option R) (k3 : (Int) → (Nat) → (Bool) → (Int) → (Int) → (Zt33_2) → (Zt33_6) → (Zt33_3) → (Zt33_6) → (Zt33_2) → (Zt33_3) → Option R) : Option R := match r with
  | none => none
  | some (.e0 p0 p1 p2 p3 p4 p5 p6 p7 p8 p9 p10) => k0 p0 p1 p2 p3 p4 p5 p6 p7 p8 p9 p10
  | some (.e1 p0 p1 p2 p3 p4 p5 p6 p7 p8 p9 p10) => k1 p0 p1 p2 p3 p4 p5 p6 p7 p8 p9 p10
  | some (.e2 p0 p1 p2 p3 p4 p5 p6 p7 p8 p9 p10) => k2 p0 p1 p2 p3 p4 p5 p6 p7 p8 p9 p10
  | some (.e3 p0 p1 p2 p3 p4 p5 p6 p7 p8 p9 p10) => k3 p0 p1 p2 p3 p4 p5 p6 p7 p8 p9 p10
def Sp.J_33_1 (p0 : Int) (p1 : Nat) (p2 : Bool) (p3 : Int) (p4 : Int) (p5 : List (Int × Int × Int × Int × Int × Int × Bool × Int × PUnit)) (p6 : Int × Bool × PUnit) (p7 : List (Int × Int × Int × Int × Int × List Int × Int × PUnit)) (p8 : Int × Bool × PUnit) (p9 : List (Int × Int × Int × Int × Int × Int × Bool × Int × PUnit)) (p10 : List (Int × Int × Int × Int × Int × List Int × Int × PUnit)) : Option Sp.E_33_1 :=
  bif p2 then gd (decide (p1 < List.length p7) && true) (gd (decide (p1 < List.length p7) && true && true) (some (Sp.E_33_1.e0 p0 p1 p2 p3 p4 p5 p6 p7 p8 p9 p10))) else gd (decide (p1 < List.length p7) && true) (gd (inB p0 (List.length p5)) (bif (List.getD p7 p1 Zd1).2.2.2.1 == (List.getD p5 (Int.toNat p0) Zd0).2.2.2.2.1 then gd (decide (p1 < List.length p7) && true) (gd (decide (p1 < List.length p7) && true && true) (some (Sp.E_33_1.e1 p0 p1 p2 p3 p4 p5 p6 p7 p8 p9 p10))) else gd (decide (p1 < List.length p7) && true) (gd (inB p0 (List.length p5)) (bif decide ((List.getD p7 p1 Zd1).2.2.2.1 ≥ (List.getD p5 (Int.toNat p0) Zd0).2.2.2.1) then gd (decide (p1 < List.length p7) && true) (gd (decide (p1 < List.length p7) && true && true) (some (Sp.E_33_1.e2 p0 p1 p2 p3 p4 p5 p6 p7 p8 p9 p10))) else some (Sp.E_33_1.e3 p0 p1 p2 p3 p4 p5 p6 p7 p8 p9 p10)))))
def G_33_1 {R : Type} (p0 : Int) (p1 : Nat) (p2 : Bool) (p3 : Int) (p4 : Int) (p5 : Zt33_2) (p6 : Zt33_6) (p7 : Zt33_3) (p8 : Zt33_6) (p9 : Zt33_2) (p10 : Zt33_3) (k : Ex → St → Option R) : Option R := Sp.B_33_1 (Sp.J_33_1 p0 p1 p2 p3 p4 p5 p6 p7 p8 p9 p10) (fun p0 p1 p2 p3 p4 p5 p6 p7 p8 p9 p10 => k Ex.normal (X_33_1_0 p0 p1 p2 p3 p4 p5 p6 p7 p8 p9 p10)) (fun p0 p1 p2 p3 p4 p5 p6 p7 p8 p9 p10 => k Ex.normal (X_33_1_1 p0 p1 p2 p3 p4 p5 p6 p7 p8 p9 p10)) (fun p0 p1 p2 p3 p4 p5 p6 p7 p8 p9 p10 => k Ex.normal (X_33_1_2 p0 p1 p2 p3 p4 p5 p6 p7 p8 p9 p10)) (fun p0 p1 p2 p3 p4 p5 p6 p7 p8 p9 p10 => k Ex.normal (X_33_1_3 p0 p1 p2 p3 p4 p5 p6 p7 p8 p9 p10))
def o_33_1 {R : Type} (G : (Int) → (Nat) → (Bool) → (Int) → (Int) → (Zt33_2) → (Zt33_6) → (Zt33_3) → (Zt33_6) → (Zt33_2) → (Zt33_3) → (Ex → St → Option R) → Option R) : St → (Ex → St → Option R) → Option R := fun T k => match T.sl.getD 1 .junk, T.sl.getD 2 .junk, T.sl.getD 4 .junk, T.sl.getD 5 .junk, T.sl.getD 6 .junk, T.sl.getD 22 .junk, T.sl.getD 23 .junk, T.hp with
  | CV.ptr (0 : Nat) [], CV.ptr (2 : Nat) [], CV.int IntKind.i64 p0, CV.ptr (1 : Nat) [Step.ix p1 (7 : Nat)], CV.bool p2, CV.int IntKind.i64 p3, CV.int IntKind.i64 p4, ((Blk.mem (CV.pair (CV.pure (Ty.slice (Ty.pair (Ty.int IntKind.i64) (Ty.pair (Ty.int IntKind.i64) (Ty.pair (Ty.int IntKind.i64) (Ty.pair (Ty.int IntKind.i64) (Ty.pair (Ty.int IntKind.i64) (Ty.pair (Ty.int IntKind.i64) (Ty.pair Ty.bool (Ty.pair (Ty.int IntKind.i64) Ty.unit))))))))) p5) (CV.pair (CV.whole (1 : Nat)) (CV.pure (Ty.pair (Ty.int IntKind.i64) (Ty.pair Ty.bool Ty.unit)) p6)))) :: (Blk.vec (46 : Nat) (Ty.pair (Ty.int IntKind.i64) (Ty.pair (Ty.int IntKind.i64) (Ty.pair (Ty.int IntKind.i64) (Ty.pair (Ty.int IntKind.i64) (Ty.pair (Ty.int IntKind.i64) (Ty.pair (Ty.slice (Ty.int IntKind.i64)) (Ty.pair (Ty.int IntKind.i64) Ty.unit))))))) p7) :: (Blk.mem (CV.pair (CV.whole (3 : Nat)) (CV.pair (CV.whole (4 : Nat)) (CV.pure (Ty.pair (Ty.int IntKind.i64) (Ty.pair Ty.bool Ty.unit)) p8)))) :: (Blk.vec (23 : Nat) (Ty.pair (Ty.int IntKind.i64) (Ty.pair (Ty.int IntKind.i64) (Ty.pair (Ty.int IntKind.i64) (Ty.pair (Ty.int IntKind.i64) (Ty.pair (Ty.int IntKind.i64) (Ty.pair (Ty.int IntKind.i64) (Ty.pair Ty.bool (Ty.pair (Ty.int IntKind.i64) Ty.unit)))))))) p9) :: (Blk.vec (46 : Nat) (Ty.pair (Ty.int IntKind.i64) (Ty.pair (Ty.int IntKind.i64) (Ty.pair (Ty.int IntKind.i64) (Ty.pair (Ty.int IntKind.i64) (Ty.pair (Ty.int IntKind.i64) (Ty.pair (Ty.slice (Ty.int IntKind.i64)) (Ty.pair (Ty.int IntKind.i64) Ty.unit))))))) p10) :: []) => gd (shapeOK T 108 [1, 2, 4, 5, 6, 22, 23] (0 : Nat)) (G p0 p1 p2 p3 p4 p5 p6 p7 p8 p9 p10 k)
  | _, _, _, _, _, _, _, _ => none
theorem o_33_1_inv {R : Type} {G : (Int) → (Nat) → (Bool) → (Int) → (Int) → (Zt33_2) → (Zt33_6) → (Zt33_3) → (Zt33_6) → (Zt33_2) → (Zt33_3) → (Ex → St → Option R) → Option R} {T : St} {k : Ex → St → Option R} {r : R} (h : o_33_1 G T k = some r) : ∃ p0 p1 p2 p3 p4 p5 p6 p7 p8 p9 p10, T = T_33_1 p0 p1 p2 p3 p4 p5 p6 p7 p8 p9 p10 ∧ G p0 p1 p2 p3 p4 p5 p6 p7 p8 p9 p10 k = some r := by
  unfold o_33_1 at h
  split at h
  · obtain ⟨hs, h'⟩ := gd_some h
    refine ⟨_, _, _, _, _, _, _, _, _, _, _, (st_of (asg := [(1, _), (2, _), (4, _), (5, _), (6, _), (22, _), (23, _)]) hs ⟨by assumption, by assumption, by assumption, by assumption, by assumption, by assumption, by assumption, trivial⟩ (by assumption)).trans ?_, h'⟩
    kernel_rfl
  · cases h
def T_33_0 (p0 : Int) (p1 : Int) (p2 : Zt33_2) (p3 : Zt33_6) (p4 : Zt33_3) (p5 : Zt33_6) (p6 : Zt33_2) (p7 : Zt33_3) : St := St.mk ([jk, CV.ptr (0 : Nat) [], CV.ptr (2 : Nat) []] ++ (jl 19 ++ ([CV.int IntKind.i64 p0, CV.int IntKind.i64 p1] ++ (jl 84)))) [Blk.mem (CV.pair (CV.pure Zy33_4 p2) (CV.pair (CV.whole (1 : Nat)) (CV.pure Zy33_9 p3))), Blk.vec (46 : Nat) Zy33_0 p4, Blk.mem (CV.pair (CV.whole (3 : Nat)) (CV.pair (CV.whole (4 : Nat)) (CV.pure Zy33_9 p5))), Blk.vec (23 : Nat) Zy33_1 p6, Blk.vec (46 : Nat) Zy33_0 p7] (0 : Nat)
def X_33_0_0 (p2 : Zt33_2) (p3 : Zt33_6) (p4 : Zt33_3) (p5 : Zt33_6) (p6 : Zt33_2) (p7 : Zt33_3) : St := St.mk ([jk, CV.ptr (0 : Nat) [], CV.ptr (2 : Nat) []] ++ (jl 105)) [Blk.mem (CV.pair (CV.pure Zy33_4 p2) (CV.pair (CV.whole (1 : Nat)) (CV.pure Zy33_9 p3))), Blk.vec (46 : Nat) Zy33_0 p4, Blk.mem (CV.pair (CV.whole (3 : Nat)) (CV.pair (CV.whole (4 : Nat)) (CV.pure Zy33_9 p5))), Blk.vec (23 : Nat) Zy33_1 p6, Blk.vec (46 : Nat) Zy33_0 p7] (0 : Nat)
inductive Sp.E_33_0 where
  | e0 (p2 : Zt33_2) (p3 : Zt33_6) (p4 : Zt33_3) (p5 : Zt33_6) (p6 : Zt33_2) (p7 : Zt33_3)
def Sp.B_33_0 {R : Type} (r : Option Sp.E_33_0) (k0 : (Zt33_2) → (Zt33_6) → (Zt33_3) → (Zt33_6) → (Zt33_2) → (Zt33_3) → Option R) : Option R := match r with
  | none => none
  | some (.e0 p2 p3 p4 p5 p6 p7) => k0 p2 p3 p4 p5 p6 p7
def Sp.L_33_0 : Nat → (Int) → (Int) → (List (Int × Int × Int × Int × Int × Int × Bool × Int × PUnit)) → (Int × Bool × PUnit) → (List (Int × Int × Int × Int × Int × List Int × Int × PUnit)) → (Int × Bool × PUnit) → (List (Int × Int × Int × Int × Int × Int × Bool × Int × PUnit)) → (List (Int × Int × Int × Int × Int × List Int × Int × PUnit)) → Option Sp.E_33_0
  | 0, _, _, _, _, _, _, _, _ => none
  | m + 1, p0, p1, p2, p3, p4, p5, p6, p7 => bif decide (p1 < p0) then gd (inB p1 (List.length p4)) (gd (decide (Int.toNat p1 < List.length p4) && true) (gd (Sp.p_40 (List.getD p4 (Int.toNat p1) Zd1) (8 : Int)) (bif !(Sp.v_40 (List.getD p4 (Int.toNat p1) Zd1) (8 : Int)).1 then Sp.L_33_0 m p0 (IntKind.wrap IntKind.i64 (p1 + (1 : Int))) p2 p3 p4 p5 p6 p7 else gd (decide (Int.toNat p1 < List.length p4) && true) (bif (List.getD p4 (Int.toNat p1) Zd1).2.2.2.2.2.2.1 == p3.1 then Sp.L_33_0 m p0 (IntKind.wrap IntKind.i64 (p1 + (1 : Int))) p2 p3 p4 p5 p6 p7 else gd (decide (Int.toNat p1 < List.length p4) && true) (gd (decide (Int.toNat p1 < List.length p4) && true && true) (gd (decide (Int.toNat p1 < List.length (List.set p4 (Int.toNat p1) (Sp.andnI IntKind.i64 ((List.getD p4 (Int.toNat p1) Zd1).1) (2 : Int), (List.getD p4 (Int.toNat p1) Zd1).2))) && true) (gd (Sp.p_40 (List.getD (List.set p4 (Int.toNat p1) (Sp.andnI IntKind.i64 ((List.getD p4 (Int.toNat p1) Zd1).1) (2 : Int), (List.getD p4 (Int.toNat p1) Zd1).2)) (Int.toNat p1) Zd1) (4 : Int)) (bif !!(Sp.v_40 (List.getD (List.set p4 (Int.toNat p1) (Sp.andnI IntKind.i64 ((List.getD p4 (Int.toNat p1) Zd1).1) (2 : Int), (List.getD p4 (Int.toNat p1) Zd1).2)) (Int.toNat p1) Zd1) (4 : Int)).1 then gd (decide (Int.toNat p1 < List.length (List.set p4 (Int.toNat p1) (Sp.andnI IntKind.i64 ((List.getD p4 (Int.toNat p1) Zd1).1) (2 : Int), (List.getD p4 (Int.toNat p1) Zd1).2))) && true) (gd (decide (Int.toNat p1 < List.length (List.set p4 (Int.toNat p1) (Sp.andnI IntKind.i64 ((List.getD p4 (Int.toNat p1) Zd1).1) (2 : Int), (List.getD p4 (Int.toNat p1) Zd1).2))) && true && true) (Sp.B_33_1 (Sp.J_33_1 p1 (Int.toNat p1) (!(Sp.v_40 (List.getD (List.set p4 (Int.toNat p1) (Sp.andnI IntKind.i64 ((List.getD p4 (Int.toNat p1) Zd1).1) (2 : Int), (List.getD p4 (Int.toNat p1) Zd1).2)) (Int.toNat p1) Zd1) (4 : Int)).1) p0 p1 p2 p3 (List.set (List.set p4 (Int.toNat p1) (Sp.andnI IntKind.i64 ((List.getD p4 (Int.toNat p1) Zd1).1) (2 : Int), (List.getD p4 (Int.toNat p1) Zd1).2)) (Int.toNat p1) ((List.getD (List.set p4 (Int.toNat p1) (Sp.andnI IntKind.i64 ((List.getD p4 (Int.toNat p1) Zd1).1) (2 : Int), (List.getD p4 (Int.toNat p1) Zd1).2)) (Int.toNat p1) Zd1).1, (List.getD (List.set p4 (Int.toNat p1) (Sp.andnI IntKind.i64 ((List.getD p4 (Int.toNat p1) Zd1).1) (2 : Int), (List.getD p4 (Int.toNat p1) Zd1).2)) (Int.toNat p1) Zd1).2.1, (List.getD (List.set p4 (Int.toNat p1) (Sp.andnI IntKind.i64 ((List.getD p4 (Int.toNat p1) Zd1).1) (2 : Int), (List.getD p4 (Int.toNat p1) Zd1).2)) (Int.toNat p1) Zd1).2.2.1, IntKind.wrap IntKind.i64 ((List.getD (List.set p4 (Int.toNat p1) (Sp.andnI IntKind.i64 ((List.getD p4 (Int.toNat p1) Zd1).1) (2 : Int), (List.getD p4 (Int.toNat p1) Zd1).2)) (Int.toNat p1) Zd1).2.2.2.1 + (1 : Int)), (List.getD (List.set p4 (Int.toNat p1) (Sp.andnI IntKind.i64 ((List.getD p4 (Int.toNat p1) Zd1).1) (2 : Int), (List.getD p4 (Int.toNat p1) Zd1).2)) (Int.toNat p1) Zd1).2.2.2.2)) p5 p6 p7) (fun (y88 : Int) (y89 : Nat) (y90 : Bool) (y91 y92 : Int) (y93 : List (Int × Int × Int × Int × Int × Int × Bool × Int × PUnit)) (y94 : Int × Bool × PUnit) (y95 : List (Int × Int × Int × Int × Int × List Int × Int × PUnit)) (y96 : Int × Bool × PUnit) (y97 : List (Int × Int × Int × Int × Int × Int × Bool × Int × PUnit)) (y98 : List (Int × Int × Int × Int × Int × List Int × Int × PUnit)) => Sp.L_33_0 m y91 (IntKind.wrap IntKind.i64 (y92 + (1 : Int))) y93 y94 (List.set y95 y89 ((8 : Int), (List.getD y95 y89 Zd1).2.1, (0 : Int), (0 : Int), (0 : Int), [], (0 : Int), PUnit.unit)) y96 y97 y98) (fun (y99 : Int) (y100 : Nat) (y101 : Bool) (y102 y103 : Int) (y104 : List (Int × Int × Int × Int × Int × Int × Bool × Int × PUnit)) (y105 : Int × Bool × PUnit) (y106 : List (Int × Int × Int × Int × Int × List Int × Int × PUnit)) (y107 : Int × Bool × PUnit) (y108 : List (Int × Int × Int × Int × Int × Int × Bool × Int × PUnit)) (y109 : List (Int × Int × Int × Int × Int × List Int × Int × PUnit)) => Sp.L_33_0 m y102 (IntKind.wrap IntKind.i64 (y103 + (1 : Int))) y104 y105 (List.set y106 y100 ((8 : Int), (List.getD y106 y100 Zd1).2.1, (0 : Int), (0 : Int), (0 : Int), [], (0 : Int), PUnit.unit)) y107 y108 y109) (fun (y110 : Int) (y111 : Nat) (y112 : Bool) (y113 y114 : Int) (y115 : List (Int × Int × Int × Int × Int × Int × Bool × Int × PUnit)) (y116 : Int × Bool × PUnit) (y117 : List (Int × Int × Int × Int × Int × List Int × Int × PUnit)) (y118 : Int × Bool × PUnit) (y119 : List (Int × Int × Int × Int × Int × Int × Bool × Int × PUnit)) (y120 : List (Int × Int × Int × Int × Int × List Int × Int × PUnit)) => Sp.L_33_0 m y113 (IntKind.wrap IntKind.i64 (y114 + (1 : Int))) y115 y116 (List.set y117 y111 (Sp.andnI IntKind.i64 ((List.getD y117 y111 Zd1).1) (16 : Int), (List.getD y117 y111 Zd1).2)) y118 y119 y120) fun (y121 : Int) (y122 : Nat) (y123 : Bool) (y124 y125 : Int) (y126 : List (Int × Int × Int × Int × Int × Int × Bool × Int × PUnit)) (y127 : Int × Bool × PUnit) (y128 : List (Int × Int × Int × Int × Int × List Int × Int × PUnit)) (y129 : Int × Bool × PUnit) (y130 : List (Int × Int × Int × Int × Int × Int × Bool × Int × PUnit)) (y131 : List (Int × Int × Int × Int × Int × List Int × Int × PUnit)) => Sp.L_33_0 m y124 (IntKind.wrap IntKind.i64 (y125 + (1 : Int))) y126 y127 y128 y129 y130 y131)) else Sp.B_33_1 (Sp.J_33_1 p1 (Int.toNat p1) (!(Sp.v_40 (List.getD (List.set p4 (Int.toNat p1) (Sp.andnI IntKind.i64 ((List.getD p4 (Int.toNat p1) Zd1).1) (2 : Int), (List.getD p4 (Int.toNat p1) Zd1).2)) (Int.toNat p1) Zd1) (4 : Int)).1) p0 p1 p2 p3 (List.set p4 (Int.toNat p1) (Sp.andnI IntKind.i64 ((List.getD p4 (Int.toNat p1) Zd1).1) (2 : Int), (List.getD p4 (Int.toNat p1) Zd1).2)) p5 p6 p7) (fun (y132 : Int) (y133 : Nat) (y134 : Bool) (y135 y136 : Int) (y137 : List (Int × Int × Int × Int × Int × Int × Bool × Int × PUnit)) (y138 : Int × Bool × PUnit) (y139 : List (Int × Int × Int × Int × Int × List Int × Int × PUnit)) (y140 : Int × Bool × PUnit) (y141 : List (Int × Int × Int × Int × Int × Int × Bool × Int × PUnit)) (y142 : List (Int × Int × Int × Int × Int × List Int × Int × PUnit)) => Sp.L_33_0 m y135 (IntKind.wrap IntKind.i64 (y136 + (1 : Int))) y137 y138 (List.set y139 y133 ((8 : Int), (List.getD y139 y133 Zd1).2.1, (0 : Int), (0 : Int), (0 : Int), [], (0 : Int), PUnit.unit)) y140 y141 y142) (fun (y143 : Int) (y144 : Nat) (y145 : Bool) (y146 y147 : Int) (y148 : List (Int × Int × Int × Int × Int × Int × Bool × Int × PUnit)) (y149 : Int × Bool × PUnit) (y150 : List (Int × Int × Int × Int × Int × List Int × Int × PUnit)) (y151 : Int × Bool × PUnit) (y152 : List (Int × Int × Int × Int × Int × Int × Bool × Int × PUnit)) (y153 : List (Int × Int × Int × Int × Int × List Int × Int × PUnit)) => Sp.L_33_0 m y146 (IntKind.wrap IntKind.i64 (y147 + (1 : Int))) y148 y149 (List.set y150 y144 ((8 : Int), (List.getD y150 y144 Zd1).2.1, (0 : Int), (0 : Int), (0 : Int), [], (0 : Int), PUnit.unit)) y151 y152 y153) (fun (y154 : Int) (y155 : Nat) (y156 : Bool) (y157 y158 : Int) (y159 : List (Int × Int × Int × Int × Int × Int × Bool × Int × PUnit)) (y160 : Int × Bool × PUnit) (y161 : List (Int × Int × Int × Int × Int × List Int × Int × PUnit)) (y162 : Int × Bool × PUnit) (y163 : List (Int × Int × Int × Int × Int × Int × Bool × Int × PUnit)) (y164 : List (Int × Int × Int × Int × Int × List Int × Int × PUnit)) => Sp.L_33_0 m y157 (IntKind.wrap IntKind.i64 (y158 + (1 : Int))) y159 y160 (List.set y161 y155 (Sp.andnI IntKind.i64 ((List.getD y161 y155 Zd1).1) (16 : Int), (List.getD y161 y155 Zd1).2)) y162 y163 y164) fun (y165 : Int) (y166 : Nat) (y167 : Bool) (y168 y169 : Int) (y170 : List (Int × Int × Int × Int × Int × Int × Bool × Int × PUnit)) (y171 : Int × Bool × PUnit) (y172 : List (Int × Int × Int × Int × Int × List Int × Int × PUnit)) (y173 : Int × Bool × PUnit) (y174 : List (Int × Int × Int × Int × Int × Int × Bool × Int × PUnit)) (y175 : List (Int × Int × Int × Int × Int × List Int × Int × PUnit)) => Sp.L_33_0 m y168 (IntKind.wrap IntKind.i64 (y169 + (1 : Int))) y170 y171 y172 y173 y174 y175)))))))) else some (Sp.E_33_0.e0 p2 p3 p4 p5 p6 p7)
def G_33_0 {R : Type} (p0 : Int) (p1 : Int) (p2 : Zt33_2) (p3 : Zt33_6) (p4 : Zt33_3) (p5 : Zt33_6) (p6 : Zt33_2) (p7 : Zt33_3) (k : Ex → St → Option R) : Option R := Sp.B_33_0 (Sp.L_33_0 FU p0 p1 p2 p3 p4 p5 p6 p7) (fun p2 p3 p4 p5 p6 p7 => k (Ex.exit (1 : Nat)) (X_33_0_0 p2 p3 p4 p5 p6 p7))
def o_33_0 {R : Type} (G : (Int) → (Int) → (Zt33_2) → (Zt33_6) → (Zt33_3) → (Zt33_6) → (Zt33_2) → (Zt33_3) → (Ex → St → Option R) → Option R) : St → (Ex → St → Option R) → Option R := fun T k => match T.sl.getD 1 .junk, T.sl.getD 2 .junk, T.sl.getD 22 .junk, T.sl.getD 23 .junk, T.hp with
  | CV.ptr (0 : Nat) [], CV.ptr (2 : Nat) [], CV.int IntKind.i64 p0, CV.int IntKind.i64 p1, ((Blk.mem (CV.pair (CV.pure (Ty.slice (Ty.pair (Ty.int IntKind.i64) (Ty.pair (Ty.int IntKind.i64) (Ty.pair (Ty.int IntKind.i64) (Ty.pair (Ty.int IntKind.i64) (Ty.pair (Ty.int IntKind.i64) (Ty.pair (Ty.int IntKind.i64) (Ty.pair Ty.bool (Ty.pair (Ty.int IntKind.i64) Ty.unit))))))))) p2) (CV.pair (CV.whole (1 : Nat)) (CV.pure (Ty.pair (Ty.int IntKind.i64) (Ty.pair Ty.bool Ty.unit)) p3)))) :: (Blk.vec (46 : Nat) (Ty.pair (Ty.int IntKind.i64) (Ty.pair (Ty.int IntKind.i64) (Ty.pair (Ty.int IntKind.i64) (Ty.pair (Ty.int IntKind.i64) (Ty.pair (Ty.int IntKind.i64) (Ty.pair (Ty.slice (Ty.int IntKind.i64)) (Ty.pair (Ty.int IntKind.i64) Ty.unit))))))) p4) :: (Blk.mem (CV.pair (CV.whole (3 : Nat)) (CV.pair (CV.whole (4 : Nat)) (CV.pure (Ty.pair (Ty.int IntKind.i64) (Ty.pair Ty.bool Ty.unit)) p5)))) :: (Blk.vec (23 : Nat) (Ty.pair (Ty.int IntKind.i64) (Ty.pair (Ty.int IntKind.i64) (Ty.pair (Ty.int IntKind.i64) (Ty.pair (Ty.int IntKind.i64) (Ty.pair (Ty.int IntKind.i64) (Ty.pair (Ty.int IntKind.i64) (Ty.pair Ty.bool (Ty.pair (Ty.int IntKind.i64) Ty.unit)))))))) p6) :: (Blk.vec (46 : Nat) (Ty.pair (Ty.int IntKind.i64) (Ty.pair (Ty.int IntKind.i64) (Ty.pair (Ty.int IntKind.i64) (Ty.pair (Ty.int IntKind.i64) (Ty.pair (Ty.int IntKind.i64) (Ty.pair (Ty.slice (Ty.int IntKind.i64)) (Ty.pair (Ty.int IntKind.i64) Ty.unit))))))) p7) :: []) => gd (shapeOK T 108 [1, 2, 22, 23] (0 : Nat)) (G p0 p1 p2 p3 p4 p5 p6 p7 k)
  | _, _, _, _, _ => none
theorem o_33_0_inv {R : Type} {G : (Int) → (Int) → (Zt33_2) → (Zt33_6) → (Zt33_3) → (Zt33_6) → (Zt33_2) → (Zt33_3) → (Ex → St → Option R) → Option R} {T : St} {k : Ex → St → Option R} {r : R} (h : o_33_0 G T k = some r) : ∃ p0 p1 p2 p3 p4 p5 p6 p7, T = T_33_0 p0 p1 p2 p3 p4 p5 p6 p7 ∧ G p0 p1 p2 p3 p4 p5 p6 p7 k = some r := by
  unfold o_33_0 at h
  split at h
  · obtain ⟨hs, h'⟩ := gd_some h
    refine ⟨_, _, _, _, _, _, _, _, (st_of (asg := [(1, _), (2, _), (22, _), (23, _)]) hs ⟨by assumption, by assumption, by assumption, by assumption, trivial⟩ (by assumption)).trans ?_, h'⟩
    kernel_rfl
  · cases h
def O_33_35_0 {R : Type} : St → (Ex → St → Option R) → Option R := fun T k => o_33_35_0_0 G_33_35_0_0 T k
def O_33_33_1 {R : Type} : St → (Ex → St → Option R) → Option R := fun T k => o_33_1 G_33_1 T k
def O_33_33_0 {R : Type} : St → (Ex → St → Option R) → Option R := fun T k => o_33_0 G_33_0 T k
def g_33_35 {R : Type} : List CV → List Blk → (CV → List Blk → Option R) → Option R := evFnL sm_33 FU (ovr noO (evFn sm_33 fns FU 0)) (ir35_t O_33_35_0) ir35
theorem body_33_35_0_0 {R : Type} (K0 : St → Option R) (K1 : Ex → St → Option R) (p0 : Int) (p1 : Int) (p2 : Zt33_7) (p3 : Zt33_6) (p4 : Zt33_2) (p5 : Zt33_6) (p6 : Zt33_3) (p7 : Zt33_6) (p8 : Zt33_2) (p9 : Zt33_3) : evLB (evCodeL sm_33 FU (ovr noO (evFn sm_33 fns FU 0)) .nil ir35_b0) (St.norm ir35_v0) (T_33_35_0_0 p0 p1 p2 p3 p4 p5 p6 p7 p8 p9) K0 K1 =
  bif decide (p1 < p0) then gd (inB p1 (List.length p6)) (gd (decide (Int.toNat p1 < List.length p6) && true) (gd (room (List.length ((List.getD p6 (Int.toNat p1) (Ty.dflt Zy33_0)).2.2.2.2.2.1)) (8 : Nat)) (gd (inB p1 (List.length p6)) (gd (decide (Int.toNat p1 < List.length p6) && true && true) (K0 (T_33_35_0_0 p0 (IntKind.wrap IntKind.i64 (p1 + (1 : Int))) p2 p3 p4 p5 (List.set p6 (Int.toNat p1) ((List.getD p6 (Int.toNat p1) (Ty.dflt Zy33_0)).1, (List.getD p6 (Int.toNat p1) (Ty.dflt Zy33_0)).2.1, (List.getD p6 (Int.toNat p1) (Ty.dflt Zy33_0)).2.2.1, (List.getD p6 (Int.toNat p1) (Ty.dflt Zy33_0)).2.2.2.1, (List.getD p6 (Int.toNat p1) (Ty.dflt Zy33_0)).2.2.2.2.1, (List.getD p6 (Int.toNat p1) (Ty.dflt Zy33_0)).2.2.2.2.2.1, (List.getD p6 (Int.toNat p1) (Ty.dflt Zy33_0)).2.2.2.2.2.2)) p7 p8 p9)))))) else K1 (Ex.exit (0 : Nat)) (X_33_35_0_0_0 p2 p3 p4 p5 p6 p7 p8 p9) := by kernel_rfl
theorem Bgd_33_35_0_0 {R : Type} {c : Bool} {x : Option R} {y : Option Sp.E_33_35_0_0} {k0 : (Zt33_7) → (Zt33_6) → (Zt33_2) → (Zt33_6) → (Zt33_3) → (Zt33_6) → (Zt33_2) → (Zt33_3) → Option R} (h : x = Sp.B_33_35_0_0 y k0) : gd c x = Sp.B_33_35_0_0 (gd c y) k0 := by cases c; rfl; exact h
theorem Bcond_33_35_0_0 {R : Type} {c : Bool} {x x' : Option R} {y y' : Option Sp.E_33_35_0_0} {k0 : (Zt33_7) → (Zt33_6) → (Zt33_2) → (Zt33_6) → (Zt33_3) → (Zt33_6) → (Zt33_2) → (Zt33_3) → Option R} (h : x = Sp.B_33_35_0_0 y k0) (h' : x' = Sp.B_33_35_0_0 y' k0) : (bif c then x else x') = Sp.B_33_35_0_0 (bif c then y else y') k0 := by cases c; exact h'; exact h
theorem loop_33_35_0_0 {R : Type} (k : Ex → St → Option R) : ∀ (m : Nat) (p0 : Int) (p1 : Int) (p2 : Zt33_7) (p3 : Zt33_6) (p4 : Zt33_2) (p5 : Zt33_6) (p6 : Zt33_3) (p7 : Zt33_6) (p8 : Zt33_2) (p9 : Zt33_3), evLoopN (evCodeL sm_33 FU (ovr noO (evFn sm_33 fns FU 0)) .nil ir35_b0) (St.norm ir35_v0) m (T_33_35_0_0 p0 p1 p2 p3 p4 p5 p6 p7 p8 p9) k = Sp.B_33_35_0_0 (Sp.L_33_35_0_0 m p0 p1 p2 p3 p4 p5 p6 p7 p8 p9) (fun p2 p3 p4 p5 p6 p7 p8 p9 => k (Ex.exit (0 : Nat)) (X_33_35_0_0_0 p2 p3 p4 p5 p6 p7 p8 p9))
  | 0, _, _, _, _, _, _, _, _, _, _ => rfl
  | m + 1, p0, p1, p2, p3, p4, p5, p6, p7, p8, p9 => by
    rw [evLoopN_succ, body_33_35_0_0, Sp.L_33_35_0_0]
    repeat' first | apply Bgd_33_35_0_0 | apply Bcond_33_35_0_0 | exact loop_33_35_0_0 k m _ _ _ _ _ _ _ _ _ _ | rfl
theorem ok_33_35_0_0 {R : Type} (T : St) (k : Ex → St → Option R) (r : R) (h0 : o_33_35_0_0 G_33_35_0_0 T k = some r) : evLoopN (evCode sm_33 FU (evFn sm_33 fns FU 0) ir35_b0) (St.norm ir35_v0) FU T k = some r := by
  obtain ⟨p0, p1, p2, p3, p4, p5, p6, p7, p8, p9, rfl, h⟩ := o_33_35_0_0_inv h0
  refine evLoopN_L (t := .nil) noO_ok trivial _ _ _ _ ?_
  rw [loop_33_35_0_0]
  exact h
theorem OK_33_35_0 {R : Type} (T : St) (k : Ex → St → Option R) (r : R) (h : O_33_35_0 T k = some r) : evLoopN (evCode sm_33 FU (evFn sm_33 fns FU 0) ir35_b0) (St.norm ir35_v0) FU T k = some r := ok_33_35_0_0 T k r h
theorem g_33_35_ok {R : Type} (args : List CV) (hp : List Blk) (k : CV → List Blk → Option R) (r : R) (h : g_33_35 args hp k = some r) : evFn sm_33 fns FU 1 35 args hp k = some r :=
  evFnL_sound (fn := ir35) (t := (ir35_t O_33_35_0)) (o := noO) rfl noO_ok (ir35_tok (fun T k r => OK_33_35_0 T k r)) h
theorem ov_33_33_ok {R : Type} : OvrOK (R := R) (fun f' => bif Nat.beq f' 35 then some (g_33_35) else none) (evFn sm_33 fns FU 1) := by
  intro f' g h args hp k r hg
  dsimp only at h
  by_cases h35 : f' = 35
  · subst h35
    injection h with h
    subst h
    exact evFn_le 0 (g_33_35_ok _ _ _ _ hg)
  rw [nbeq_ne h35, cond_false] at h
  cases h
theorem body_33_1 {R : Type} (K1 : Ex → St → Option R) (p0 : Int) (p1 : Nat) (p2 : Bool) (p3 : Int) (p4 : Int) (p5 : Zt33_2) (p6 : Zt33_6) (p7 : Zt33_3) (p8 : Zt33_6) (p9 : Zt33_2) (p10 : Zt33_3) : evJ (evCodeL sm_33 FU (ovr (fun f' => bif Nat.beq f' 35 then some (g_33_35) else none) (evFn sm_33 fns FU 1)) .nil ir33_b1) (T_33_1 p0 p1 p2 p3 p4 p5 p6 p7 p8 p9 p10) K1 =
  bif p2 then gd (decide (p1 < List.length p7) && true) (gd (decide (p1 < List.length p7) && true && true) (K1 Ex.normal (X_33_1_0 p0 p1 p2 p3 p4 p5 p6 p7 p8 p9 p10))) else gd (decide (p1 < List.length p7) && true) (gd (inB p0 (List.length p5)) (bif (List.getD p7 p1 (Ty.dflt Zy33_0)).2.2.2.1 == (List.getD p5 (Int.toNat p0) (Ty.dflt Zy33_1)).2.2.2.2.1 then gd (decide (p1 < List.length p7) && true) (gd (decide (p1 < List.length p7) && true && true) (K1 Ex.normal (X_33_1_1 p0 p1 p2 p3 p4 p5 p6 p7 p8 p9 p10))) else gd (decide (p1 < List.length p7) && true) (gd (inB p0 (List.length p5)) (bif decide ((List.getD p7 p1 (Ty.dflt Zy33_0)).2.2.2.1 ≥ (List.getD p5 (Int.toNat p0) (Ty.dflt Zy33_1)).2.2.2.1) then gd (decide (p1 < List.length p7) && true) (gd (decide (p1 < List.length p7) && true && true) (K1 Ex.normal (X_33_1_2 p0 p1 p2 p3 p4 p5 p6 p7 p8 p9 p10))) else K1 Ex.normal (X_33_1_3 p0 p1 p2 p3 p4 p5 p6 p7 p8 p9 p10))))) := by kernel_rfl
theorem Bgd_33_1 {R : Type} {c : Bool} {x : Option R} {y : Option Sp.E_33_1} {k0 : (Int) → (Nat) → (Bool) → (Int) → (Int) → (Zt33_2) → (Zt33_6) → (Zt33_3) → (Zt33_6) → (Zt33_2) → (Zt33_3) → Option R} {k1 : (Int) → (Nat) → (Bool) → (Int) → (Int) → (Zt33_2) → (Zt33_6) → (Zt33_3) → (Zt33_6) → (Zt33_2) → (Zt33_3) → Option R} {k2 : (Int) → (Nat) → (Bool) → (Int) → (Int) → (Zt33_2) → (Zt33_6) → (Zt33_3) → (Zt33_6) → (Zt33_2) → (Zt33_3) → Option R} {k3 : (Int) → (Nat) → (Bool) → (Int) → (Int) → (Zt33_2) → (Zt33_6) → (Zt33_3) → (Zt33_6) → (Zt33_2) → (Zt33_3) → Option R} (h : x = Sp.B_33_1 y k0 k1 k2 k3) : gd c x = Sp.B_33_1 (gd c y) k0 k1 k2 k3 := by cases c; rfl; exact h
theorem Bcond_33_1 {R : Type} {c : Bool} {x x' : Option R} {y y' : Option Sp.E_33_1} {k0 : (Int) → (Nat) → (Bool) → (Int) → (Int) → (Zt33_2) → (Zt33_6) → (Zt33_3) → (Zt33_6) → (Zt33_2) → (Zt33_3) → Option R} {k1 : (Int) → (Nat) → (Bool) → (Int) → (Int) → (Zt33_2) → (Zt33_6) → (Zt33_3) → (Zt33_6) → (Zt33_2) → (Zt33_3) → Option R} {k2 : (Int) → (Nat) → (Bool) → (Int) → (Int) → (Zt33_2) → (Zt33_6) → (Zt33_3) → (Zt33_6) → (Zt33_2) → (Zt33_3) → Option R} {k3 : (Int) → (Nat) → (Bool) → (Int) → (Int) → (Zt33_2) → (Zt33_6) → (Zt33_3) → (Zt33_6) → (Zt33_2) → (Zt33_3) → Option R} (h : x = Sp.B_33_1 y k0 k1 k2 k3) (h' : x' = Sp.B_33_1 y' k0 k1 k2 k3) : (bif c then x else x') = Sp.B_33_1 (bif c then y else y') k0 k1 k2 k3 := by cases c; exact h'; exact h
theorem loop_33_1 {R : Type} (k : Ex → St → Option R) (p0 : Int) (p1 : Nat) (p2 : Bool) (p3 : Int) (p4 : Int) (p5 : Zt33_2) (p6 : Zt33_6) (p7 : Zt33_3) (p8 : Zt33_6) (p9 : Zt33_2) (p10 : Zt33_3) : evJ (evCodeL sm_33 FU (ovr (fun f' => bif Nat.beq f' 35 then some (g_33_35) else none) (evFn sm_33 fns FU 1)) .nil ir33_b1) (T_33_1 p0 p1 p2 p3 p4 p5 p6 p7 p8 p9 p10) k = Sp.B_33_1 (Sp.J_33_1 p0 p1 p2 p3 p4 p5 p6 p7 p8 p9 p10) (fun p0 p1 p2 p3 p4 p5 p6 p7 p8 p9 p10 => k Ex.normal (X_33_1_0 p0 p1 p2 p3 p4 p5 p6 p7 p8 p9 p10)) (fun p0 p1 p2 p3 p4 p5 p6 p7 p8 p9 p10 => k Ex.normal (X_33_1_1 p0 p1 p2 p3 p4 p5 p6 p7 p8 p9 p10)) (fun p0 p1 p2 p3 p4 p5 p6 p7 p8 p9 p10 => k Ex.normal (X_33_1_2 p0 p1 p2 p3 p4 p5 p6 p7 p8 p9 p10)) (fun p0 p1 p2 p3 p4 p5 p6 p7 p8 p9 p10 => k Ex.normal (X_33_1_3 p0 p1 p2 p3 p4 p5 p6 p7 p8 p9 p10)) := by
  rw [body_33_1, Sp.J_33_1]
  repeat' first | apply Bgd_33_1 | apply Bcond_33_1 | rfl
theorem ok_33_1 {R : Type} (T : St) (k : Ex → St → Option R) (r : R) (h0 : o_33_1 G_33_1 T k = some r) : evCode sm_33 FU (evFn sm_33 fns FU 1) ir33_b1 T k = some r := by
  obtain ⟨p0, p1, p2, p3, p4, p5, p6, p7, p8, p9, p10, rfl, h⟩ := o_33_1_inv h0
  refine bodyL_sound (t := .nil) ov_33_33_ok trivial (((show ∀ (b : St → (Ex → St → Option R) → Option R) (T : St) (k : Ex → St → Option R), b T k = evJ b T k from fun _ _ _ => rfl) _ _ _).trans ((loop_33_1 k p0 p1 p2 p3 p4 p5 p6 p7 p8 p9 p10).trans h))
theorem OK_33_33_1 {R : Type} (T : St) (k : Ex → St → Option R) (r : R) (h : O_33_33_1 T k = some r) : evCode sm_33 FU (evFn sm_33 fns FU 1) ir33_b1 T k = some r := ok_33_1 T k r h
theorem body_33_0 {R : Type} (K0 : St → Option R) (K1 : Ex → St → Option R) (p0 : Int) (p1 : Int) (p2 : Zt33_2) (p3 : Zt33_6) (p4 : Zt33_3) (p5 : Zt33_6) (p6 : Zt33_2) (p7 : Zt33_3) : evLB (evCodeL sm_33 FU (ovr (fun f' => bif Nat.beq f' 35 then some (g_33_35) else none) (evFn sm_33 fns FU 1)) (ir33_bt0 O_33_33_1) ir33_b0) (St.norm ir33_v0) (T_33_0 p0 p1 p2 p3 p4 p5 p6 p7) K0 K1 =
  bif decide (p1 < p0) then gd (inB p1 (List.length p4)) (gd (decide (Int.toNat p1 < List.length p4) && true) (gd (Sp.p_40 (List.getD p4 (Int.toNat p1) (Ty.dflt Zy33_0)) (8 : Int)) (bif !(Sp.v_40 (List.getD p4 (Int.toNat p1) (Ty.dflt Zy33_0)) (8 : Int)).1 then K0 (T_33_0 p0 (IntKind.wrap IntKind.i64 (p1 + (1 : Int))) p2 p3 p4 p5 p6 p7) else gd (decide (Int.toNat p1 < List.length p4) && true) (bif (List.getD p4 (Int.toNat p1) (Ty.dflt Zy33_0)).2.2.2.2.2.2.1 == p3.1 then K0 (T_33_0 p0 (IntKind.wrap IntKind.i64 (p1 + (1 : Int))) p2 p3 p4 p5 p6 p7) else gd (decide (Int.toNat p1 < List.length p4) && true) (gd (decide (Int.toNat p1 < List.length p4) && true && true) (gd (decide (Int.toNat p1 < List.length (List.set p4 (Int.toNat p1) (Sp.andnI IntKind.i64 ((List.getD p4 (Int.toNat p1) (Ty.dflt Zy33_0)).1) (2 : Int), (List.getD p4 (Int.toNat p1) (Ty.dflt Zy33_0)).2))) && true) (gd (Sp.p_40 (List.getD (List.set p4 (Int.toNat p1) (Sp.andnI IntKind.i64 ((List.getD p4 (Int.toNat p1) (Ty.dflt Zy33_0)).1) (2 : Int), (List.getD p4 (Int.toNat p1) (Ty.dflt Zy33_0)).2)) (Int.toNat p1) (Ty.dflt Zy33_0)) (4 : Int)) (bif !!(Sp.v_40 (List.getD (List.set p4 (Int.toNat p1) (Sp.andnI IntKind.i64 ((List.getD p4 (Int.toNat p1) (Ty.dflt Zy33_0)).1) (2 : Int), (List.getD p4 (Int.toNat p1) (Ty.dflt Zy33_0)).2)) (Int.toNat p1) (Ty.dflt Zy33_0)) (4 : Int)).1 then gd (decide (Int.toNat p1 < List.length (List.set p4 (Int.toNat p1) (Sp.andnI IntKind.i64 ((List.getD p4 (Int.toNat p1) (Ty.dflt Zy33_0)).1) (2 : Int), (List.getD p4 (Int.toNat p1) (Ty.dflt Zy33_0)).2))) && true) (gd (decide (Int.toNat p1 < List.length (List.set p4 (Int.toNat p1) (Sp.andnI IntKind.i64 ((List.getD p4 (Int.toNat p1) (Ty.dflt Zy33_0)).1) (2 : Int), (List.getD p4 (Int.toNat p1) (Ty.dflt Zy33_0)).2))) && true && true) (Sp.B_33_1 (Sp.J_33_1 p1 (Int.toNat p1) (!(Sp.v_40 (List.getD (List.set p4 (Int.toNat p1) (Sp.andnI IntKind.i64 ((List.getD p4 (Int.toNat p1) (Ty.dflt Zy33_0)).1) (2 : Int), (List.getD p4 (Int.toNat p1) (Ty.dflt Zy33_0)).2)) (Int.toNat p1) (Ty.dflt Zy33_0)) (4 : Int)).1) p0 p1 p2 p3 (List.set (List.set p4 (Int.toNat p1) (Sp.andnI IntKind.i64 ((List.getD p4 (Int.toNat p1) (Ty.dflt Zy33_0)).1) (2 : Int), (List.getD p4 (Int.toNat p1) (Ty.dflt Zy33_0)).2)) (Int.toNat p1) ((List.getD (List.set p4 (Int.toNat p1) (Sp.andnI IntKind.i64 ((List.getD p4 (Int.toNat p1) (Ty.dflt Zy33_0)).1) (2 : Int), (List.getD p4 (Int.toNat p1) (Ty.dflt Zy33_0)).2)) (Int.toNat p1) (Ty.dflt Zy33_0)).1, (List.getD (List.set p4 (Int.toNat p1) (Sp.andnI IntKind.i64 ((List.getD p4 (Int.toNat p1) (Ty.dflt Zy33_0)).1) (2 : Int), (List.getD p4 (Int.toNat p1) (Ty.dflt Zy33_0)).2)) (Int.toNat p1) (Ty.dflt Zy33_0)).2.1, (List.getD (List.set p4 (Int.toNat p1) (Sp.andnI IntKind.i64 ((List.getD p4 (Int.toNat p1) (Ty.dflt Zy33_0)).1) (2 : Int), (List.getD p4 (Int.toNat p1) (Ty.dflt Zy33_0)).2)) (Int.toNat p1) (Ty.dflt Zy33_0)).2.2.1, IntKind.wrap IntKind.i64 ((List.getD (List.set p4 (Int.toNat p1) (Sp.andnI IntKind.i64 ((List.getD p4 (Int.toNat p1) (Ty.dflt Zy33_0)).1) (2 : Int), (List.getD p4 (Int.toNat p1) (Ty.dflt Zy33_0)).2)) (Int.toNat p1) (Ty.dflt Zy33_0)).2.2.2.1 + (1 : Int)), (List.getD (List.set p4 (Int.toNat p1) (Sp.andnI IntKind.i64 ((List.getD p4 (Int.toNat p1) (Ty.dflt Zy33_0)).1) (2 : Int), (List.getD p4 (Int.toNat p1) (Ty.dflt Zy33_0)).2)) (Int.toNat p1) (Ty.dflt Zy33_0)).2.2.2.2)) p5 p6 p7) (fun (y88 : Int) (y89 : Nat) (y90 : Bool) (y91 y92 : Int) (y93 : Zt33_2) (y94 : Zt33_6) (y95 : Zt33_3) (y96 : Zt33_6) (y97 : Zt33_2) (y98 : Zt33_3) => K0 (T_33_0 y91 (IntKind.wrap IntKind.i64 (y92 + (1 : Int))) y93 y94 (List.set y95 y89 ((8 : Int), (List.getD y95 y89 (Ty.dflt Zy33_0)).2.1, (0 : Int), (0 : Int), (0 : Int), [], (0 : Int), PUnit.unit)) y96 y97 y98)) (fun (y99 : Int) (y100 : Nat) (y101 : Bool) (y102 y103 : Int) (y104 : Zt33_2) (y105 : Zt33_6) (y106 : Zt33_3) (y107 : Zt33_6) (y108 : Zt33_2) (y109 : Zt33_3) => K0 (T_33_0 y102 (IntKind.wrap IntKind.i64 (y103 + (1 : Int))) y104 y105 (List.set y106 y100 ((8 : Int), (List.getD y106 y100 (Ty.dflt Zy33_0)).2.1, (0 : Int), (0 : Int), (0 : Int), [], (0 : Int), PUnit.unit)) y107 y108 y109)) (fun (y110 : Int) (y111 : Nat) (y112 : Bool) (y113 y114 : Int) (y115 : Zt33_2) (y116 : Zt33_6) (y117 : Zt33_3) (y118 : Zt33_6) (y119 : Zt33_2) (y120 : Zt33_3) => K0 (T_33_0 y113 (IntKind.wrap IntKind.i64 (y114 + (1 : Int))) y115 y116 (List.set y117 y111 (Sp.andnI IntKind.i64 ((List.getD y117 y111 (Ty.dflt Zy33_0)).1) (16 : Int), (List.getD y117 y111 (Ty.dflt Zy33_0)).2)) y118 y119 y120)) fun (y121 : Int) (y122 : Nat) (y123 : Bool) (y124 y125 : Int) (y126 : Zt33_2) (y127 : Zt33_6) (y128 : Zt33_3) (y129 : Zt33_6) (y130 : Zt33_2) (y131 : Zt33_3) => K0 (T_33_0 y124 (IntKind.wrap IntKind.i64 (y125 + (1 : Int))) y126 y127 y128 y129 y130 y131))) else Sp.B_33_1 (Sp.J_33_1 p1 (Int.toNat p1) (!(Sp.v_40 (List.getD (List.set p4 (Int.toNat p1) (Sp.andnI IntKind.i64 ((List.getD p4 (Int.toNat p1) (Ty.dflt Zy33_0)).1) (2 : Int), (List.getD p4 (Int.toNat p1) (Ty.dflt Zy33_0)).2)) (Int.toNat p1) (Ty.dflt Zy33_0)) (4 : Int)).1) p0 p1 p2 p3 (List.set p4 (Int.toNat p1) (Sp.andnI IntKind.i64 ((List.getD p4 (Int.toNat p1) (Ty.dflt Zy33_0)).1) (2 : Int), (List.getD p4 (Int.toNat p1) (Ty.dflt Zy33_0)).2)) p5 p6 p7) (fun (y132 : Int) (y133 : Nat) (y134 : Bool) (y135 y136 : Int) (y137 : Zt33_2) (y138 : Zt33_6) (y139 : Zt33_3) (y140 : Zt33_6) (y141 : Zt33_2) (y142 : Zt33_3) => K0 (T_33_0 y135 (IntKind.wrap IntKind.i64 (y136 + (1 : Int))) y137 y138 (List.set y139 y133 ((8 : Int), (List.getD y139 y133 (Ty.dflt Zy33_0)).2.1, (0 : Int), (0 : Int), (0 : Int), [], (0 : Int), PUnit.unit)) y140 y141 y142)) (fun (y143 : Int) (y144 : Nat) (y145 : Bool) (y146 y147 : Int) (y148 : Zt33_2) (y149 : Zt33_6) (y150 : Zt33_3) (y151 : Zt33_6) (y152 : Zt33_2) (y153 : Zt33_3) => K0 (T_33_0 y146 (IntKind.wrap IntKind.i64 (y147 + (1 : Int))) y148 y149 (List.set y150 y144 ((8 : Int), (List.getD y150 y144 (Ty.dflt Zy33_0)).2.1, (0 : Int), (0 : Int), (0 : Int), [], (0 : Int), PUnit.unit)) y151 y152 y153)) (fun (y154 : Int) (y155 : Nat) (y156 : Bool) (y157 y158 : Int) (y159 : Zt33_2) (y160 : Zt33_6) (y161 : Zt33_3) (y162 : Zt33_6) (y163 : Zt33_2) (y164 : Zt33_3) => K0 (T_33_0 y157 (IntKind.wrap IntKind.i64 (y158 + (1 : Int))) y159 y160 (List.set y161 y155 (Sp.andnI IntKind.i64 ((List.getD y161 y155 (Ty.dflt Zy33_0)).1) (16 : Int), (List.getD y161 y155 (Ty.dflt Zy33_0)).2)) y162 y163 y164)) fun (y165 : Int) (y166 : Nat) (y167 : Bool) (y168 y169 : Int) (y170 : Zt33_2) (y171 : Zt33_6) (y172 : Zt33_3) (y173 : Zt33_6) (y174 : Zt33_2) (y175 : Zt33_3) => K0 (T_33_0 y168 (IntKind.wrap IntKind.i64 (y169 + (1 : Int))) y170 y171 y172 y173 y174 y175))))))))) else K1 (Ex.exit (1 : Nat)) (X_33_0_0 p2 p3 p4 p5 p6 p7) := by kernel_rfl
theorem Bgd_33_0 {R : Type} {c : Bool} {x : Option R} {y : Option Sp.E_33_0} {k0 : (Zt33_2) → (Zt33_6) → (Zt33_3) → (Zt33_6) → (Zt33_2) → (Zt33_3) → Option R} (h : x = Sp.B_33_0 y k0) : gd c x = Sp.B_33_0 (gd c y) k0 := by cases c; rfl; exact h
theorem Bcond_33_0 {R : Type} {c : Bool} {x x' : Option R} {y y' : Option Sp.E_33_0} {k0 : (Zt33_2) → (Zt33_6) → (Zt33_3) → (Zt33_6) → (Zt33_2) → (Zt33_3) → Option R} (h : x = Sp.B_33_0 y k0) (h' : x' = Sp.B_33_0 y' k0) : (bif c then x else x') = Sp.B_33_0 (bif c then y else y') k0 := by cases c; exact h'; exact h
theorem Bin_33_0_33_1 {R : Type} {r : Option Sp.E_33_1} {k0 : (Zt33_2) → (Zt33_6) → (Zt33_3) → (Zt33_6) → (Zt33_2) → (Zt33_3) → Option R} {f0 : (Int) → (Nat) → (Bool) → (Int) → (Int) → (Zt33_2) → (Zt33_6) → (Zt33_3) → (Zt33_6) → (Zt33_2) → (Zt33_3) → Option R} {f1 : (Int) → (Nat) → (Bool) → (Int) → (Int) → (Zt33_2) → (Zt33_6) → (Zt33_3) → (Zt33_6) → (Zt33_2) → (Zt33_3) → Option R} {f2 : (Int) → (Nat) → (Bool) → (Int) → (Int) → (Zt33_2) → (Zt33_6) → (Zt33_3) → (Zt33_6) → (Zt33_2) → (Zt33_3) → Option R} {f3 : (Int) → (Nat) → (Bool) → (Int) → (Int) → (Zt33_2) → (Zt33_6) → (Zt33_3) → (Zt33_6) → (Zt33_2) → (Zt33_3) → Option R} {g0 : (Int) → (Nat) → (Bool) → (Int) → (Int) → (Zt33_2) → (Zt33_6) → (Zt33_3) → (Zt33_6) → (Zt33_2) → (Zt33_3) → Option Sp.E_33_0} {g1 : (Int) → (Nat) → (Bool) → (Int) → (Int) → (Zt33_2) → (Zt33_6) → (Zt33_3) → (Zt33_6) → (Zt33_2) → (Zt33_3) → Option Sp.E_33_0} {g2 : (Int) → (Nat) → (Bool) → (Int) → (Int) → (Zt33_2) → (Zt33_6) → (Zt33_3) → (Zt33_6) → (Zt33_2) → (Zt33_3) → Option Sp.E_33_0} {g3 : (Int) → (Nat) → (Bool) → (Int) → (Int) → (Zt33_2) → (Zt33_6) → (Zt33_3) → (Zt33_6) → (Zt33_2) → (Zt33_3) → Option Sp.E_33_0} (h0 : ∀ z0 z1 z2 z3 z4 z5 z6 z7 z8 z9 z10, f0 z0 z1 z2 z3 z4 z5 z6 z7 z8 z9 z10 = Sp.B_33_0 (g0 z0 z1 z2 z3 z4 z5 z6 z7 z8 z9 z10) k0) (h1 : ∀ z0 z1 z2 z3 z4 z5 z6 z7 z8 z9 z10, f1 z0 z1 z2 z3 z4 z5 z6 z7 z8 z9 z10 = Sp.B_33_0 (g1 z0 z1 z2 z3 z4 z5 z6 z7 z8 z9 z10) k0) (h2 : ∀ z0 z1 z2 z3 z4 z5 z6 z7 z8 z9 z10, f2 z0 z1 z2 z3 z4 z5 z6 z7 z8 z9 z10 = Sp.B_33_0 (g2 z0 z1 z2 z3 z4 z5 z6 z7 z8 z9 z10) k0) (h3 : ∀ z0 z1 z2 z3 z4 z5 z6 z7 z8 z9 z10, f3 z0 z1 z2 z3 z4 z5 z6 z7 z8 z9 z10 = Sp.B_33_0 (g3 z0 z1 z2 z3 z4 z5 z6 z7 z8 z9 z10) k0) : Sp.B_33_1 r f0 f1 f2 f3 = Sp.B_33_0 (Sp.B_33_1 r g0 g1 g2 g3) k0 := by
  cases r with
  | none => rfl
  | some e => cases e with
    | e0 z0 z1 z2 z3 z4 z5 z6 z7 z8 z9 z10 => exact h0 _ _ _ _ _ _ _ _ _ _ _
    | e1 z0 z1 z2 z3 z4 z5 z6 z7 z8 z9 z10 => exact h1 _ _ _ _ _ _ _ _ _ _ _
    | e2 z0 z1 z2 z3 z4 z5 z6 z7 z8 z9 z10 => exact h2 _ _ _ _ _ _ _ _ _ _ _
    | e3 z0 z1 z2 z3 z4 z5 z6 z7 z8 z9 z10 => exact h3 _ _ _ _ _ _ _ _ _ _ _
theorem loop_33_0 {R : Type} (k : Ex → St → Option R) : ∀ (m : Nat) (p0 : Int) (p1 : Int) (p2 : Zt33_2) (p3 : Zt33_6) (p4 : Zt33_3) (p5 : Zt33_6) (p6 : Zt33_2) (p7 : Zt33_3), evLoopN (evCodeL sm_33 FU (ovr (fun f' => bif Nat.beq f' 35 then some (g_33_35) else none) (evFn sm_33 fns FU 1)) (ir33_bt0 O_33_33_1) ir33_b0) (St.norm ir33_v0) m (T_33_0 p0 p1 p2 p3 p4 p5 p6 p7) k = Sp.B_33_0 (Sp.L_33_0 m p0 p1 p2 p3 p4 p5 p6 p7) (fun p2 p3 p4 p5 p6 p7 => k (Ex.exit (1 : Nat)) (X_33_0_0 p2 p3 p4 p5 p6 p7))
  | 0, _, _, _, _, _, _, _, _ => rfl
  | m + 1, p0, p1, p2, p3, p4, p5, p6, p7 => by
    rw [evLoopN_succ, body_33_0, Sp.L_33_0]
    repeat' first | apply Bgd_33_0 | apply Bcond_33_0 | (apply Bin_33_0_33_1 <;> intros) | exact loop_33_0 k m _ _ _ _ _ _ _ _ | rfl
theorem ok_33_0 {R : Type} (T : St) (k : Ex → St → Option R) (r : R) (h0 : o_33_0 G_33_0 T k = some r) : evLoopN (evCode sm_33 FU (evFn sm_33 fns FU 1) ir33_b0) (St.norm ir33_v0) FU T k = some r := by
  obtain ⟨p0, p1, p2, p3, p4, p5, p6, p7, rfl, h⟩ := o_33_0_inv h0
  refine evLoopN_L (t := (ir33_bt0 O_33_33_1)) ov_33_33_ok (ir33_bt0ok (fun T k r => OK_33_33_1 T k r)) _ _ _ _ ?_
  rw [loop_33_0]
  exact h
theorem OK_33_33_0 {R : Type} (T : St) (k : Ex → St → Option R) (r : R) (h : O_33_33_0 T k = some r) : evLoopN (evCode sm_33 FU (evFn sm_33 fns FU 1) ir33_b0) (St.norm ir33_v0) FU T k = some r := ok_33_0 T k r h
def F_33 (a0 : ((List (Int × (Int × (Int × (Int × (Int × (Int × (Bool × (Int × Unit))))))))) × ((List (Int × (Int × (Int × (Int × (Int × ((List Int) × (Int × Unit)))))))) × (Int × (Bool × Unit))))) : Option (((List (Int × (Int × (Int × (Int × (Int × (Int × (Bool × (Int × Unit))))))))) × ((List (Int × (Int × (Int × (Int × (Int × ((List Int) × (Int × Unit)))))))) × (Int × (Bool × Unit)))) × Int × Unit) :=
  gd (Sp.p_15 a0) (bif !(Sp.v_15 a0).1 then some (([], [], (0 : Int), false, PUnit.unit), (1 : Int), PUnit.unit) else bif !a0.2.2.2.1 then some (([], [], (0 : Int), false, PUnit.unit), (6 : Int), PUnit.unit) else gd (room (List.length (a0.2.1)) (72 : Nat)) (Sp.B_33_35_0_0 (Sp.L_33_35_0_0 (4611686018427387904 : Nat) (↑(List.length (a0.2.1)) : Int) (0 : Int) a0 ((0 : Int), false, PUnit.unit) (a0.1) (a0.2.2) (a0.2.1) ((0 : Int), false, PUnit.unit) [] []) fun (y14 : List (Int × Int × Int × Int × Int × Int × Bool × Int × PUnit) × List (Int × Int × Int × Int × Int × List Int × Int × PUnit) × Int × Bool × PUnit) (y15 : Int × Bool × PUnit) (y16 : List (Int × Int × Int × Int × Int × Int × Bool × Int × PUnit)) (y17 : Int × Bool × PUnit) (y18 : List (Int × Int × Int × Int × Int × List Int × Int × PUnit)) (y19 : Int × Bool × PUnit) (y20 : List (Int × Int × Int × Int × Int × Int × Bool × Int × PUnit)) (y21 : List (Int × Int × Int × Int × Int × List Int × Int × PUnit)) => Sp.B_33_0 (Sp.L_33_0 (4611686018427387904 : Nat) (↑(List.length y18) : Int) (0 : Int) y16 (y17.1, false, y17.2.2) y18 y15 [] []) fun (y22 : List (Int × Int × Int × Int × Int × Int × Bool × Int × PUnit)) (y23 : Int × Bool × PUnit) (y24 : List (Int × Int × Int × Int × Int × List Int × Int × PUnit)) (y25 : Int × Bool × PUnit) (y26 : List (Int × Int × Int × Int × Int × Int × Bool × Int × PUnit)) (y27 : List (Int × Int × Int × Int × Int × List Int × Int × PUnit)) => some ((y22, y24, y23), (0 : Int), PUnit.unit)))
theorem fn_33 (a0 : ((List (Int × (Int × (Int × (Int × (Int × (Int × (Bool × (Int × Unit))))))))) × ((List (Int × (Int × (Int × (Int × (Int × ((List Int) × (Int × Unit)))))))) × (Int × (Bool × Unit))))) : evFnL sm_33 FU (ovr (fun f' => bif Nat.beq f' 35 then some (g_33_35) else none) (evFn sm_33 fns FU 1)) (ir33_t O_33_33_0) ir33 (ofH [Zy33_5] (a0, ())) [] (pureK [Zy33_5, (.int .i64)]) = F_33 a0 := by kernel_rfl
def Sp.p_33 (a0 : ((List (Int × (Int × (Int × (Int × (Int × (Int × (Bool × (Int × Unit))))))))) × ((List (Int × (Int × (Int × (Int × (Int × ((List Int) × (Int × Unit)))))))) × (Int × (Bool × Unit))))) : Bool := (F_33 a0).isSome
def Sp.v_33 (a0 : ((List (Int × (Int × (Int × (Int × (Int × (Int × (Bool × (Int × Unit))))))))) × ((List (Int × (Int × (Int × (Int × (Int × ((List Int) × (Int × Unit)))))))) × (Int × (Bool × Unit))))) : ((List (Int × (Int × (Int × (Int × (Int × (Int × (Bool × (Int × Unit))))))))) × ((List (Int × (Int × (Int × (Int × (Int × ((List Int) × (Int × Unit)))))))) × (Int × (Bool × Unit)))) × Int × Unit := (F_33 a0).getD (dfH [Zy33_5, (.int .i64)])
def s_33 : Summ := shS [Zy33_5] [Zy33_5, (.int .i64)] (fun x => Sp.p_33 x.1) (fun x => Sp.v_33 x.1)
theorem run_33 (x : HDen [Zy33_5]) (y : HDen [Zy33_5, (.int .i64)]) (h : F_33 x.1 = some y) : evFn sm_33 fns FU 2 33 (ofH [Zy33_5] x) [] (pureK [Zy33_5, (.int .i64)]) = some y :=
  evFnL_sound (fn := ir33) (t := (ir33_t O_33_33_0)) (o := (fun f' => bif Nat.beq f' 35 then some (g_33_35) else none)) rfl ov_33_33_ok (ir33_tok (fun T k r => OK_33_33_0 T k r)) ((fn_33 _).trans h)
end
end Go.Ev
namespace Go.Ev
open Go
set_option maxRecDepth 100000
set_option maxHeartbeats 4000000
set_option linter.unusedVariables false
noncomputable section
abbrev Zy21_0 : Ty := (Ty.pair (Ty.int IntKind.i64) (Ty.pair (Ty.int IntKind.i64) (Ty.pair (Ty.int IntKind.i64) (Ty.pair (Ty.int IntKind.i64) (Ty.pair (Ty.int IntKind.i64) (Ty.pair (Ty.int IntKind.i64) (Ty.pair Ty.bool (Ty.pair (Ty.int IntKind.i64) Ty.unit))))))))
abbrev Zy21_1 : Ty := (.pair (.slice (.pair (.int .i64) (.pair (.int .i64) (.pair (.int .i64) (.pair (.int .i64) (.pair (.int .i64) (.pair (.int .i64) (.pair .bool (.pair (.int .i64) .unit))))))))) (.pair (.slice (.pair (.int .i64) (.pair (.int .i64) (.pair (.int .i64) (.pair (.int .i64) (.pair (.int .i64) (.pair (.slice (.int .i64)) (.pair (.int .i64) .unit)))))))) (.pair (.int .i64) (.pair .bool .unit))))
abbrev Zt21_2 : Type := List (Int × Int × Int × Int × Int × Int × Bool × Int × Unit) × List (Int × Int × Int × Int × Int × List Int × Int × Unit) × Int × Bool × Unit
abbrev Zy21_3 : Ty := (Ty.pair (Ty.slice (Ty.pair (Ty.int IntKind.i64) (Ty.pair (Ty.int IntKind.i64) (Ty.pair (Ty.int IntKind.i64) (Ty.pair (Ty.int IntKind.i64) (Ty.pair (Ty.int IntKind.i64) (Ty.pair (Ty.int IntKind.i64) (Ty.pair Ty.bool (Ty.pair (Ty.int IntKind.i64) Ty.unit))))))))) (Ty.pair (Ty.slice (Ty.pair (Ty.int IntKind.i64) (Ty.pair (Ty.int IntKind.i64) (Ty.pair (Ty.int IntKind.i64) (Ty.pair (Ty.int IntKind.i64) (Ty.pair (Ty.int IntKind.i64) (Ty.pair (Ty.slice (Ty.int IntKind.i64)) (Ty.pair (Ty.int IntKind.i64) Ty.unit)))))))) (Ty.pair (Ty.int IntKind.i64) (Ty.pair Ty.bool Ty.unit))))
abbrev Zt21_4 : Type := List (Int × Int × Int × Int × Int × Int × Bool × Int × Unit)
abbrev Zt21_5 : Type := List (Int × Int × Int × Int × Int × List Int × Int × Unit)
abbrev Zy21_6 : Ty := (Ty.pair (Ty.int IntKind.i64) (Ty.pair (Ty.int IntKind.i64) (Ty.pair (Ty.int IntKind.i64) (Ty.pair (Ty.int IntKind.i64) (Ty.pair (Ty.int IntKind.i64) (Ty.pair (Ty.slice (Ty.int IntKind.i64)) (Ty.pair (Ty.int IntKind.i64) Ty.unit)))))))
abbrev Zt21_7 : Type := Int × Bool × Unit

def sm_21 : Nat → Option Summ := fun f => bif Nat.beq f 19 then some s_19 else bif Nat.beq f 20 then some s_20 else bif Nat.beq f 33 then some s_33 else none
def T_21_0 (p0 : Int) (p1 : List Bool) (p2 : Int) (p3 : Int) (p4 : Zt21_2) (p5 : Zt21_7) (p6 : Zt21_4) (p7 : Zt21_5) : St := St.mk ([jk, CV.int IntKind.i64 p0, jk, CV.ptr (0 : Nat) [], jk, jk, CV.ptr (1 : Nat) []] ++ (jl 19 ++ ([CV.pure (Ty.slice Ty.bool) p1, CV.int IntKind.i64 p2, CV.int IntKind.i64 p3] ++ (jl 44)))) [Blk.mem (CV.pure Zy21_3 p4), Blk.mem (CV.pair (CV.whole (2 : Nat)) (CV.pair (CV.whole (3 : Nat)) (CV.pure (Ty.pair (Ty.int IntKind.i64) (Ty.pair Ty.bool Ty.unit)) p5))), Blk.vec (23 : Nat) Zy21_0 p6, Blk.vec (46 : Nat) Zy21_6 p7] (0 : Nat)
def X_21_0_0 (p4 : Zt21_2) : St := St.mk (jl 6 ++ ([CV.ptr (0 : Nat) [], CV.bool false] ++ (jl 65))) [Blk.mem (CV.pure Zy21_3 p4)] (0 : Nat)
def X_21_0_1 (p0 : Int) (p1 : List Bool) (p3 : Int) (p4 : Zt21_2) : St := St.mk (jl 6 ++ ([CV.ptr (0 : Nat) [], CV.bool false] ++ (jl 65))) [Blk.mem (CV.pure Zy21_3 (((Sp.v_20 p4 p0 (List.getD p1 (Int.toNat p3) false) (List.replicate (Int.toNat (if (if (8 : Int) < (List.getD (p4.1) (Int.toNat p0) (Ty.dflt Zy21_0)).2.2.2.2.2.2.2.1 then (8 : Int) else (List.getD (p4.1) (Int.toNat p0) (Ty.dflt Zy21_0)).2.2.2.2.2.2.2.1) > (0 : Int) then if (8 : Int) < (List.getD (p4.1) (Int.toNat p0) (Ty.dflt Zy21_0)).2.2.2.2.2.2.2.1 then (8 : Int) else (List.getD (p4.1) (Int.toNat p0) (Ty.dflt Zy21_0)).2.2.2.2.2.2.2.1 else (0 : Int))) (0 : Int))).1) : ((List (Int × (Int × (Int × (Int × (Int × (Int × (Bool × (Int × Unit))))))))) × ((List (Int × (Int × (Int × (Int × (Int × ((List Int) × (Int × Unit)))))))) × (Int × (Bool × Unit))))))] (0 : Nat)
def X_21_0_2 (p0 : Int) (p4 : Zt21_2) (p5 : Zt21_7) (p6 : Zt21_4) (p7 : Zt21_5) : St := St.mk ([jk, CV.int IntKind.i64 p0, jk, CV.ptr (0 : Nat) [], jk, jk, CV.ptr (1 : Nat) []] ++ (jl 66)) [Blk.mem (CV.pure Zy21_3 p4), Blk.mem (CV.pair (CV.whole (2 : Nat)) (CV.pair (CV.whole (3 : Nat)) (CV.pure (Ty.pair (Ty.int IntKind.i64) (Ty.pair Ty.bool Ty.unit)) p5))), Blk.vec (23 : Nat) Zy21_0 p6, Blk.vec (46 : Nat) Zy21_6 p7] (0 : Nat)
inductive Sp.E_21_0 where
  | e0 (p4 : Zt21_2)
  | e1 (p0 : Int) (p1 : List Bool) (p3 : Int) (p4 : Zt21_2)
  | e2 (p0 : Int) (p4 : Zt21_2) (p5 : Zt21_7) (p6 : Zt21_4) (p7 : Zt21_5)
def Sp.B_21_0 {R : Type} (r : Option Sp.E_21_0) (k0 : (Zt21_2) → Option R) (k1 : (Int) → (List Bool) → (Int) → (Zt21_2) → Option R) (k2 : (Int) → (Zt21_2) → (Zt21_7) → (Zt21_4) → (Zt21_5) → Option R) : Option R := match r with
  | none => none
  | some (.e0 p4) => k0 p4
  | some (.e1 p0 p1 p3 p4) => k1 p0 p1 p3 p4
  | some (.e2 p0 p4 p5 p6 p7) => k2 p0 p4 p5 p6 p7
def Sp.L_21_0 : Nat → (Int) → (List Bool) → (Int) → (Int) → (List (Int × Int × Int × Int × Int × Int × Bool × Int × Unit) × List (Int × Int × Int × Int × Int × List Int × Int × Unit) × Int × Bool × Unit) → (Int × Bool × Unit) → (List (Int × Int × Int × Int × Int × Int × Bool × Int × Unit)) → (List (Int × Int × Int × Int × Int × List Int × Int × Unit)) → Option Sp.E_21_0
  | 0, _, _, _, _, _, _, _, _ => none
  | m + 1, p0, p1, p2, p3, p4, p5, p6, p7 => bif decide (p3 < p2) then gd (inB p3 (List.length p1)) (bif decide (p0 ≥ (↑(List.length (p4.1)) : Int)) then some (Sp.E_21_0.e0 p4) else gd (inB p0 (List.length (p4.1))) (gd (decide ((0 : Int) ≤ if (if (8 : Int) < (List.getD (p4.1) (Int.toNat p0) Zd0).2.2.2.2.2.2.2.1 then (8 : Int) else (List.getD (p4.1) (Int.toNat p0) Zd0).2.2.2.2.2.2.2.1) > (0 : Int) then if (8 : Int) < (List.getD (p4.1) (Int.toNat p0) Zd0).2.2.2.2.2.2.2.1 then (8 : Int) else (List.getD (p4.1) (Int.toNat p0) Zd0).2.2.2.2.2.2.2.1 else (0 : Int)) && (((if (if (8 : Int) < (List.getD (p4.1) (Int.toNat p0) Zd0).2.2.2.2.2.2.2.1 then (8 : Int) else (List.getD (p4.1) (Int.toNat p0) Zd0).2.2.2.2.2.2.2.1) > (0 : Int) then if (8 : Int) < (List.getD (p4.1) (Int.toNat p0) Zd0).2.2.2.2.2.2.2.1 then (8 : Int) else (List.getD (p4.1) (Int.toNat p0) Zd0).2.2.2.2.2.2.2.1 else (0 : Int)) == if (if (8 : Int) < (List.getD (p4.1) (Int.toNat p0) Zd0).2.2.2.2.2.2.2.1 then (8 : Int) else (List.getD (p4.1) (Int.toNat p0) Zd0).2.2.2.2.2.2.2.1) > (0 : Int) then if (8 : Int) < (List.getD (p4.1) (Int.toNat p0) Zd0).2.2.2.2.2.2.2.1 then (8 : Int) else (List.getD (p4.1) (Int.toNat p0) Zd0).2.2.2.2.2.2.2.1 else (0 : Int)) && room (Int.toNat (if (if (8 : Int) < (List.getD (p4.1) (Int.toNat p0) Zd0).2.2.2.2.2.2.2.1 then (8 : Int) else (List.getD (p4.1) (Int.toNat p0) Zd0).2.2.2.2.2.2.2.1) > (0 : Int) then if (8 : Int) < (List.getD (p4.1) (Int.toNat p0) Zd0).2.2.2.2.2.2.2.1 then (8 : Int) else (List.getD (p4.1) (Int.toNat p0) Zd0).2.2.2.2.2.2.2.1 else (0 : Int))) (8 : Nat))) (gd (Sp.p_20 p4 p0 (List.getD p1 (Int.toNat p3) false) (List.replicate (Int.toNat (if (if (8 : Int) < (List.getD (p4.1) (Int.toNat p0) Zd0).2.2.2.2.2.2.2.1 then (8 : Int) else (List.getD (p4.1) (Int.toNat p0) Zd0).2.2.2.2.2.2.2.1) > (0 : Int) then if (8 : Int) < (List.getD (p4.1) (Int.toNat p0) Zd0).2.2.2.2.2.2.2.1 then (8 : Int) else (List.getD (p4.1) (Int.toNat p0) Zd0).2.2.2.2.2.2.2.1 else (0 : Int))) (0 : Int))) (bif (Sp.v_20 p4 p0 (List.getD p1 (Int.toNat p3) false) (List.replicate (Int.toNat (if (if (8 : Int) < (List.getD (p4.1) (Int.toNat p0) Zd0).2.2.2.2.2.2.2.1 then (8 : Int) else (List.getD (p4.1) (Int.toNat p0) Zd0).2.2.2.2.2.2.2.1) > (0 : Int) then if (8 : Int) < (List.getD (p4.1) (Int.toNat p0) Zd0).2.2.2.2.2.2.2.1 then (8 : Int) else (List.getD (p4.1) (Int.toNat p0) Zd0).2.2.2.2.2.2.2.1 else (0 : Int))) (0 : Int))).2.1 != (0 : Int) then some (Sp.E_21_0.e1 p0 p1 p3 p4) else Sp.L_21_0 m p0 p1 p2 (IntKind.wrap IntKind.i64 (p3 + (1 : Int))) ((Sp.v_20 p4 p0 (List.getD p1 (Int.toNat p3) false) (List.replicate (Int.toNat (if (if (8 : Int) < (List.getD (p4.1) (Int.toNat p0) Zd0).2.2.2.2.2.2.2.1 then (8 : Int) else (List.getD (p4.1) (Int.toNat p0) Zd0).2.2.2.2.2.2.2.1) > (0 : Int) then if (8 : Int) < (List.getD (p4.1) (Int.toNat p0) Zd0).2.2.2.2.2.2.2.1 then (8 : Int) else (List.getD (p4.1) (Int.toNat p0) Zd0).2.2.2.2.2.2.2.1 else (0 : Int))) (0 : Int))).1) p5 p6 p7)))) else some (Sp.E_21_0.e2 p0 p4 p5 p6 p7)
def G_21_0 {R : Type} (p0 : Int) (p1 : List Bool) (p2 : Int) (p3 : Int) (p4 : Zt21_2) (p5 : Zt21_7) (p6 : Zt21_4) (p7 : Zt21_5) (k : Ex → St → Option R) : Option R := Sp.B_21_0 (Sp.L_21_0 FU p0 p1 p2 p3 p4 p5 p6 p7) (fun p4 => k Ex.ret (X_21_0_0 p4)) (fun p0 p1 p3 p4 => k Ex.ret (X_21_0_1 p0 p1 p3 p4)) (fun p0 p4 p5 p6 p7 => k (Ex.exit (0 : Nat)) (X_21_0_2 p0 p4 p5 p6 p7))
def o_21_0 {R : Type} (G : (Int) → (List Bool) → (Int) → (Int) → (Zt21_2) → (Zt21_7) → (Zt21_4) → (Zt21_5) → (Ex → St → Option R) → Option R) : St → (Ex → St → Option R) → Option R := fun T k => match T.sl.getD 1 .junk, T.sl.getD 3 .junk, T.sl.getD 6 .junk, T.sl.getD 26 .junk, T.sl.getD 27 .junk, T.sl.getD 28 .junk, T.hp with
  | CV.int IntKind.i64 p0, CV.ptr (0 : Nat) [], CV.ptr (1 : Nat) [], CV.pure (Ty.slice Ty.bool) p1, CV.int IntKind.i64 p2, CV.int IntKind.i64 p3, ((Blk.mem (CV.pure (Ty.pair (Ty.slice (Ty.pair (Ty.int IntKind.i64) (Ty.pair (Ty.int IntKind.i64) (Ty.pair (Ty.int IntKind.i64) (Ty.pair (Ty.int IntKind.i64) (Ty.pair (Ty.int IntKind.i64) (Ty.pair (Ty.int IntKind.i64) (Ty.pair Ty.bool (Ty.pair (Ty.int IntKind.i64) Ty.unit))))))))) (Ty.pair (Ty.slice (Ty.pair (Ty.int IntKind.i64) (Ty.pair (Ty.int IntKind.i64) (Ty.pair (Ty.int IntKind.i64) (Ty.pair (Ty.int IntKind.i64) (Ty.pair (Ty.int IntKind.i64) (Ty.pair (Ty.slice (Ty.int IntKind.i64)) (Ty.pair (Ty.int IntKind.i64) Ty.unit)))))))) (Ty.pair (Ty.int IntKind.i64) (Ty.pair Ty.bool Ty.unit)))) p4)) :: (Blk.mem (CV.pair (CV.whole (2 : Nat)) (CV.pair (CV.whole (3 : Nat)) (CV.pure (Ty.pair (Ty.int IntKind.i64) (Ty.pair Ty.bool Ty.unit)) p5)))) :: (Blk.vec (23 : Nat) (Ty.pair (Ty.int IntKind.i64) (Ty.pair (Ty.int IntKind.i64) (Ty.pair (Ty.int IntKind.i64) (Ty.pair (Ty.int IntKind.i64) (Ty.pair (Ty.int IntKind.i64) (Ty.pair (Ty.int IntKind.i64) (Ty.pair Ty.bool (Ty.pair (Ty.int IntKind.i64) Ty.unit)))))))) p6) :: (Blk.vec (46 : Nat) (Ty.pair (Ty.int IntKind.i64) (Ty.pair (Ty.int IntKind.i64) (Ty.pair (Ty.int IntKind.i64) (Ty.pair (Ty.int IntKind.i64) (Ty.pair (Ty.int IntKind.i64) (Ty.pair (Ty.slice (Ty.int IntKind.i64)) (Ty.pair (Ty.int IntKind.i64) Ty.unit))))))) p7) :: []) => gd (shapeOK T 73 [1, 3, 6, 26, 27, 28] (0 : Nat)) (G p0 p1 p2 p3 p4 p5 p6 p7 k)
  | _, _, _, _, _, _, _ => none
theorem o_21_0_inv {R : Type} {G : (Int) → (List Bool) → (Int) → (Int) → (Zt21_2) → (Zt21_7) → (Zt21_4) → (Zt21_5) → (Ex → St → Option R) → Option R} {T : St} {k : Ex → St → Option R} {r : R} (h : o_21_0 G T k = some r) : ∃ p0 p1 p2 p3 p4 p5 p6 p7, T = T_21_0 p0 p1 p2 p3 p4 p5 p6 p7 ∧ G p0 p1 p2 p3 p4 p5 p6 p7 k = some r := by
  unfold o_21_0 at h
  split at h
  · obtain ⟨hs, h'⟩ := gd_some h
    refine ⟨_, _, _, _, _, _, _, _, (st_of (asg := [(1, _), (3, _), (6, _), (26, _), (27, _), (28, _)]) hs ⟨by assumption, by assumption, by assumption, by assumption, by assumption, by assumption, trivial⟩ (by assumption)).trans ?_, h'⟩
    kernel_rfl
  · cases h
def O_21_21_0 {R : Type} : St → (Ex → St → Option R) → Option R := fun T k => o_21_0 G_21_0 T k
theorem body_21_0 {R : Type} (K0 : St → Option R) (K1 : Ex → St → Option R) (p0 : Int) (p1 : List Bool) (p2 : Int) (p3 : Int) (p4 : Zt21_2) (p5 : Zt21_7) (p6 : Zt21_4) (p7 : Zt21_5) : evLB (evCodeL sm_21 FU (ovr noO (evFn sm_21 fns FU 0)) .nil ir21_b0) (St.norm ir21_v0) (T_21_0 p0 p1 p2 p3 p4 p5 p6 p7) K0 K1 =
  bif decide (p3 < p2) then gd (inB p3 (List.length p1)) (bif decide (p0 ≥ (↑(List.length (p4.1)) : Int)) then K1 Ex.ret (X_21_0_0 p4) else gd (inB p0 (List.length (p4.1))) (gd (decide ((0 : Int) ≤ if (if (8 : Int) < (List.getD (p4.1) (Int.toNat p0) (Ty.dflt Zy21_0)).2.2.2.2.2.2.2.1 then (8 : Int) else (List.getD (p4.1) (Int.toNat p0) (Ty.dflt Zy21_0)).2.2.2.2.2.2.2.1) > (0 : Int) then if (8 : Int) < (List.getD (p4.1) (Int.toNat p0) (Ty.dflt Zy21_0)).2.2.2.2.2.2.2.1 then (8 : Int) else (List.getD (p4.1) (Int.toNat p0) (Ty.dflt Zy21_0)).2.2.2.2.2.2.2.1 else (0 : Int)) && (((if (if (8 : Int) < (List.getD (p4.1) (Int.toNat p0) (Ty.dflt Zy21_0)).2.2.2.2.2.2.2.1 then (8 : Int) else (List.getD (p4.1) (Int.toNat p0) (Ty.dflt Zy21_0)).2.2.2.2.2.2.2.1) > (0 : Int) then if (8 : Int) < (List.getD (p4.1) (Int.toNat p0) (Ty.dflt Zy21_0)).2.2.2.2.2.2.2.1 then (8 : Int) else (List.getD (p4.1) (Int.toNat p0) (Ty.dflt Zy21_0)).2.2.2.2.2.2.2.1 else (0 : Int)) == if (if (8 : Int) < (List.getD (p4.1) (Int.toNat p0) (Ty.dflt Zy21_0)).2.2.2.2.2.2.2.1 then (8 : Int) else (List.getD (p4.1) (Int.toNat p0) (Ty.dflt Zy21_0)).2.2.2.2.2.2.2.1) > (0 : Int) then if (8 : Int) < (List.getD (p4.1) (Int.toNat p0) (Ty.dflt Zy21_0)).2.2.2.2.2.2.2.1 then (8 : Int) else (List.getD (p4.1) (Int.toNat p0) (Ty.dflt Zy21_0)).2.2.2.2.2.2.2.1 else (0 : Int)) && room (Int.toNat (if (if (8 : Int) < (List.getD (p4.1) (Int.toNat p0) (Ty.dflt Zy21_0)).2.2.2.2.2.2.2.1 then (8 : Int) else (List.getD (p4.1) (Int.toNat p0) (Ty.dflt Zy21_0)).2.2.2.2.2.2.2.1) > (0 : Int) then if (8 : Int) < (List.getD (p4.1) (Int.toNat p0) (Ty.dflt Zy21_0)).2.2.2.2.2.2.2.1 then (8 : Int) else (List.getD (p4.1) (Int.toNat p0) (Ty.dflt Zy21_0)).2.2.2.2.2.2.2.1 else (0 : Int))) (8 : Nat))) (gd (Sp.p_20 p4 p0 (List.getD p1 (Int.toNat p3) false) (List.replicate (Int.toNat (if (if (8 : Int) < (List.getD (p4.1) (Int.toNat p0) (Ty.dflt Zy21_0)).2.2.2.2.2.2.2.1 then (8 : Int) else (List.getD (p4.1) (Int.toNat p0) (Ty.dflt Zy21_0)).2.2.2.2.2.2.2.1) > (0 : Int) then if (8 : Int) < (List.getD (p4.1) (Int.toNat p0) (Ty.dflt Zy21_0)).2.2.2.2.2.2.2.1 then (8 : Int) else (List.getD (p4.1) (Int.toNat p0) (Ty.dflt Zy21_0)).2.2.2.2.2.2.2.1 else (0 : Int))) (0 : Int))) (bif (Sp.v_20 p4 p0 (List.getD p1 (Int.toNat p3) false) (List.replicate (Int.toNat (if (if (8 : Int) < (List.getD (p4.1) (Int.toNat p0) (Ty.dflt Zy21_0)).2.2.2.2.2.2.2.1 then (8 : Int) else (List.getD (p4.1) (Int.toNat p0) (Ty.dflt Zy21_0)).2.2.2.2.2.2.2.1) > (0 : Int) then if (8 : Int) < (List.getD (p4.1) (Int.toNat p0) (Ty.dflt Zy21_0)).2.2.2.2.2.2.2.1 then (8 : Int) else (List.getD (p4.1) (Int.toNat p0) (Ty.dflt Zy21_0)).2.2.2.2.2.2.2.1 else (0 : Int))) (0 : Int))).2.1 != (0 : Int) then K1 Ex.ret (X_21_0_1 p0 p1 p3 p4) else K0 (T_21_0 p0 p1 p2 (IntKind.wrap IntKind.i64 (p3 + (1 : Int))) ((Sp.v_20 p4 p0 (List.getD p1 (Int.toNat p3) false) (List.replicate (Int.toNat (if (if (8 : Int) < (List.getD (p4.1) (Int.toNat p0) (Ty.dflt Zy21_0)).2.2.2.2.2.2.2.1 then (8 : Int) else (List.getD (p4.1) (Int.toNat p0) (Ty.dflt Zy21_0)).2.2.2.2.2.2.2.1) > (0 : Int) then if (8 : Int) < (List.getD (p4.1) (Int.toNat p0) (Ty.dflt Zy21_0)).2.2.2.2.2.2.2.1 then (8 : Int) else (List.getD (p4.1) (Int.toNat p0) (Ty.dflt Zy21_0)).2.2.2.2.2.2.2.1 else (0 : Int))) (0 : Int))).1) p5 p6 p7))))) else K1 (Ex.exit (0 : Nat)) (X_21_0_2 p0 p4 p5 p6 p7) := by kernel_rfl
theorem Bgd_21_0 {R : Type} {c : Bool} {x : Option R} {y : Option Sp.E_21_0} {k0 : (Zt21_2) → Option R} {k1 : (Int) → (List Bool) → (Int) → (Zt21_2) → Option R} {k2 : (Int) → (Zt21_2) → (Zt21_7) → (Zt21_4) → (Zt21_5) → Option R} (h : x = Sp.B_21_0 y k0 k1 k2) : gd c x = Sp.B_21_0 (gd c y) k0 k1 k2 := by cases c; rfl; exact h
theorem Bcond_21_0 {R : Type} {c : Bool} {x x' : Option R} {y y' : Option Sp.E_21_0} {k0 : (Zt21_2) → Option R} {k1 : (Int) → (List Bool) → (Int) → (Zt21_2) → Option R} {k2 : (Int) → (Zt21_2) → (Zt21_7) → (Zt21_4) → (Zt21_5) → Option R} (h : x = Sp.B_21_0 y k0 k1 k2) (h' : x' = Sp.B_21_0 y' k0 k1 k2) : (bif c then x else x') = Sp.B_21_0 (bif c then y else y') k0 k1 k2 := by cases c; exact h'; exact h
theorem loop_21_0 {R : Type} (k : Ex → St → Option R) : ∀ (m : Nat) (p0 : Int) (p1 : List Bool) (p2 : Int) (p3 : Int) (p4 : Zt21_2) (p5 : Zt21_7) (p6 : Zt21_4) (p7 : Zt21_5), evLoopN (evCodeL sm_21 FU (ovr noO (evFn sm_21 fns FU 0)) .nil ir21_b0) (St.norm ir21_v0) m (T_21_0 p0 p1 p2 p3 p4 p5 p6 p7) k = Sp.B_21_0 (Sp.L_21_0 m p0 p1 p2 p3 p4 p5 p6 p7) (fun p4 => k Ex.ret (X_21_0_0 p4)) (fun p0 p1 p3 p4 => k Ex.ret (X_21_0_1 p0 p1 p3 p4)) (fun p0 p4 p5 p6 p7 => k (Ex.exit (0 : Nat)) (X_21_0_2 p0 p4 p5 p6 p7))
  | 0, _, _, _, _, _, _, _, _ => rfl
  | m + 1, p0, p1, p2, p3, p4, p5, p6, p7 => by
    rw [evLoopN_succ, body_21_0, Sp.L_21_0]
    repeat' first | apply Bgd_21_0 | apply Bcond_21_0 | exact loop_21_0 k m _ _ _ _ _ _ _ _ | rfl
theorem ok_21_0 {R : Type} (T : St) (k : Ex → St → Option R) (r : R) (h0 : o_21_0 G_21_0 T k = some r) : evLoopN (evCode sm_21 FU (evFn sm_21 fns FU 0) ir21_b0) (St.norm ir21_v0) FU T k = some r := by
  obtain ⟨p0, p1, p2, p3, p4, p5, p6, p7, rfl, h⟩ := o_21_0_inv h0
  refine evLoopN_L (t := .nil) noO_ok trivial _ _ _ _ ?_
  rw [loop_21_0]
  exact h
theorem OK_21_21_0 {R : Type} (T : St) (k : Ex → St → Option R) (r : R) (h : O_21_21_0 T k = some r) : evLoopN (evCode sm_21 FU (evFn sm_21 fns FU 0) ir21_b0) (St.norm ir21_v0) FU T k = some r := ok_21_0 T k r h
def F_21 (a0 : ((List (Int × (Int × (Int × (Int × (Int × (Int × (Bool × (Int × Unit))))))))) × ((List (Int × (Int × (Int × (Int × (Int × ((List Int) × (Int × Unit)))))))) × (Int × (Bool × Unit))))) (a1 : Int) (a2 : (List Bool)) : Option (((List (Int × (Int × (Int × (Int × (Int × (Int × (Bool × (Int × Unit))))))))) × ((List (Int × (Int × (Int × (Int × (Int × ((List Int) × (Int × Unit)))))))) × (Int × (Bool × Unit)))) × Bool × Unit) :=
  gd (Sp.p_19 a0) (bif (Sp.v_19 a0).2.1 != (0 : Int) then some ((Sp.v_19 a0).1, false, PUnit.unit) else bif decide (a1 ≥ (↑(List.length ((Sp.v_19 a0).1.1)) : Int)) then some ((Sp.v_19 a0).1, false, PUnit.unit) else Sp.B_21_0 (Sp.L_21_0 (4611686018427387904 : Nat) a1 a2 (↑(List.length a2) : Int) (0 : Int) ((Sp.v_19 a0).1) ((0 : Int), false, PUnit.unit) [] []) (fun (y18 : List (Int × Int × Int × Int × Int × Int × Bool × Int × Unit) × List (Int × Int × Int × Int × Int × List Int × Int × Unit) × Int × Bool × Unit) => some (y18, false, PUnit.unit)) (fun (y19 : Int) (y20 : List Bool) (y21 : Int) (y22 : List (Int × Int × Int × Int × Int × Int × Bool × Int × Unit) × List (Int × Int × Int × Int × Int × List Int × Int × Unit) × Int × Bool × Unit) => some ((Sp.v_20 y22 y19 (List.getD y20 (Int.toNat y21) false) (List.replicate (Int.toNat (if (if (8 : Int) < (List.getD (y22.1) (Int.toNat y19) Zd0).2.2.2.2.2.2.2.1 then (8 : Int) else (List.getD (y22.1) (Int.toNat y19) Zd0).2.2.2.2.2.2.2.1) > (0 : Int) then if (8 : Int) < (List.getD (y22.1) (Int.toNat y19) Zd0).2.2.2.2.2.2.2.1 then (8 : Int) else (List.getD (y22.1) (Int.toNat y19) Zd0).2.2.2.2.2.2.2.1 else (0 : Int))) (0 : Int))).1, false, PUnit.unit)) fun (y23 : Int) (y24 : List (Int × Int × Int × Int × Int × Int × Bool × Int × Unit) × List (Int × Int × Int × Int × Int × List Int × Int × Unit) × Int × Bool × Unit) (y25 : Int × Bool × Unit) (y26 : List (Int × Int × Int × Int × Int × Int × Bool × Int × Unit)) (y27 : List (Int × Int × Int × Int × Int × List Int × Int × Unit)) => gd (Sp.p_33 y24) (bif (Sp.v_33 y24).2.1 == (0 : Int) then some ((Sp.v_33 y24).1, decide (y23 < (↑(List.length ((Sp.v_33 y24).1.2.1)) : Int)), PUnit.unit) else some ((Sp.v_33 y24).1, false, PUnit.unit)))
theorem fn_21 (a0 : ((List (Int × (Int × (Int × (Int × (Int × (Int × (Bool × (Int × Unit))))))))) × ((List (Int × (Int × (Int × (Int × (Int × ((List Int) × (Int × Unit)))))))) × (Int × (Bool × Unit))))) (a1 : Int) (a2 : (List Bool)) : evFnL sm_21 FU (ovr noO (evFn sm_21 fns FU 0)) (ir21_t O_21_21_0) ir21 (ofH [Zy21_1, (.int .i64), (.slice .bool)] (a0, a1, a2, ())) [] (pureK [Zy21_1, .bool]) = F_21 a0 a1 a2 := by kernel_rfl
def Sp.p_21 (a0 : ((List (Int × (Int × (Int × (Int × (Int × (Int × (Bool × (Int × Unit))))))))) × ((List (Int × (Int × (Int × (Int × (Int × ((List Int) × (Int × Unit)))))))) × (Int × (Bool × Unit))))) (a1 : Int) (a2 : (List Bool)) : Bool := (F_21 a0 a1 a2).isSome
def Sp.v_21 (a0 : ((List (Int × (Int × (Int × (Int × (Int × (Int × (Bool × (Int × Unit))))))))) × ((List (Int × (Int × (Int × (Int × (Int × ((List Int) × (Int × Unit)))))))) × (Int × (Bool × Unit))))) (a1 : Int) (a2 : (List Bool)) : ((List (Int × (Int × (Int × (Int × (Int × (Int × (Bool × (Int × Unit))))))))) × ((List (Int × (Int × (Int × (Int × (Int × ((List Int) × (Int × Unit)))))))) × (Int × (Bool × Unit)))) × Bool × Unit := (F_21 a0 a1 a2).getD (dfH [Zy21_1, .bool])
def s_21 : Summ := shS [Zy21_1, (.int .i64), (.slice .bool)] [Zy21_1, .bool] (fun x => Sp.p_21 x.1 x.2.1 x.2.2.1) (fun x => Sp.v_21 x.1 x.2.1 x.2.2.1)
theorem run_21 (x : HDen [Zy21_1, (.int .i64), (.slice .bool)]) (y : HDen [Zy21_1, .bool]) (h : F_21 x.1 x.2.1 x.2.2.1 = some y) : evFn sm_21 fns FU 1 21 (ofH [Zy21_1, (.int .i64), (.slice .bool)] x) [] (pureK [Zy21_1, .bool]) = some y :=
  evFnL_sound (fn := ir21) (t := (ir21_t O_21_21_0)) (o := noO) rfl noO_ok (ir21_tok (fun T k r => OK_21_21_0 T k r)) ((fn_21 _ _ _).trans h)
end
end Go.Ev
namespace Go.Ev
open Go
set_option maxRecDepth 100000
set_option maxHeartbeats 4000000
set_option linter.unusedVariables false
noncomputable section
abbrev Zt22_0 : Type := List (Int × Int × Int × Int × Int × Int × Bool × Int × PUnit) × List (Int × Int × Int × Int × Int × List Int × Int × PUnit) × Int × Bool × PUnit
abbrev Zy22_1 : Ty := (Ty.pair (Ty.slice (Ty.pair (Ty.int IntKind.i64) (Ty.pair (Ty.int IntKind.i64) (Ty.pair (Ty.int IntKind.i64) (Ty.pair (Ty.int IntKind.i64) (Ty.pair (Ty.int IntKind.i64) (Ty.pair (Ty.int IntKind.i64) (Ty.pair Ty.bool (Ty.pair (Ty.int IntKind.i64) Ty.unit))))))))) (Ty.pair (Ty.slice (Ty.pair (Ty.int IntKind.i64) (Ty.pair (Ty.int IntKind.i64) (Ty.pair (Ty.int IntKind.i64) (Ty.pair (Ty.int IntKind.i64) (Ty.pair (Ty.int IntKind.i64) (Ty.pair (Ty.slice (Ty.int IntKind.i64)) (Ty.pair (Ty.int IntKind.i64) Ty.unit)))))))) (Ty.pair (Ty.int IntKind.i64) (Ty.pair Ty.bool Ty.unit))))
abbrev Zy22_2 : Ty := (.pair (.slice (.pair (.int .i64) (.pair (.int .i64) (.pair (.int .i64) (.pair (.int .i64) (.pair (.int .i64) (.pair (.int .i64) (.pair .bool (.pair (.int .i64) .unit))))))))) (.pair (.slice (.pair (.int .i64) (.pair (.int .i64) (.pair (.int .i64) (.pair (.int .i64) (.pair (.int .i64) (.pair (.slice (.int .i64)) (.pair (.int .i64) .unit)))))))) (.pair (.int .i64) (.pair .bool .unit))))
abbrev Zy22_3 : Ty := (Ty.pair (Ty.int IntKind.i64) (Ty.pair (Ty.int IntKind.i64) (Ty.pair (Ty.int IntKind.i64) (Ty.pair (Ty.int IntKind.i64) (Ty.pair (Ty.int IntKind.i64) (Ty.pair (Ty.slice (Ty.int IntKind.i64)) (Ty.pair (Ty.int IntKind.i64) Ty.unit)))))))
abbrev Zt22_4 : Type := List (Int × Int × Int × Int × Int × List Int × Int × PUnit)

def sm_22 : Nat → Option Summ := fun f => bif Nat.beq f 15 then some s_15 else bif Nat.beq f 40 then some s_40 else none
def T_22_51_0_0 (p0 : Zt22_4) (p1 : Int) (p2 : Int) (p3 : Zt22_0) : St := St.mk ([CV.pure (Ty.slice (Ty.pair (Ty.int IntKind.i64) (Ty.pair (Ty.int IntKind.i64) (Ty.pair (Ty.int IntKind.i64) (Ty.pair (Ty.int IntKind.i64) (Ty.pair (Ty.int IntKind.i64) (Ty.pair (Ty.slice (Ty.int IntKind.i64)) (Ty.pair (Ty.int IntKind.i64) Ty.unit)))))))) p0, CV.clo (39 : Nat) (CV.pure Ty.unit PUnit.unit), jk, jk, jk, jk, jk, CV.int IntKind.i64 p1, CV.int IntKind.i64 p2] ++ (jl 10)) [Blk.mem (CV.pure Zy22_1 p3)] (1 : Nat)
def X_22_51_0_0_0 (p2 : Int) (p3 : Zt22_0) : St := St.mk ([jk, jk, jk, jk, CV.int IntKind.i64 p2] ++ (jl 14)) [Blk.mem (CV.pure Zy22_1 p3)] (1 : Nat)
def X_22_51_0_0_1 (p3 : Zt22_0) : St := St.mk (jl 19) [Blk.mem (CV.pure Zy22_1 p3)] (1 : Nat)
inductive Sp.E_22_51_0_0 where
  | e0 (p2 : Int) (p3 : Zt22_0)
  | e1 (p3 : Zt22_0)
def Sp.B_22_51_0_0 {R : Type} (r : Option Sp.E_22_51_0_0) (k0 : (Int) → (Zt22_0) → Option R) (k1 : (Zt22_0) → Option R) : Option R := match r with
  | none => none
  | some (.e0 p2 p3) => k0 p2 p3
  | some (.e1 p3) => k1 p3
def Sp.L_22_51_0_0 : Nat → (List (Int × Int × Int × Int × Int × List Int × Int × PUnit)) → (Int) → (Int) → (List (Int × Int × Int × Int × Int × Int × Bool × Int × PUnit) × List (Int × Int × Int × Int × Int × List Int × Int × PUnit) × Int × Bool × PUnit) → Option Sp.E_22_51_0_0
  | 0, _, _, _, _ => none
  | m + 1, p0, p1, p2, p3 => bif decide (p2 < p1) then gd (inB p2 (List.length p0)) (gd (Sp.p_40 (List.getD p0 (Int.toNat p2) Zd1) (16 : Int)) (bif (Sp.v_40 (List.getD p0 (Int.toNat p2) Zd1) (16 : Int)).1 then some (Sp.E_22_51_0_0.e0 p2 p3) else Sp.L_22_51_0_0 m p0 p1 (IntKind.wrap IntKind.i64 (p2 + (1 : Int))) p3)) else some (Sp.E_22_51_0_0.e1 p3)
def G_22_51_0_0 {R : Type} (p0 : Zt22_4) (p1 : Int) (p2 : Int) (p3 : Zt22_0) (k : Ex → St → Option R) : Option R := Sp.B_22_51_0_0 (Sp.L_22_51_0_0 FU p0 p1 p2 p3) (fun p2 p3 => k Ex.ret (X_22_51_0_0_0 p2 p3)) (fun p3 => k (Ex.exit (0 : Nat)) (X_22_51_0_0_1 p3))
def o_22_51_0_0 {R : Type} (G : (Zt22_4) → (Int) → (Int) → (Zt22_0) → (Ex → St → Option R) → Option R) : St → (Ex → St → Option R) → Option R := fun T k => match T.sl.getD 0 .junk, T.sl.getD 1 .junk, T.sl.getD 7 .junk, T.sl.getD 8 .junk, T.hp with
  | CV.pure (Ty.slice (Ty.pair (Ty.int IntKind.i64) (Ty.pair (Ty.int IntKind.i64) (Ty.pair (Ty.int IntKind.i64) (Ty.pair (Ty.int IntKind.i64) (Ty.pair (Ty.int IntKind.i64) (Ty.pair (Ty.slice (Ty.int IntKind.i64)) (Ty.pair (Ty.int IntKind.i64) Ty.unit)))))))) p0, CV.clo (39 : Nat) (CV.pure Ty.unit PUnit.unit), CV.int IntKind.i64 p1, CV.int IntKind.i64 p2, ((Blk.mem (CV.pure (Ty.pair (Ty.slice (Ty.pair (Ty.int IntKind.i64) (Ty.pair (Ty.int IntKind.i64) (Ty.pair (Ty.int IntKind.i64) (Ty.pair (Ty.int IntKind.i64) (Ty.pair (Ty.int IntKind.i64) (Ty.pair (Ty.int IntKind.i64) (Ty.pair Ty.bool (Ty.pair (Ty.int IntKind.i64) Ty.unit))))))))) (Ty.pair (Ty.slice (Ty.pair (Ty.int IntKind.i64) (Ty.pair (Ty.int IntKind.i64) (Ty.pair (Ty.int IntKind.i64) (Ty.pair (Ty.int IntKind.i64) (Ty.pair (Ty.int IntKind.i64) (Ty.pair (Ty.slice (Ty.int IntKind.i64)) (Ty.pair (Ty.int IntKind.i64) Ty.unit)))))))) (Ty.pair (Ty.int IntKind.i64) (Ty.pair Ty.bool Ty.unit)))) p3)) :: []) => gd (shapeOK T 19 [0, 1, 7, 8] (1 : Nat)) (G p0 p1 p2 p3 k)
  | _, _, _, _, _ => none
theorem o_22_51_0_0_inv {R : Type} {G : (Zt22_4) → (Int) → (Int) → (Zt22_0) → (Ex → St → Option R) → Option R} {T : St} {k : Ex → St → Option R} {r : R} (h : o_22_51_0_0 G T k = some r) : ∃ p0 p1 p2 p3, T = T_22_51_0_0 p0 p1 p2 p3 ∧ G p0 p1 p2 p3 k = some r := by
  unfold o_22_51_0_0 at h
  split at h
  · obtain ⟨hs, h'⟩ := gd_some h
    refine ⟨_, _, _, _, (st_of (asg := [(0, _), (1, _), (7, _), (8, _)]) hs ⟨by assumption, by assumption, by assumption, by assumption, trivial⟩ (by assumption)).trans ?_, h'⟩
    kernel_rfl
  · cases h
def O_22_51_0 {R : Type} : St → (Ex → St → Option R) → Option R := fun T k => o_22_51_0_0 G_22_51_0_0 T k
def g_22_51 {R : Type} : List CV → List Blk → (CV → List Blk → Option R) → Option R := evFnL sm_22 FU (ovr noO (evFn sm_22 fns FU 1)) (ir51_t O_22_51_0) ir51
def g_22_38 {R : Type} : List CV → List Blk → (CV → List Blk → Option R) → Option R := evFnL sm_22 FU (ovr (fun f' => bif Nat.beq f' 51 then some (g_22_51) else none) (evFn sm_22 fns FU 2)) .nil ir38
theorem body_22_51_0_0 {R : Type} (K0 : St → Option R) (K1 : Ex → St → Option R) (p0 : Zt22_4) (p1 : Int) (p2 : Int) (p3 : Zt22_0) : evLB (evCodeL sm_22 FU (ovr noO (evFn sm_22 fns FU 1)) .nil ir51_b0) (St.norm ir51_v0) (T_22_51_0_0 p0 p1 p2 p3) K0 K1 =
  bif decide (p2 < p1) then gd (inB p2 (List.length p0)) (gd (Sp.p_40 (List.getD p0 (Int.toNat p2) (Ty.dflt Zy22_3)) (16 : Int)) (bif (Sp.v_40 (List.getD p0 (Int.toNat p2) (Ty.dflt Zy22_3)) (16 : Int)).1 then K1 Ex.ret (X_22_51_0_0_0 p2 p3) else K0 (T_22_51_0_0 p0 p1 (IntKind.wrap IntKind.i64 (p2 + (1 : Int))) p3))) else K1 (Ex.exit (0 : Nat)) (X_22_51_0_0_1 p3) := by kernel_rfl
theorem Bgd_22_51_0_0 {R : Type} {c : Bool} {x : Option R} {y : Option Sp.E_22_51_0_0} {k0 : (Int) → (Zt22_0) → Option R} {k1 : (Zt22_0) → Option R} (h : x = Sp.B_22_51_0_0 y k0 k1) : gd c x = Sp.B_22_51_0_0 (gd c y) k0 k1 := by cases c; rfl; exact h
theorem Bcond_22_51_0_0 {R : Type} {c : Bool} {x x' : Option R} {y y' : Option Sp.E_22_51_0_0} {k0 : (Int) → (Zt22_0) → Option R} {k1 : (Zt22_0) → Option R} (h : x = Sp.B_22_51_0_0 y k0 k1) (h' : x' = Sp.B_22_51_0_0 y' k0 k1) : (bif c then x else x') = Sp.B_22_51_0_0 (bif c then y else y') k0 k1 := by cases c; exact h'; exact h
theorem loop_22_51_0_0 {R : Type} (k : Ex → St → Option R) : ∀ (m : Nat) (p0 : Zt22_4) (p1 : Int) (p2 : Int) (p3 : Zt22_0), evLoopN (evCodeL sm_22 FU (ovr noO (evFn sm_22 fns FU 1)) .nil ir51_b0) (St.norm ir51_v0) m (T_22_51_0_0 p0 p1 p2 p3) k = Sp.B_22_51_0_0 (Sp.L_22_51_0_0 m p0 p1 p2 p3) (fun p2 p3 => k Ex.ret (X_22_51_0_0_0 p2 p3)) (fun p3 => k (Ex.exit (0 : Nat)) (X_22_51_0_0_1 p3))
  | 0, _, _, _, _ => rfl
  | m + 1, p0, p1, p2, p3 => by
    rw [evLoopN_succ, body_22_51_0_0, Sp.L_22_51_0_0]
    repeat' first | apply Bgd_22_51_0_0 | apply Bcond_22_51_0_0 | exact loop_22_51_0_0 k m _ _ _ _ | rfl
theorem ok_22_51_0_0 {R : Type} (T : St) (k : Ex → St → Option R) (r : R) (h0 : o_22_51_0_0 G_22_51_0_0 T k = some r) : evLoopN (evCode sm_22 FU (evFn sm_22 fns FU 1) ir51_b0) (St.norm ir51_v0) FU T k = some r := by
  obtain ⟨p0, p1, p2, p3, rfl, h⟩ := o_22_51_0_0_inv h0
  refine evLoopN_L (t := .nil) noO_ok trivial _ _ _ _ ?_
  rw [loop_22_51_0_0]
  exact h
theorem OK_22_51_0 {R : Type} (T : St) (k : Ex → St → Option R) (r : R) (h : O_22_51_0 T k = some r) : evLoopN (evCode sm_22 FU (evFn sm_22 fns FU 1) ir51_b0) (St.norm ir51_v0) FU T k = some r := ok_22_51_0_0 T k r h
theorem g_22_51_ok {R : Type} (args : List CV) (hp : List Blk) (k : CV → List Blk → Option R) (r : R) (h : g_22_51 args hp k = some r) : evFn sm_22 fns FU 2 51 args hp k = some r :=
  evFnL_sound (fn := ir51) (t := (ir51_t O_22_51_0)) (o := noO) rfl noO_ok (ir51_tok (fun T k r => OK_22_51_0 T k r)) h
theorem ov_22_38_ok {R : Type} : OvrOK (R := R) (fun f' => bif Nat.beq f' 51 then some (g_22_51) else none) (evFn sm_22 fns FU 2) := by
  intro f' g h args hp k r hg
  dsimp only at h
  by_cases h51 : f' = 51
  · subst h51
    injection h with h
    subst h
    exact evFn_le 0 (g_22_51_ok _ _ _ _ hg)
  rw [nbeq_ne h51, cond_false] at h
  cases h
theorem g_22_38_ok {R : Type} (args : List CV) (hp : List Blk) (k : CV → List Blk → Option R) (r : R) (h : g_22_38 args hp k = some r) : evFn sm_22 fns FU 3 38 args hp k = some r :=
  evFnL_sound (fn := ir38) (t := .nil) (o := (fun f' => bif Nat.beq f' 51 then some (g_22_51) else none)) rfl ov_22_38_ok trivial h
theorem ov_22_22_ok {R : Type} : OvrOK (R := R) (fun f' => bif Nat.beq f' 38 then some (g_22_38) else none) (evFn sm_22 fns FU 3) := by
  intro f' g h args hp k r hg
  dsimp only at h
  by_cases h38 : f' = 38
  · subst h38
    injection h with h
    subst h
    exact evFn_le 0 (g_22_38_ok _ _ _ _ hg)
  rw [nbeq_ne h38, cond_false] at h
  cases h
def F_22 (a0 : ((List (Int × (Int × (Int × (Int × (Int × (Int × (Bool × (Int × Unit))))))))) × ((List (Int × (Int × (Int × (Int × (Int × ((List Int) × (Int × Unit)))))))) × (Int × (Bool × Unit))))) : Option (Bool × Unit) :=
  gd (Sp.p_15 a0) (bif (Sp.v_15 a0).1 then Sp.B_22_51_0_0 (Sp.L_22_51_0_0 (4611686018427387904 : Nat) (a0.2.1) (↑(List.length (a0.2.1)) : Int) (0 : Int) a0) (fun (y3 : Int) (y4 : List (Int × Int × Int × Int × Int × Int × Bool × Int × PUnit) × List (Int × Int × Int × Int × Int × List Int × Int × PUnit) × Int × Bool × PUnit) => some (decide (y3 ≥ (0 : Int)), PUnit.unit)) fun (y5 : List (Int × Int × Int × Int × Int × Int × Bool × Int × PUnit) × List (Int × Int × Int × Int × Int × List Int × Int × PUnit) × Int × Bool × PUnit) => some (false, PUnit.unit) else some (false, PUnit.unit))
theorem fn_22 (a0 : ((List (Int × (Int × (Int × (Int × (Int × (Int × (Bool × (Int × Unit))))))))) × ((List (Int × (Int × (Int × (Int × (Int × ((List Int) × (Int × Unit)))))))) × (Int × (Bool × Unit))))) : evFnL sm_22 FU (ovr (fun f' => bif Nat.beq f' 38 then some (g_22_38) else none) (evFn sm_22 fns FU 3)) .nil ir22 (ofH [Zy22_2] (a0, ())) [] (pureK [.bool]) = F_22 a0 := by kernel_rfl
def Sp.p_22 (a0 : ((List (Int × (Int × (Int × (Int × (Int × (Int × (Bool × (Int × Unit))))))))) × ((List (Int × (Int × (Int × (Int × (Int × ((List Int) × (Int × Unit)))))))) × (Int × (Bool × Unit))))) : Bool := (F_22 a0).isSome
def Sp.v_22 (a0 : ((List (Int × (Int × (Int × (Int × (Int × (Int × (Bool × (Int × Unit))))))))) × ((List (Int × (Int × (Int × (Int × (Int × ((List Int) × (Int × Unit)))))))) × (Int × (Bool × Unit))))) : Bool × Unit := (F_22 a0).getD (dfH [.bool])
def s_22 : Summ := shN [Zy22_2] [.bool] (fun x => Sp.p_22 x.1) (fun x => Sp.v_22 x.1)
theorem run_22 (x : HDen [Zy22_2]) (y : HDen [.bool]) (h : F_22 x.1 = some y) : evFn sm_22 fns FU 4 22 (ofH [Zy22_2] x) [] (pureK [.bool]) = some y :=
  evFnL_sound (fn := ir22) (t := .nil) (o := (fun f' => bif Nat.beq f' 38 then some (g_22_38) else none)) rfl ov_22_22_ok trivial ((fn_22 _).trans h)
end
end Go.Ev
namespace Go.Ev
open Go
set_option maxRecDepth 100000
set_option maxHeartbeats 4000000
set_option linter.unusedVariables false
noncomputable section

def sm_23 : Nat → Option Summ := fun f => none


def F_23  : Option ((Int × (Int × (Int × (Int × (Int × (Int × (Bool × (Int × Unit)))))))) × Unit) :=
  some (((1 : Int), (2 : Int), (1 : Int), (1 : Int), (2 : Int), (0 : Int), true, (0 : Int), PUnit.unit), PUnit.unit)
theorem fn_23  : evFnL sm_23 FU (ovr noO (evFn sm_23 fns FU 0)) .nil ir23 (ofH [] (())) [] (pureK [(.pair (.int .i64) (.pair (.int .i64) (.pair (.int .i64) (.pair (.int .i64) (.pair (.int .i64) (.pair (.int .i64) (.pair .bool (.pair (.int .i64) .unit))))))))]) = F_23 := by kernel_rfl
def Sp.p_23  : Bool := (F_23).isSome
def Sp.v_23  : (Int × (Int × (Int × (Int × (Int × (Int × (Bool × (Int × Unit)))))))) × Unit := (F_23).getD (dfH [(.pair (.int .i64) (.pair (.int .i64) (.pair (.int .i64) (.pair (.int .i64) (.pair (.int .i64) (.pair (.int .i64) (.pair .bool (.pair (.int .i64) .unit))))))))])
def s_23 : Summ := shN [] [(.pair (.int .i64) (.pair (.int .i64) (.pair (.int .i64) (.pair (.int .i64) (.pair (.int .i64) (.pair (.int .i64) (.pair .bool (.pair (.int .i64) .unit))))))))] (fun x => Sp.p_23 ) (fun x => Sp.v_23 )
theorem run_23 (x : HDen []) (y : HDen [(.pair (.int .i64) (.pair (.int .i64) (.pair (.int .i64) (.pair (.int .i64) (.pair (.int .i64) (.pair (.int .i64) (.pair .bool (.pair (.int .i64) .unit))))))))]) (h : F_23  = some y) : evFn sm_23 fns FU 1 23 (ofH [] x) [] (pureK [(.pair (.int .i64) (.pair (.int .i64) (.pair (.int .i64) (.pair (.int .i64) (.pair (.int .i64) (.pair (.int .i64) (.pair .bool (.pair (.int .i64) .unit))))))))]) = some y :=
  evFnL_sound (fn := ir23) (t := .nil) (o := noO) rfl noO_ok trivial ((fn_23).trans h)
end
end Go.Ev
namespace Go.Ev
open Go
set_option maxRecDepth 100000
set_option maxHeartbeats 4000000
set_option linter.unusedVariables false
noncomputable section

def sm_24 : Nat → Option Summ := fun f => none


def F_24 (a0 : ((List (Int × (Int × (Int × (Int × (Int × (Int × (Bool × (Int × Unit))))))))) × ((List (Int × (Int × (Int × (Int × (Int × ((List Int) × (Int × Unit)))))))) × (Int × (Bool × Unit))))) : Option (Int × Unit) :=
  bif (↑(List.length (a0.2.1)) : Int) != (1 : Int) then some ((-1 : Int), PUnit.unit) else gd (inB (0 : Int) (List.length (a0.2.1))) (some ((List.getD (a0.2.1) (0 : Nat) Zd1).1, PUnit.unit))
theorem fn_24 (a0 : ((List (Int × (Int × (Int × (Int × (Int × (Int × (Bool × (Int × Unit))))))))) × ((List (Int × (Int × (Int × (Int × (Int × ((List Int) × (Int × Unit)))))))) × (Int × (Bool × Unit))))) : evFnL sm_24 FU (ovr noO (evFn sm_24 fns FU 0)) .nil ir24 (ofH [(.pair (.slice (.pair (.int .i64) (.pair (.int .i64) (.pair (.int .i64) (.pair (.int .i64) (.pair (.int .i64) (.pair (.int .i64) (.pair .bool (.pair (.int .i64) .unit))))))))) (.pair (.slice (.pair (.int .i64) (.pair (.int .i64) (.pair (.int .i64) (.pair (.int .i64) (.pair (.int .i64) (.pair (.slice (.int .i64)) (.pair (.int .i64) .unit)))))))) (.pair (.int .i64) (.pair .bool .unit))))] (a0, ())) [] (pureK [(.int .i64)]) = F_24 a0 := by kernel_rfl
def Sp.p_24 (a0 : ((List (Int × (Int × (Int × (Int × (Int × (Int × (Bool × (Int × Unit))))))))) × ((List (Int × (Int × (Int × (Int × (Int × ((List Int) × (Int × Unit)))))))) × (Int × (Bool × Unit))))) : Bool := (F_24 a0).isSome
def Sp.v_24 (a0 : ((List (Int × (Int × (Int × (Int × (Int × (Int × (Bool × (Int × Unit))))))))) × ((List (Int × (Int × (Int × (Int × (Int × ((List Int) × (Int × Unit)))))))) × (Int × (Bool × Unit))))) : Int × Unit := (F_24 a0).getD (dfH [(.int .i64)])
def s_24 : Summ := shN [(.pair (.slice (.pair (.int .i64) (.pair (.int .i64) (.pair (.int .i64) (.pair (.int .i64) (.pair (.int .i64) (.pair (.int .i64) (.pair .bool (.pair (.int .i64) .unit))))))))) (.pair (.slice (.pair (.int .i64) (.pair (.int .i64) (.pair (.int .i64) (.pair (.int .i64) (.pair (.int .i64) (.pair (.slice (.int .i64)) (.pair (.int .i64) .unit)))))))) (.pair (.int .i64) (.pair .bool .unit))))] [(.int .i64)] (fun x => Sp.p_24 x.1) (fun x => Sp.v_24 x.1)
theorem run_24 (x : HDen [(.pair (.slice (.pair (.int .i64) (.pair (.int .i64) (.pair (.int .i64) (.pair (.int .i64) (.pair (.int .i64) (.pair (.int .i64) (.pair .bool (.pair (.int .i64) .unit))))))))) (.pair (.slice (.pair (.int .i64) (.pair (.int .i64) (.pair (.int .i64) (.pair (.int .i64) (.pair (.int .i64) (.pair (.slice (.int .i64)) (.pair (.int .i64) .unit)))))))) (.pair (.int .i64) (.pair .bool .unit))))]) (y : HDen [(.int .i64)]) (h : F_24 x.1 = some y) : evFn sm_24 fns FU 1 24 (ofH [(.pair (.slice (.pair (.int .i64) (.pair (.int .i64) (.pair (.int .i64) (.pair (.int .i64) (.pair (.int .i64) (.pair (.int .i64) (.pair .bool (.pair (.int .i64) .unit))))))))) (.pair (.slice (.pair (.int .i64) (.pair (.int .i64) (.pair (.int .i64) (.pair (.int .i64) (.pair (.int .i64) (.pair (.slice (.int .i64)) (.pair (.int .i64) .unit)))))))) (.pair (.int .i64) (.pair .bool .unit))))] x) [] (pureK [(.int .i64)]) = some y :=
  evFnL_sound (fn := ir24) (t := .nil) (o := noO) rfl noO_ok trivial ((fn_24 _).trans h)
end
end Go.Ev
namespace Go.Ev
open Go
set_option maxRecDepth 100000
set_option maxHeartbeats 4000000
set_option linter.unusedVariables false
noncomputable section

def sm_8 : Nat → Option Summ := fun f => bif Nat.beq f 11 then some s_11 else bif Nat.beq f 21 then some s_21 else bif Nat.beq f 22 then some s_22 else bif Nat.beq f 23 then some s_23 else bif Nat.beq f 24 then some s_24 else none


def F_8  : Option (Bool × Unit) :=
  gd Sp.p_23 (gd (Sp.p_11 [Sp.v_23.1]) (gd (Sp.p_21 ((Sp.v_11 [Sp.v_23.1]).1) (0 : Int) [true, true]) (gd (Sp.p_21 ((Sp.v_21 ((Sp.v_11 [Sp.v_23.1]).1) (0 : Int) [true, true]).1) (0 : Int) [true, true]) (gd (Sp.p_21 ((Sp.v_21 ((Sp.v_21 ((Sp.v_11 [Sp.v_23.1]).1) (0 : Int) [true, true]).1) (0 : Int) [true, true]).1) (0 : Int) [false]) (gd (Sp.p_21 ((Sp.v_21 ((Sp.v_21 ((Sp.v_21 ((Sp.v_11 [Sp.v_23.1]).1) (0 : Int) [true, true]).1) (0 : Int) [true, true]).1) (0 : Int) [false]).1) (0 : Int) [false]) (bif (Sp.v_11 [Sp.v_23.1]).2.1 == (0 : Int) then bif (Sp.v_21 ((Sp.v_11 [Sp.v_23.1]).1) (0 : Int) [true, true]).2.1 then bif (Sp.v_21 ((Sp.v_21 ((Sp.v_11 [Sp.v_23.1]).1) (0 : Int) [true, true]).1) (0 : Int) [true, true]).2.1 then bif (Sp.v_21 ((Sp.v_21 ((Sp.v_21 ((Sp.v_11 [Sp.v_23.1]).1) (0 : Int) [true, true]).1) (0 : Int) [true, true]).1) (0 : Int) [false]).2.1 then bif (Sp.v_21 ((Sp.v_21 ((Sp.v_21 ((Sp.v_21 ((Sp.v_11 [Sp.v_23.1]).1) (0 : Int) [true, true]).1) (0 : Int) [true, true]).1) (0 : Int) [false]).1) (0 : Int) [false]).2.1 then gd (Sp.p_24 ((Sp.v_21 ((Sp.v_11 [Sp.v_23.1]).1) (0 : Int) [true, true]).1)) (bif (Sp.v_24 ((Sp.v_21 ((Sp.v_11 [Sp.v_23.1]).1) (0 : Int) [true, true]).1)).1 == (11 : Int) then gd (Sp.p_22 ((Sp.v_21 ((Sp.v_21 ((Sp.v_11 [Sp.v_23.1]).1) (0 : Int) [true, true]).1) (0 : Int) [true, true]).1)) (bif (Sp.v_22 ((Sp.v_21 ((Sp.v_21 ((Sp.v_11 [Sp.v_23.1]).1) (0 : Int) [true, true]).1) (0 : Int) [true, true]).1)).1 then gd (Sp.p_22 ((Sp.v_21 ((Sp.v_21 ((Sp.v_21 ((Sp.v_11 [Sp.v_23.1]).1) (0 : Int) [true, true]).1) (0 : Int) [true, true]).1) (0 : Int) [false]).1)) (bif !(Sp.v_22 ((Sp.v_21 ((Sp.v_21 ((Sp.v_21 ((Sp.v_11 [Sp.v_23.1]).1) (0 : Int) [true, true]).1) (0 : Int) [true, true]).1) (0 : Int) [false]).1)).1 then gd (Sp.p_24 ((Sp.v_21 ((Sp.v_21 ((Sp.v_21 ((Sp.v_11 [Sp.v_23.1]).1) (0 : Int) [true, true]).1) (0 : Int) [true, true]).1) (0 : Int) [false]).1)) (bif Sp.andI IntKind.i64 ((Sp.v_24 ((Sp.v_21 ((Sp.v_21 ((Sp.v_21 ((Sp.v_11 [Sp.v_23.1]).1) (0 : Int) [true, true]).1) (0 : Int) [true, true]).1) (0 : Int) [false]).1)).1) (4 : Int) != (0 : Int) then gd (Sp.p_24 ((Sp.v_21 ((Sp.v_21 ((Sp.v_21 ((Sp.v_21 ((Sp.v_11 [Sp.v_23.1]).1) (0 : Int) [true, true]).1) (0 : Int) [true, true]).1) (0 : Int) [false]).1) (0 : Int) [false]).1)) (some ((Sp.v_24 ((Sp.v_21 ((Sp.v_21 ((Sp.v_21 ((Sp.v_21 ((Sp.v_11 [Sp.v_23.1]).1) (0 : Int) [true, true]).1) (0 : Int) [true, true]).1) (0 : Int) [false]).1) (0 : Int) [false]).1)).1 == (8 : Int), PUnit.unit)) else some (false, PUnit.unit)) else some (false, PUnit.unit)) else some (false, PUnit.unit)) else some (false, PUnit.unit)) else some (false, PUnit.unit) else some (false, PUnit.unit) else some (false, PUnit.unit) else some (false, PUnit.unit) else some (false, PUnit.unit)))))))
theorem fn_8  : evFnL sm_8 FU (ovr noO (evFn sm_8 fns FU 0)) .nil ir8 (ofH [] (())) [] (pureK [.bool]) = F_8 := by kernel_rfl
def Sp.p_8  : Bool := (F_8).isSome
def Sp.v_8  : Bool × Unit := (F_8).getD (dfH [.bool])
def s_8 : Summ := shN [] [.bool] (fun x => Sp.p_8 ) (fun x => Sp.v_8 )
theorem pv_8  {y : Bool × Unit} (h : F_8 = some y) : Sp.p_8 = true ∧ Sp.v_8 = y := ⟨by rw [Sp.p_8, h]; rfl, by rw [Sp.v_8, h]; rfl⟩
theorem run_8 (x : HDen []) (y : HDen [.bool]) (h : F_8  = some y) : evFn sm_8 fns FU 1 8 (ofH [] x) [] (pureK [.bool]) = some y :=
  evFnL_sound (fn := ir8) (t := .nil) (o := noO) rfl noO_ok trivial ((fn_8).trans h)
end
end Go.Ev
namespace Go.Ev
open Go
set_option maxRecDepth 100000
set_option maxHeartbeats 4000000
set_option linter.unusedVariables false
noncomputable section
abbrev Zy5_0 : Ty := (Ty.pair (Ty.slice (Ty.pair (Ty.int IntKind.i64) (Ty.pair (Ty.int IntKind.i64) (Ty.pair (Ty.int IntKind.i64) (Ty.pair (Ty.int IntKind.i64) (Ty.pair (Ty.int IntKind.i64) (Ty.pair (Ty.int IntKind.i64) (Ty.pair Ty.bool (Ty.pair (Ty.int IntKind.i64) Ty.unit))))))))) (Ty.pair (Ty.slice (Ty.pair (Ty.int IntKind.i64) (Ty.pair (Ty.int IntKind.i64) (Ty.pair (Ty.int IntKind.i64) (Ty.pair (Ty.int IntKind.i64) (Ty.pair (Ty.int IntKind.i64) (Ty.pair (Ty.slice (Ty.int IntKind.i64)) (Ty.pair (Ty.int IntKind.i64) Ty.unit)))))))) (Ty.pair (Ty.int IntKind.i64) (Ty.pair Ty.bool Ty.unit))))
abbrev Zt5_1 : Type := List (Int × Int × Int × Int × Int × Int × Bool × Int × Unit) × List (Int × Int × Int × Int × Int × List Int × Int × Unit) × Int × Bool × Unit
abbrev Zy5_2 : Ty := (Ty.pair (Ty.int IntKind.i64) (Ty.pair (Ty.int IntKind.i64) (Ty.pair (Ty.int IntKind.i64) (Ty.pair (Ty.int IntKind.i64) (Ty.pair (Ty.int IntKind.i64) (Ty.pair (Ty.slice (Ty.int IntKind.i64)) (Ty.pair (Ty.int IntKind.i64) Ty.unit)))))))
abbrev Zt5_3 : Type := Int × Int × Int × Int × Int × Int × Bool × Int × Unit
abbrev Zt5_4 : Type := (List (Int × (Int × (Int × (Int × (Int × (Int × (Bool × (Int × Unit))))))))) × ((List (Int × (Int × (Int × (Int × (Int × ((List Int) × (Int × Unit)))))))) × (Int × (Bool × Unit)))
abbrev Zy5_5 : Ty := (Ty.pair (Ty.int IntKind.i64) (Ty.pair (Ty.int IntKind.i64) (Ty.pair (Ty.int IntKind.i64) (Ty.pair (Ty.int IntKind.i64) (Ty.pair (Ty.int IntKind.i64) (Ty.pair (Ty.int IntKind.i64) (Ty.pair Ty.bool (Ty.pair (Ty.int IntKind.i64) Ty.unit))))))))
abbrev Zy5_6 : Ty := (Ty.slice (Ty.pair (Ty.int IntKind.i64) (Ty.pair (Ty.int IntKind.i64) (Ty.pair (Ty.int IntKind.i64) (Ty.pair (Ty.int IntKind.i64) (Ty.pair (Ty.int IntKind.i64) (Ty.pair (Ty.slice (Ty.int IntKind.i64)) (Ty.pair (Ty.int IntKind.i64) Ty.unit))))))))
abbrev Zt5_7 : Type := List (Int × (Int × (Int × (Int × (Int × ((List Int) × (Int × Unit)))))))
abbrev Zy5_8 : Ty := (.pair (.int .i64) (.pair (.int .i64) (.pair (.int .i64) (.pair (.int .i64) (.pair (.int .i64) (.pair (.int .i64) (.pair .bool (.pair (.int .i64) .unit))))))))
abbrev Zt5_9 : Type := Int × (Int × (Int × (Int × (Int × ((List Int) × (Int × Unit))))))

def sm_5 : Nat → Option Summ := fun f => bif Nat.beq f 8 then some s_8 else bif Nat.beq f 9 then some s_9 else bif Nat.beq f 11 then some s_11 else bif Nat.beq f 19 then some s_19 else bif Nat.beq f 20 then some s_20 else none
def T_5_3 (p0 : Int) (p1 : Int) (p2 : Bool) (p3 : Bool) (p4 : List Bool) (p5 : Int) (p6 : Int) (p7 : Zt5_3) (p8 : Zt5_1) : St := St.mk ([jk, jk, CV.ptr (0 : Nat) [], jk, jk, CV.ptr (1 : Nat) [], jk, jk, CV.int IntKind.i64 p0, CV.int IntKind.i64 p1, CV.bool p2, jk, CV.bool p3] ++ (jl 27 ++ ([CV.pure (Ty.slice Ty.bool) p4, CV.int IntKind.i64 p5, CV.int IntKind.i64 p6] ++ (jl 47)))) [Blk.mem (CV.pure Zy5_5 p7), Blk.mem (CV.pure Zy5_0 p8)] (0 : Nat)
def X_5_3_0 : St := St.mk ([jk, jk, jk, jk, CV.bool false] ++ (jl 85)) [] (0 : Nat)
def X_5_3_1 (p0 : Int) (p1 : Int) (p2 : Bool) (p3 : Bool) (p4 : List Bool) (p5 : Int) (p6 : Int) (p7 : Zt5_3) (p8 : Zt5_1) : St := St.mk ([jk, jk, CV.ptr (0 : Nat) [], jk, jk, CV.ptr (1 : Nat) [], CV.int IntKind.i64 ((Sp.v_20 p8 (0 : Int) p3 (List.replicate (Int.toNat (if (if (8 : Int) < p7.2.2.2.2.2.2.2.1 then (8 : Int) else p7.2.2.2.2.2.2.2.1) > (0 : Int) then if (8 : Int) < p7.2.2.2.2.2.2.2.1 then (8 : Int) else p7.2.2.2.2.2.2.2.1 else (0 : Int))) (0 : Int))).2.1), jk, CV.int IntKind.i64 p0, CV.int IntKind.i64 p1, CV.bool p2, jk, CV.bool p3] ++ (jl 27 ++ ([CV.pure (Ty.slice Ty.bool) p4, CV.int IntKind.i64 p5, CV.int IntKind.i64 p6] ++ (jl 16 ++ [CV.tup (CV.pair (CV.pure Zy5_0 (((Sp.v_20 p8 (0 : Int) p3 (List.replicate (Int.toNat (if (if (8 : Int) < p7.2.2.2.2.2.2.2.1 then (8 : Int) else p7.2.2.2.2.2.2.2.1) > (0 : Int) then if (8 : Int) < p7.2.2.2.2.2.2.2.1 then (8 : Int) else p7.2.2.2.2.2.2.2.1 else (0 : Int))) (0 : Int))).1) : (Zt5_4))) (CV.pair (CV.int IntKind.i64 ((Sp.v_20 p8 (0 : Int) p3 (List.replicate (Int.toNat (if (if (8 : Int) < p7.2.2.2.2.2.2.2.1 then (8 : Int) else p7.2.2.2.2.2.2.2.1) > (0 : Int) then if (8 : Int) < p7.2.2.2.2.2.2.2.1 then (8 : Int) else p7.2.2.2.2.2.2.2.1 else (0 : Int))) (0 : Int))).2.1)) (CV.pure Ty.unit PUnit.unit))), CV.pure Zy5_0 p8, CV.bool p3, CV.ptr (0 : Nat) [Step.f (7 : Nat) (7 : Nat)], CV.int IntKind.i64 (p7.2.2.2.2.2.2.2.1), CV.int IntKind.i64 (if (8 : Int) < p7.2.2.2.2.2.2.2.1 then (8 : Int) else p7.2.2.2.2.2.2.2.1), CV.int IntKind.i64 (if (if (8 : Int) < p7.2.2.2.2.2.2.2.1 then (8 : Int) else p7.2.2.2.2.2.2.2.1) > (0 : Int) then if (8 : Int) < p7.2.2.2.2.2.2.2.1 then (8 : Int) else p7.2.2.2.2.2.2.2.1 else (0 : Int)), CV.whole (2 : Nat), CV.tup (CV.pair (CV.pure Zy5_0 (((Sp.v_20 p8 (0 : Int) p3 (List.replicate (Int.toNat (if (if (8 : Int) < p7.2.2.2.2.2.2.2.1 then (8 : Int) else p7.2.2.2.2.2.2.2.1) > (0 : Int) then if (8 : Int) < p7.2.2.2.2.2.2.2.1 then (8 : Int) else p7.2.2.2.2.2.2.2.1 else (0 : Int))) (0 : Int))).1) : (Zt5_4))) (CV.pair (CV.int IntKind.i64 ((Sp.v_20 p8 (0 : Int) p3 (List.replicate (Int.toNat (if (if (8 : Int) < p7.2.2.2.2.2.2.2.1 then (8 : Int) else p7.2.2.2.2.2.2.2.1) > (0 : Int) then if (8 : Int) < p7.2.2.2.2.2.2.2.1 then (8 : Int) else p7.2.2.2.2.2.2.2.1 else (0 : Int))) (0 : Int))).2.1)) (CV.pure Ty.unit PUnit.unit))), CV.pure Zy5_0 (((Sp.v_20 p8 (0 : Int) p3 (List.replicate (Int.toNat (if (if (8 : Int) < p7.2.2.2.2.2.2.2.1 then (8 : Int) else p7.2.2.2.2.2.2.2.1) > (0 : Int) then if (8 : Int) < p7.2.2.2.2.2.2.2.1 then (8 : Int) else p7.2.2.2.2.2.2.2.1 else (0 : Int))) (0 : Int))).1) : (Zt5_4)), CV.int IntKind.i64 ((Sp.v_20 p8 (0 : Int) p3 (List.replicate (Int.toNat (if (if (8 : Int) < p7.2.2.2.2.2.2.2.1 then (8 : Int) else p7.2.2.2.2.2.2.2.1) > (0 : Int) then if (8 : Int) < p7.2.2.2.2.2.2.2.1 then (8 : Int) else p7.2.2.2.2.2.2.2.1 else (0 : Int))) (0 : Int))).2.1), CV.int IntKind.i64 ((Sp.v_20 p8 (0 : Int) p3 (List.replicate (Int.toNat (if (if (8 : Int) < p7.2.2.2.2.2.2.2.1 then (8 : Int) else p7.2.2.2.2.2.2.2.1) > (0 : Int) then if (8 : Int) < p7.2.2.2.2.2.2.2.1 then (8 : Int) else p7.2.2.2.2.2.2.2.1 else (0 : Int))) (0 : Int))).2.1), CV.bool ((Sp.v_20 p8 (0 : Int) p3 (List.replicate (Int.toNat (if (if (8 : Int) < p7.2.2.2.2.2.2.2.1 then (8 : Int) else p7.2.2.2.2.2.2.2.1) > (0 : Int) then if (8 : Int) < p7.2.2.2.2.2.2.2.1 then (8 : Int) else p7.2.2.2.2.2.2.2.1 else (0 : Int))) (0 : Int))).2.1 != (0 : Int)), CV.bool false, CV.ptr (1 : Nat) [Step.f (1 : Nat) (1 : Nat)], CV.pure Zy5_6 (((Sp.v_20 p8 (0 : Int) p3 (List.replicate (Int.toNat (if (if (8 : Int) < p7.2.2.2.2.2.2.2.1 then (8 : Int) else p7.2.2.2.2.2.2.2.1) > (0 : Int) then if (8 : Int) < p7.2.2.2.2.2.2.2.1 then (8 : Int) else p7.2.2.2.2.2.2.2.1 else (0 : Int))) (0 : Int))).1.2.1) : (Zt5_7)), CV.int IntKind.i64 (↑(List.length ((Sp.v_20 p8 (0 : Int) p3 (List.replicate (Int.toNat (if (if (8 : Int) < p7.2.2.2.2.2.2.2.1 then (8 : Int) else p7.2.2.2.2.2.2.2.1) > (0 : Int) then if (8 : Int) < p7.2.2.2.2.2.2.2.1 then (8 : Int) else p7.2.2.2.2.2.2.2.1 else (0 : Int))) (0 : Int))).1.2.1)) : Int), CV.bool ((↑(List.length ((Sp.v_20 p8 (0 : Int) p3 (List.replicate (Int.toNat (if (if (8 : Int) < p7.2.2.2.2.2.2.2.1 then (8 : Int) else p7.2.2.2.2.2.2.2.1) > (0 : Int) then if (8 : Int) < p7.2.2.2.2.2.2.2.1 then (8 : Int) else p7.2.2.2.2.2.2.2.1 else (0 : Int))) (0 : Int))).1.2.1)) : Int) != (1 : Int)), CV.bool ((↑(List.length ((Sp.v_20 p8 (0 : Int) p3 (List.replicate (Int.toNat (if (if (8 : Int) < p7.2.2.2.2.2.2.2.1 then (8 : Int) else p7.2.2.2.2.2.2.2.1) > (0 : Int) then if (8 : Int) < p7.2.2.2.2.2.2.2.1 then (8 : Int) else p7.2.2.2.2.2.2.2.1 else (0 : Int))) (0 : Int))).1.2.1)) : Int) != (1 : Int)), CV.bool false, CV.ptr (1 : Nat) [Step.f (1 : Nat) (1 : Nat)], CV.pure Zy5_6 (((Sp.v_20 p8 (0 : Int) p3 (List.replicate (Int.toNat (if (if (8 : Int) < p7.2.2.2.2.2.2.2.1 then (8 : Int) else p7.2.2.2.2.2.2.2.1) > (0 : Int) then if (8 : Int) < p7.2.2.2.2.2.2.2.1 then (8 : Int) else p7.2.2.2.2.2.2.2.1 else (0 : Int))) (0 : Int))).1.2.1) : (Zt5_7)), CV.ref Zy5_2 ((List.getD ((Sp.v_20 p8 (0 : Int) p3 (List.replicate (Int.toNat (if (if (8 : Int) < p7.2.2.2.2.2.2.2.1 then (8 : Int) else p7.2.2.2.2.2.2.2.1) > (0 : Int) then if (8 : Int) < p7.2.2.2.2.2.2.2.1 then (8 : Int) else p7.2.2.2.2.2.2.2.1 else (0 : Int))) (0 : Int))).1.2.1) (0 : Nat) (Ty.dflt Zy5_2)) : (Zt5_9)), CV.ref (Ty.int IntKind.i64) (((List.getD ((Sp.v_20 p8 (0 : Int) p3 (List.replicate (Int.toNat (if (if (8 : Int) < p7.2.2.2.2.2.2.2.1 then (8 : Int) else p7.2.2.2.2.2.2.2.1) > (0 : Int) then if (8 : Int) < p7.2.2.2.2.2.2.2.1 then (8 : Int) else p7.2.2.2.2.2.2.2.1 else (0 : Int))) (0 : Int))).1.2.1) (0 : Nat) (Ty.dflt Zy5_2)).1) : Int), CV.int IntKind.i64 ((List.getD ((Sp.v_20 p8 (0 : Int) p3 (List.replicate (Int.toNat (if (if (8 : Int) < p7.2.2.2.2.2.2.2.1 then (8 : Int) else p7.2.2.2.2.2.2.2.1) > (0 : Int) then if (8 : Int) < p7.2.2.2.2.2.2.2.1 then (8 : Int) else p7.2.2.2.2.2.2.2.1 else (0 : Int))) (0 : Int))).1.2.1) (0 : Nat) (Ty.dflt Zy5_2)).1), CV.int IntKind.i64 (Sp.andI IntKind.i64 ((List.getD ((Sp.v_20 p8 (0 : Int) p3 (List.replicate (Int.toNat (if (if (8 : Int) < p7.2.2.2.2.2.2.2.1 then (8 : Int) else p7.2.2.2.2.2.2.2.1) > (0 : Int) then if (8 : Int) < p7.2.2.2.2.2.2.2.1 then (8 : Int) else p7.2.2.2.2.2.2.2.1 else (0 : Int))) (0 : Int))).1.2.1) (0 : Nat) (Ty.dflt Zy5_2)).1) (1 : Int)), CV.bool (Sp.andI IntKind.i64 ((List.getD ((Sp.v_20 p8 (0 : Int) p3 (List.replicate (Int.toNat (if (if (8 : Int) < p7.2.2.2.2.2.2.2.1 then (8 : Int) else p7.2.2.2.2.2.2.2.1) > (0 : Int) then if (8 : Int) < p7.2.2.2.2.2.2.2.1 then (8 : Int) else p7.2.2.2.2.2.2.2.1 else (0 : Int))) (0 : Int))).1.2.1) (0 : Nat) (Ty.dflt Zy5_2)).1) (1 : Int) != (0 : Int)), CV.bool p2, CV.bool !(Sp.andI IntKind.i64 ((List.getD ((Sp.v_20 p8 (0 : Int) p3 (List.replicate (Int.toNat (if (if (8 : Int) < p7.2.2.2.2.2.2.2.1 then (8 : Int) else p7.2.2.2.2.2.2.2.1) > (0 : Int) then if (8 : Int) < p7.2.2.2.2.2.2.2.1 then (8 : Int) else p7.2.2.2.2.2.2.2.1 else (0 : Int))) (0 : Int))).1.2.1) (0 : Nat) (Ty.dflt Zy5_2)).1) (1 : Int) != (0 : Int)) == p2, CV.bool false, jk])))) [Blk.mem (CV.pure Zy5_5 p7), Blk.mem (CV.pure Zy5_0 (((Sp.v_20 p8 (0 : Int) p3 (List.replicate (Int.toNat (if (if (8 : Int) < p7.2.2.2.2.2.2.2.1 then (8 : Int) else p7.2.2.2.2.2.2.2.1) > (0 : Int) then if (8 : Int) < p7.2.2.2.2.2.2.2.1 then (8 : Int) else p7.2.2.2.2.2.2.2.1 else (0 : Int))) (0 : Int))).1) : (Zt5_4))), Blk.fvec (3 : Nat) (Ty.int IntKind.i64) ((List.replicate (Int.toNat (if (if (8 : Int) < p7.2.2.2.2.2.2.2.1 then (8 : Int) else p7.2.2.2.2.2.2.2.1) > (0 : Int) then if (8 : Int) < p7.2.2.2.2.2.2.2.1 then (8 : Int) else p7.2.2.2.2.2.2.2.1 else (0 : Int))) (0 : Int)) : (List Int)), Blk.fresh] (0 : Nat)
inductive Sp.E_5_3 where
  | e0
  | e1 (p0 : Int) (p1 : Int) (p2 : Bool) (p3 : Bool) (p4 : List Bool) (p5 : Int) (p6 : Int) (p7 : Zt5_3) (p8 : Zt5_1)
def Sp.B_5_3 {R : Type} (r : Option Sp.E_5_3) (k0 : Option R) (k1 : (Int) → (Int) → (Bool) → (Bool) → (List Bool) → (Int) → (Int) → (Zt5_3) → (Zt5_1) → Option R) : Option R := match r with
  | none => none
  | some (.e0) => k0
  | some (.e1 p0 p1 p2 p3 p4 p5 p6 p7 p8) => k1 p0 p1 p2 p3 p4 p5 p6 p7 p8
def Sp.J_5_3 (p0 : Int) (p1 : Int) (p2 : Bool) (p3 : Bool) (p4 : List Bool) (p5 : Int) (p6 : Int) (p7 : Int × Int × Int × Int × Int × Int × Bool × Int × Unit) (p8 : List (Int × Int × Int × Int × Int × Int × Bool × Int × Unit) × List (Int × Int × Int × Int × Int × List Int × Int × Unit) × Int × Bool × Unit) : Option Sp.E_5_3 :=
  gd (decide ((0 : Int) ≤ if (if (8 : Int) < p7.2.2.2.2.2.2.2.1 then (8 : Int) else p7.2.2.2.2.2.2.2.1) > (0 : Int) then if (8 : Int) < p7.2.2.2.2.2.2.2.1 then (8 : Int) else p7.2.2.2.2.2.2.2.1 else (0 : Int)) && (((if (if (8 : Int) < p7.2.2.2.2.2.2.2.1 then (8 : Int) else p7.2.2.2.2.2.2.2.1) > (0 : Int) then if (8 : Int) < p7.2.2.2.2.2.2.2.1 then (8 : Int) else p7.2.2.2.2.2.2.2.1 else (0 : Int)) == if (if (8 : Int) < p7.2.2.2.2.2.2.2.1 then (8 : Int) else p7.2.2.2.2.2.2.2.1) > (0 : Int) then if (8 : Int) < p7.2.2.2.2.2.2.2.1 then (8 : Int) else p7.2.2.2.2.2.2.2.1 else (0 : Int)) && room (Int.toNat (if (if (8 : Int) < p7.2.2.2.2.2.2.2.1 then (8 : Int) else p7.2.2.2.2.2.2.2.1) > (0 : Int) then if (8 : Int) < p7.2.2.2.2.2.2.2.1 then (8 : Int) else p7.2.2.2.2.2.2.2.1 else (0 : Int))) (8 : Nat))) (gd (Sp.p_20 p8 (0 : Int) p3 (List.replicate (Int.toNat (if (if (8 : Int) < p7.2.2.2.2.2.2.2.1 then (8 : Int) else p7.2.2.2.2.2.2.2.1) > (0 : Int) then if (8 : Int) < p7.2.2.2.2.2.2.2.1 then (8 : Int) else p7.2.2.2.2.2.2.2.1 else (0 : Int))) (0 : Int))) (bif (Sp.v_20 p8 (0 : Int) p3 (List.replicate (Int.toNat (if (if (8 : Int) < p7.2.2.2.2.2.2.2.1 then (8 : Int) else p7.2.2.2.2.2.2.2.1) > (0 : Int) then if (8 : Int) < p7.2.2.2.2.2.2.2.1 then (8 : Int) else p7.2.2.2.2.2.2.2.1 else (0 : Int))) (0 : Int))).2.1 != (0 : Int) then some (Sp.E_5_3.e0) else bif (↑(List.length ((Sp.v_20 p8 (0 : Int) p3 (List.replicate (Int.toNat (if (if (8 : Int) < p7.2.2.2.2.2.2.2.1 then (8 : Int) else p7.2.2.2.2.2.2.2.1) > (0 : Int) then if (8 : Int) < p7.2.2.2.2.2.2.2.1 then (8 : Int) else p7.2.2.2.2.2.2.2.1 else (0 : Int))) (0 : Int))).1.2.1)) : Int) != (1 : Int) then some (Sp.E_5_3.e0) else gd (inB (0 : Int) (List.length ((Sp.v_20 p8 (0 : Int) p3 (List.replicate (Int.toNat (if (if (8 : Int) < p7.2.2.2.2.2.2.2.1 then (8 : Int) else p7.2.2.2.2.2.2.2.1) > (0 : Int) then if (8 : Int) < p7.2.2.2.2.2.2.2.1 then (8 : Int) else p7.2.2.2.2.2.2.2.1 else (0 : Int))) (0 : Int))).1.2.1))) (bif !(Sp.andI IntKind.i64 ((List.getD ((Sp.v_20 p8 (0 : Int) p3 (List.replicate (Int.toNat (if (if (8 : Int) < p7.2.2.2.2.2.2.2.1 then (8 : Int) else p7.2.2.2.2.2.2.2.1) > (0 : Int) then if (8 : Int) < p7.2.2.2.2.2.2.2.1 then (8 : Int) else p7.2.2.2.2.2.2.2.1 else (0 : Int))) (0 : Int))).1.2.1) (0 : Nat) Zd1).1) (1 : Int) != (0 : Int)) == p2 then some (Sp.E_5_3.e0) else some (Sp.E_5_3.e1 p0 p1 p2 p3 p4 p5 p6 p7 p8))))
def G_5_3 {R : Type} (p0 : Int) (p1 : Int) (p2 : Bool) (p3 : Bool) (p4 : List Bool) (p5 : Int) (p6 : Int) (p7 : Zt5_3) (p8 : Zt5_1) (k : Ex → St → Option R) : Option R := Sp.B_5_3 (Sp.J_5_3 p0 p1 p2 p3 p4 p5 p6 p7 p8) (k Ex.ret (X_5_3_0)) (fun p0 p1 p2 p3 p4 p5 p6 p7 p8 => k Ex.normal (X_5_3_1 p0 p1 p2 p3 p4 p5 p6 p7 p8))
def o_5_3 {R : Type} (G : (Int) → (Int) → (Bool) → (Bool) → (List Bool) → (Int) → (Int) → (Zt5_3) → (Zt5_1) → (Ex → St → Option R) → Option R) : St → (Ex → St → Option R) → Option R := fun T k => match T.sl.getD 2 .junk, T.sl.getD 5 .junk, T.sl.getD 8 .junk, T.sl.getD 9 .junk, T.sl.getD 10 .junk, T.sl.getD 12 .junk, T.sl.getD 40 .junk, T.sl.getD 41 .junk, T.sl.getD 42 .junk, T.hp with
  | CV.ptr (0 : Nat) [], CV.ptr (1 : Nat) [], CV.int IntKind.i64 p0, CV.int IntKind.i64 p1, CV.bool p2, CV.bool p3, CV.pure (Ty.slice Ty.bool) p4, CV.int IntKind.i64 p5, CV.int IntKind.i64 p6, ((Blk.mem (CV.pure (Ty.pair (Ty.int IntKind.i64) (Ty.pair (Ty.int IntKind.i64) (Ty.pair (Ty.int IntKind.i64) (Ty.pair (Ty.int IntKind.i64) (Ty.pair (Ty.int IntKind.i64) (Ty.pair (Ty.int IntKind.i64) (Ty.pair Ty.bool (Ty.pair (Ty.int IntKind.i64) Ty.unit)))))))) p7)) :: (Blk.mem (CV.pure (Ty.pair (Ty.slice (Ty.pair (Ty.int IntKind.i64) (Ty.pair (Ty.int IntKind.i64) (Ty.pair (Ty.int IntKind.i64) (Ty.pair (Ty.int IntKind.i64) (Ty.pair (Ty.int IntKind.i64) (Ty.pair (Ty.int IntKind.i64) (Ty.pair Ty.bool (Ty.pair (Ty.int IntKind.i64) Ty.unit))))))))) (Ty.pair (Ty.slice (Ty.pair (Ty.int IntKind.i64) (Ty.pair (Ty.int IntKind.i64) (Ty.pair (Ty.int IntKind.i64) (Ty.pair (Ty.int IntKind.i64) (Ty.pair (Ty.int IntKind.i64) (Ty.pair (Ty.slice (Ty.int IntKind.i64)) (Ty.pair (Ty.int IntKind.i64) Ty.unit)))))))) (Ty.pair (Ty.int IntKind.i64) (Ty.pair Ty.bool Ty.unit)))) p8)) :: []) => gd (shapeOK T 90 [2, 5, 8, 9, 10, 12, 40, 41, 42] (0 : Nat)) (G p0 p1 p2 p3 p4 p5 p6 p7 p8 k)
  | _, _, _, _, _, _, _, _, _, _ => none
theorem o_5_3_inv {R : Type} {G : (Int) → (Int) → (Bool) → (Bool) → (List Bool) → (Int) → (Int) → (Zt5_3) → (Zt5_1) → (Ex → St → Option R) → Option R} {T : St} {k : Ex → St → Option R} {r : R} (h : o_5_3 G T k = some r) : ∃ p0 p1 p2 p3 p4 p5 p6 p7 p8, T = T_5_3 p0 p1 p2 p3 p4 p5 p6 p7 p8 ∧ G p0 p1 p2 p3 p4 p5 p6 p7 p8 k = some r := by
  unfold o_5_3 at h
  split at h
  · obtain ⟨hs, h'⟩ := gd_some h
    refine ⟨_, _, _, _, _, _, _, _, _, (st_of (asg := [(2, _), (5, _), (8, _), (9, _), (10, _), (12, _), (40, _), (41, _), (42, _)]) hs ⟨by assumption, by assumption, by assumption, by assumption, by assumption, by assumption, by assumption, by assumption, by assumption, trivial⟩ (by assumption)).trans ?_, h'⟩
    kernel_rfl
  · cases h
def T_5_2 (p0 : Int) (p1 : Int) (p2 : Bool) (p3 : Bool) (p4 : List Bool) (p5 : Int) (p6 : Int) (p7 : Zt5_3) (p8 : Zt5_1) : St := St.mk ([jk, jk, CV.ptr (0 : Nat) [], jk, jk, CV.ptr (1 : Nat) [], jk, jk, CV.int IntKind.i64 p0, CV.int IntKind.i64 p1, CV.bool p2, jk, CV.bool p3] ++ (jl 27 ++ ([CV.pure (Ty.slice Ty.bool) p4, CV.int IntKind.i64 p5, CV.int IntKind.i64 p6] ++ (jl 47)))) [Blk.mem (CV.pure Zy5_5 p7), Blk.mem (CV.pure Zy5_0 p8)] (0 : Nat)
def X_5_2_0 : St := St.mk ([jk, jk, jk, jk, CV.bool false] ++ (jl 85)) [] (0 : Nat)
def X_5_2_1 (y20 : Int) (y21 : Int) (y22 : Bool) (y23 : Bool) (y24 : List Bool) (y25 : Int) (y26 : Int) (y27 : Zt5_3) (y28 : Zt5_1) : St := St.mk ([jk, jk, CV.ptr (0 : Nat) [], jk, jk, CV.ptr (1 : Nat) [], CV.int IntKind.i64 ((Sp.v_20 y28 (0 : Int) y23 (List.replicate (Int.toNat (if (if (8 : Int) < y27.2.2.2.2.2.2.2.1 then (8 : Int) else y27.2.2.2.2.2.2.2.1) > (0 : Int) then if (8 : Int) < y27.2.2.2.2.2.2.2.1 then (8 : Int) else y27.2.2.2.2.2.2.2.1 else (0 : Int))) (0 : Int))).2.1), jk, CV.int IntKind.i64 y20, CV.int IntKind.i64 y21, CV.bool y22, jk, CV.bool y23] ++ (jl 27 ++ ([CV.pure (Ty.slice Ty.bool) y24, CV.int IntKind.i64 y25, CV.int IntKind.i64 y26] ++ (jl 16 ++ [CV.tup (CV.pair (CV.pure Zy5_0 (((Sp.v_20 y28 (0 : Int) y23 (List.replicate (Int.toNat (if (if (8 : Int) < y27.2.2.2.2.2.2.2.1 then (8 : Int) else y27.2.2.2.2.2.2.2.1) > (0 : Int) then if (8 : Int) < y27.2.2.2.2.2.2.2.1 then (8 : Int) else y27.2.2.2.2.2.2.2.1 else (0 : Int))) (0 : Int))).1) : (Zt5_4))) (CV.pair (CV.int IntKind.i64 ((Sp.v_20 y28 (0 : Int) y23 (List.replicate (Int.toNat (if (if (8 : Int) < y27.2.2.2.2.2.2.2.1 then (8 : Int) else y27.2.2.2.2.2.2.2.1) > (0 : Int) then if (8 : Int) < y27.2.2.2.2.2.2.2.1 then (8 : Int) else y27.2.2.2.2.2.2.2.1 else (0 : Int))) (0 : Int))).2.1)) (CV.pure Ty.unit PUnit.unit))), CV.pure Zy5_0 y28, CV.bool y23, CV.ptr (0 : Nat) [Step.f (7 : Nat) (7 : Nat)], CV.int IntKind.i64 (y27.2.2.2.2.2.2.2.1), CV.int IntKind.i64 (if (8 : Int) < y27.2.2.2.2.2.2.2.1 then (8 : Int) else y27.2.2.2.2.2.2.2.1), CV.int IntKind.i64 (if (if (8 : Int) < y27.2.2.2.2.2.2.2.1 then (8 : Int) else y27.2.2.2.2.2.2.2.1) > (0 : Int) then if (8 : Int) < y27.2.2.2.2.2.2.2.1 then (8 : Int) else y27.2.2.2.2.2.2.2.1 else (0 : Int)), CV.whole (2 : Nat), CV.tup (CV.pair (CV.pure Zy5_0 (((Sp.v_20 y28 (0 : Int) y23 (List.replicate (Int.toNat (if (if (8 : Int) < y27.2.2.2.2.2.2.2.1 then (8 : Int) else y27.2.2.2.2.2.2.2.1) > (0 : Int) then if (8 : Int) < y27.2.2.2.2.2.2.2.1 then (8 : Int) else y27.2.2.2.2.2.2.2.1 else (0 : Int))) (0 : Int))).1) : (Zt5_4))) (CV.pair (CV.int IntKind.i64 ((Sp.v_20 y28 (0 : Int) y23 (List.replicate (Int.toNat (if (if (8 : Int) < y27.2.2.2.2.2.2.2.1 then (8 : Int) else y27.2.2.2.2.2.2.2.1) > (0 : Int) then if (8 : Int) < y27.2.2.2.2.2.2.2.1 then (8 : Int) else y27.2.2.2.2.2.2.2.1 else (0 : Int))) (0 : Int))).2.1)) (CV.pure Ty.unit PUnit.unit))), CV.pure Zy5_0 (((Sp.v_20 y28 (0 : Int) y23 (List.replicate (Int.toNat (if (if (8 : Int) < y27.2.2.2.2.2.2.2.1 then (8 : Int) else y27.2.2.2.2.2.2.2.1) > (0 : Int) then if (8 : Int) < y27.2.2.2.2.2.2.2.1 then (8 : Int) else y27.2.2.2.2.2.2.2.1 else (0 : Int))) (0 : Int))).1) : (Zt5_4)), CV.int IntKind.i64 ((Sp.v_20 y28 (0 : Int) y23 (List.replicate (Int.toNat (if (if (8 : Int) < y27.2.2.2.2.2.2.2.1 then (8 : Int) else y27.2.2.2.2.2.2.2.1) > (0 : Int) then if (8 : Int) < y27.2.2.2.2.2.2.2.1 then (8 : Int) else y27.2.2.2.2.2.2.2.1 else (0 : Int))) (0 : Int))).2.1), CV.int IntKind.i64 ((Sp.v_20 y28 (0 : Int) y23 (List.replicate (Int.toNat (if (if (8 : Int) < y27.2.2.2.2.2.2.2.1 then (8 : Int) else y27.2.2.2.2.2.2.2.1) > (0 : Int) then if (8 : Int) < y27.2.2.2.2.2.2.2.1 then (8 : Int) else y27.2.2.2.2.2.2.2.1 else (0 : Int))) (0 : Int))).2.1), CV.bool ((Sp.v_20 y28 (0 : Int) y23 (List.replicate (Int.toNat (if (if (8 : Int) < y27.2.2.2.2.2.2.2.1 then (8 : Int) else y27.2.2.2.2.2.2.2.1) > (0 : Int) then if (8 : Int) < y27.2.2.2.2.2.2.2.1 then (8 : Int) else y27.2.2.2.2.2.2.2.1 else (0 : Int))) (0 : Int))).2.1 != (0 : Int)), CV.bool false, CV.ptr (1 : Nat) [Step.f (1 : Nat) (1 : Nat)], CV.pure Zy5_6 (((Sp.v_20 y28 (0 : Int) y23 (List.replicate (Int.toNat (if (if (8 : Int) < y27.2.2.2.2.2.2.2.1 then (8 : Int) else y27.2.2.2.2.2.2.2.1) > (0 : Int) then if (8 : Int) < y27.2.2.2.2.2.2.2.1 then (8 : Int) else y27.2.2.2.2.2.2.2.1 else (0 : Int))) (0 : Int))).1.2.1) : (Zt5_7)), CV.int IntKind.i64 (↑(List.length ((Sp.v_20 y28 (0 : Int) y23 (List.replicate (Int.toNat (if (if (8 : Int) < y27.2.2.2.2.2.2.2.1 then (8 : Int) else y27.2.2.2.2.2.2.2.1) > (0 : Int) then if (8 : Int) < y27.2.2.2.2.2.2.2.1 then (8 : Int) else y27.2.2.2.2.2.2.2.1 else (0 : Int))) (0 : Int))).1.2.1)) : Int), CV.bool ((↑(List.length ((Sp.v_20 y28 (0 : Int) y23 (List.replicate (Int.toNat (if (if (8 : Int) < y27.2.2.2.2.2.2.2.1 then (8 : Int) else y27.2.2.2.2.2.2.2.1) > (0 : Int) then if (8 : Int) < y27.2.2.2.2.2.2.2.1 then (8 : Int) else y27.2.2.2.2.2.2.2.1 else (0 : Int))) (0 : Int))).1.2.1)) : Int) != (1 : Int)), CV.bool ((↑(List.length ((Sp.v_20 y28 (0 : Int) y23 (List.replicate (Int.toNat (if (if (8 : Int) < y27.2.2.2.2.2.2.2.1 then (8 : Int) else y27.2.2.2.2.2.2.2.1) > (0 : Int) then if (8 : Int) < y27.2.2.2.2.2.2.2.1 then (8 : Int) else y27.2.2.2.2.2.2.2.1 else (0 : Int))) (0 : Int))).1.2.1)) : Int) != (1 : Int)), CV.bool false, CV.ptr (1 : Nat) [Step.f (1 : Nat) (1 : Nat)], CV.pure Zy5_6 (((Sp.v_20 y28 (0 : Int) y23 (List.replicate (Int.toNat (if (if (8 : Int) < y27.2.2.2.2.2.2.2.1 then (8 : Int) else y27.2.2.2.2.2.2.2.1) > (0 : Int) then if (8 : Int) < y27.2.2.2.2.2.2.2.1 then (8 : Int) else y27.2.2.2.2.2.2.2.1 else (0 : Int))) (0 : Int))).1.2.1) : (Zt5_7)), CV.ref Zy5_2 ((List.getD ((Sp.v_20 y28 (0 : Int) y23 (List.replicate (Int.toNat (if (if (8 : Int) < y27.2.2.2.2.2.2.2.1 then (8 : Int) else y27.2.2.2.2.2.2.2.1) > (0 : Int) then if (8 : Int) < y27.2.2.2.2.2.2.2.1 then (8 : Int) else y27.2.2.2.2.2.2.2.1 else (0 : Int))) (0 : Int))).1.2.1) (0 : Nat) (Ty.dflt Zy5_2)) : (Zt5_9)), CV.ref (Ty.int IntKind.i64) (((List.getD ((Sp.v_20 y28 (0 : Int) y23 (List.replicate (Int.toNat (if (if (8 : Int) < y27.2.2.2.2.2.2.2.1 then (8 : Int) else y27.2.2.2.2.2.2.2.1) > (0 : Int) then if (8 : Int) < y27.2.2.2.2.2.2.2.1 then (8 : Int) else y27.2.2.2.2.2.2.2.1 else (0 : Int))) (0 : Int))).1.2.1) (0 : Nat) (Ty.dflt Zy5_2)).1) : Int), CV.int IntKind.i64 ((List.getD ((Sp.v_20 y28 (0 : Int) y23 (List.replicate (Int.toNat (if (if (8 : Int) < y27.2.2.2.2.2.2.2.1 then (8 : Int) else y27.2.2.2.2.2.2.2.1) > (0 : Int) then if (8 : Int) < y27.2.2.2.2.2.2.2.1 then (8 : Int) else y27.2.2.2.2.2.2.2.1 else (0 : Int))) (0 : Int))).1.2.1) (0 : Nat) (Ty.dflt Zy5_2)).1), CV.int IntKind.i64 (Sp.andI IntKind.i64 ((List.getD ((Sp.v_20 y28 (0 : Int) y23 (List.replicate (Int.toNat (if (if (8 : Int) < y27.2.2.2.2.2.2.2.1 then (8 : Int) else y27.2.2.2.2.2.2.2.1) > (0 : Int) then if (8 : Int) < y27.2.2.2.2.2.2.2.1 then (8 : Int) else y27.2.2.2.2.2.2.2.1 else (0 : Int))) (0 : Int))).1.2.1) (0 : Nat) (Ty.dflt Zy5_2)).1) (1 : Int)), CV.bool (Sp.andI IntKind.i64 ((List.getD ((Sp.v_20 y28 (0 : Int) y23 (List.replicate (Int.toNat (if (if (8 : Int) < y27.2.2.2.2.2.2.2.1 then (8 : Int) else y27.2.2.2.2.2.2.2.1) > (0 : Int) then if (8 : Int) < y27.2.2.2.2.2.2.2.1 then (8 : Int) else y27.2.2.2.2.2.2.2.1 else (0 : Int))) (0 : Int))).1.2.1) (0 : Nat) (Ty.dflt Zy5_2)).1) (1 : Int) != (0 : Int)), CV.bool y22, CV.bool !(Sp.andI IntKind.i64 ((List.getD ((Sp.v_20 y28 (0 : Int) y23 (List.replicate (Int.toNat (if (if (8 : Int) < y27.2.2.2.2.2.2.2.1 then (8 : Int) else y27.2.2.2.2.2.2.2.1) > (0 : Int) then if (8 : Int) < y27.2.2.2.2.2.2.2.1 then (8 : Int) else y27.2.2.2.2.2.2.2.1 else (0 : Int))) (0 : Int))).1.2.1) (0 : Nat) (Ty.dflt Zy5_2)).1) (1 : Int) != (0 : Int)) == y22, CV.bool false, jk])))) [Blk.mem (CV.pure Zy5_5 y27), Blk.mem (CV.pure Zy5_0 (((Sp.v_20 y28 (0 : Int) y23 (List.replicate (Int.toNat (if (if (8 : Int) < y27.2.2.2.2.2.2.2.1 then (8 : Int) else y27.2.2.2.2.2.2.2.1) > (0 : Int) then if (8 : Int) < y27.2.2.2.2.2.2.2.1 then (8 : Int) else y27.2.2.2.2.2.2.2.1 else (0 : Int))) (0 : Int))).1) : (Zt5_4))), Blk.fvec (3 : Nat) (Ty.int IntKind.i64) ((List.replicate (Int.toNat (if (if (8 : Int) < y27.2.2.2.2.2.2.2.1 then (8 : Int) else y27.2.2.2.2.2.2.2.1) > (0 : Int) then if (8 : Int) < y27.2.2.2.2.2.2.2.1 then (8 : Int) else y27.2.2.2.2.2.2.2.1 else (0 : Int))) (0 : Int)) : (List Int)), Blk.fresh] (0 : Nat)
inductive Sp.E_5_2 where
  | e0
  | e1 (y20 : Int) (y21 : Int) (y22 : Bool) (y23 : Bool) (y24 : List Bool) (y25 : Int) (y26 : Int) (y27 : Zt5_3) (y28 : Zt5_1)
def Sp.B_5_2 {R : Type} (r : Option Sp.E_5_2) (k0 : Option R) (k1 : (Int) → (Int) → (Bool) → (Bool) → (List Bool) → (Int) → (Int) → (Zt5_3) → (Zt5_1) → Option R) : Option R := match r with
  | none => none
  | some (.e0) => k0
  | some (.e1 y20 y21 y22 y23 y24 y25 y26 y27 y28) => k1 y20 y21 y22 y23 y24 y25 y26 y27 y28
def Sp.J_5_2 (p0 : Int) (p1 : Int) (p2 : Bool) (p3 : Bool) (p4 : List Bool) (p5 : Int) (p6 : Int) (p7 : Int × Int × Int × Int × Int × Int × Bool × Int × Unit) (p8 : List (Int × Int × Int × Int × Int × Int × Bool × Int × Unit) × List (Int × Int × Int × Int × Int × List Int × Int × Unit) × Int × Bool × Unit) : Option Sp.E_5_2 :=
  bif decide (p1 ≥ p7.2.2.1) then Sp.B_5_3 (Sp.J_5_3 p0 p1 false p3 p4 p5 p6 p7 p8) (some (Sp.E_5_2.e0)) fun (y20 y21 : Int) (y22 y23 : Bool) (y24 : List Bool) (y25 y26 : Int) (y27 : Int × Int × Int × Int × Int × Int × Bool × Int × Unit) (y28 : List (Int × Int × Int × Int × Int × Int × Bool × Int × Unit) × List (Int × Int × Int × Int × Int × List Int × Int × Unit) × Int × Bool × Unit) => some (Sp.E_5_2.e1 y20 y21 y22 y23 y24 y25 y26 y27 y28) else Sp.B_5_3 (Sp.J_5_3 p0 p1 p2 p3 p4 p5 p6 p7 p8) (some (Sp.E_5_2.e0)) fun (y29 y30 : Int) (y31 y32 : Bool) (y33 : List Bool) (y34 y35 : Int) (y36 : Int × Int × Int × Int × Int × Int × Bool × Int × Unit) (y37 : List (Int × Int × Int × Int × Int × Int × Bool × Int × Unit) × List (Int × Int × Int × Int × Int × List Int × Int × Unit) × Int × Bool × Unit) => some (Sp.E_5_2.e1 y29 y30 y31 y32 y33 y34 y35 y36 y37)
def G_5_2 {R : Type} (p0 : Int) (p1 : Int) (p2 : Bool) (p3 : Bool) (p4 : List Bool) (p5 : Int) (p6 : Int) (p7 : Zt5_3) (p8 : Zt5_1) (k : Ex → St → Option R) : Option R := Sp.B_5_2 (Sp.J_5_2 p0 p1 p2 p3 p4 p5 p6 p7 p8) (k Ex.ret (X_5_2_0)) (fun y20 y21 y22 y23 y24 y25 y26 y27 y28 => k Ex.normal (X_5_2_1 y20 y21 y22 y23 y24 y25 y26 y27 y28))
def o_5_2 {R : Type} (G : (Int) → (Int) → (Bool) → (Bool) → (List Bool) → (Int) → (Int) → (Zt5_3) → (Zt5_1) → (Ex → St → Option R) → Option R) : St → (Ex → St → Option R) → Option R := fun T k => match T.sl.getD 2 .junk, T.sl.getD 5 .junk, T.sl.getD 8 .junk, T.sl.getD 9 .junk, T.sl.getD 10 .junk, T.sl.getD 12 .junk, T.sl.getD 40 .junk, T.sl.getD 41 .junk, T.sl.getD 42 .junk, T.hp with
  | CV.ptr (0 : Nat) [], CV.ptr (1 : Nat) [], CV.int IntKind.i64 p0, CV.int IntKind.i64 p1, CV.bool p2, CV.bool p3, CV.pure (Ty.slice Ty.bool) p4, CV.int IntKind.i64 p5, CV.int IntKind.i64 p6, ((Blk.mem (CV.pure (Ty.pair (Ty.int IntKind.i64) (Ty.pair (Ty.int IntKind.i64) (Ty.pair (Ty.int IntKind.i64) (Ty.pair (Ty.int IntKind.i64) (Ty.pair (Ty.int IntKind.i64) (Ty.pair (Ty.int IntKind.i64) (Ty.pair Ty.bool (Ty.pair (Ty.int IntKind.i64) Ty.unit)))))))) p7)) :: (Blk.mem (CV.pure (Ty.pair (Ty.slice (Ty.pair (Ty.int IntKind.i64) (Ty.pair (Ty.int IntKind.i64) (Ty.pair (Ty.int IntKind.i64) (Ty.pair (Ty.int IntKind.i64) (Ty.pair (Ty.int IntKind.i64) (Ty.pair (Ty.int IntKind.i64) (Ty.pair Ty.bool (Ty.pair (Ty.int IntKind.i64) Ty.unit))))))))) (Ty.pair (Ty.slice (Ty.pair (Ty.int IntKind.i64) (Ty.pair (Ty.int IntKind.i64) (Ty.pair (Ty.int IntKind.i64) (Ty.pair (Ty.int IntKind.i64) (Ty.pair (Ty.int IntKind.i64) (Ty.pair (Ty.slice (Ty.int IntKind.i64)) (Ty.pair (Ty.int IntKind.i64) Ty.unit)))))))) (Ty.pair (Ty.int IntKind.i64) (Ty.pair Ty.bool Ty.unit)))) p8)) :: []) => gd (shapeOK T 90 [2, 5, 8, 9, 10, 12, 40, 41, 42] (0 : Nat)) (G p0 p1 p2 p3 p4 p5 p6 p7 p8 k)
  | _, _, _, _, _, _, _, _, _, _ => none
theorem o_5_2_inv {R : Type} {G : (Int) → (Int) → (Bool) → (Bool) → (List Bool) → (Int) → (Int) → (Zt5_3) → (Zt5_1) → (Ex → St → Option R) → Option R} {T : St} {k : Ex → St → Option R} {r : R} (h : o_5_2 G T k = some r) : ∃ p0 p1 p2 p3 p4 p5 p6 p7 p8, T = T_5_2 p0 p1 p2 p3 p4 p5 p6 p7 p8 ∧ G p0 p1 p2 p3 p4 p5 p6 p7 p8 k = some r := by
  unfold o_5_2 at h
  split at h
  · obtain ⟨hs, h'⟩ := gd_some h
    refine ⟨_, _, _, _, _, _, _, _, _, (st_of (asg := [(2, _), (5, _), (8, _), (9, _), (10, _), (12, _), (40, _), (41, _), (42, _)]) hs ⟨by assumption, by assumption, by assumption, by assumption, by assumption, by assumption, by assumption, by assumption, by assumption, trivial⟩ (by assumption)).trans ?_, h'⟩
    kernel_rfl
  · cases h
def T_5_1 (p0 : Int) (p1 : Int) (p2 : Bool) (p3 : Bool) (p4 : List Bool) (p5 : Int) (p6 : Int) (p7 : Zt5_3) (p8 : Zt5_1) : St := St.mk ([jk, jk, CV.ptr (0 : Nat) [], jk, jk, CV.ptr (1 : Nat) [], jk, jk, CV.int IntKind.i64 p0, CV.int IntKind.i64 p1, CV.bool p2, jk, CV.bool p3] ++ (jl 27 ++ ([CV.pure (Ty.slice Ty.bool) p4, CV.int IntKind.i64 p5, CV.int IntKind.i64 p6] ++ (jl 47)))) [Blk.mem (CV.pure Zy5_5 p7), Blk.mem (CV.pure Zy5_0 p8)] (0 : Nat)
def X_5_1_0 : St := St.mk ([jk, jk, jk, jk, CV.bool false] ++ (jl 85)) [] (0 : Nat)
def X_5_1_1 (y20 : Int) (y21 : Int) (y22 : Bool) (y23 : Bool) (y24 : List Bool) (y25 : Int) (y26 : Int) (y27 : Zt5_3) (y28 : Zt5_1) : St := St.mk ([jk, jk, CV.ptr (0 : Nat) [], jk, jk, CV.ptr (1 : Nat) [], CV.int IntKind.i64 ((Sp.v_20 y28 (0 : Int) y23 (List.replicate (Int.toNat (if (if (8 : Int) < y27.2.2.2.2.2.2.2.1 then (8 : Int) else y27.2.2.2.2.2.2.2.1) > (0 : Int) then if (8 : Int) < y27.2.2.2.2.2.2.2.1 then (8 : Int) else y27.2.2.2.2.2.2.2.1 else (0 : Int))) (0 : Int))).2.1), jk, CV.int IntKind.i64 y20, CV.int IntKind.i64 y21, CV.bool y22, jk, CV.bool y23] ++ (jl 27 ++ ([CV.pure (Ty.slice Ty.bool) y24, CV.int IntKind.i64 y25, CV.int IntKind.i64 y26] ++ (jl 16 ++ [CV.tup (CV.pair (CV.pure Zy5_0 (((Sp.v_20 y28 (0 : Int) y23 (List.replicate (Int.toNat (if (if (8 : Int) < y27.2.2.2.2.2.2.2.1 then (8 : Int) else y27.2.2.2.2.2.2.2.1) > (0 : Int) then if (8 : Int) < y27.2.2.2.2.2.2.2.1 then (8 : Int) else y27.2.2.2.2.2.2.2.1 else (0 : Int))) (0 : Int))).1) : (Zt5_4))) (CV.pair (CV.int IntKind.i64 ((Sp.v_20 y28 (0 : Int) y23 (List.replicate (Int.toNat (if (if (8 : Int) < y27.2.2.2.2.2.2.2.1 then (8 : Int) else y27.2.2.2.2.2.2.2.1) > (0 : Int) then if (8 : Int) < y27.2.2.2.2.2.2.2.1 then (8 : Int) else y27.2.2.2.2.2.2.2.1 else (0 : Int))) (0 : Int))).2.1)) (CV.pure Ty.unit PUnit.unit))), CV.pure Zy5_0 y28, CV.bool y23, CV.ptr (0 : Nat) [Step.f (7 : Nat) (7 : Nat)], CV.int IntKind.i64 (y27.2.2.2.2.2.2.2.1), CV.int IntKind.i64 (if (8 : Int) < y27.2.2.2.2.2.2.2.1 then (8 : Int) else y27.2.2.2.2.2.2.2.1), CV.int IntKind.i64 (if (if (8 : Int) < y27.2.2.2.2.2.2.2.1 then (8 : Int) else y27.2.2.2.2.2.2.2.1) > (0 : Int) then if (8 : Int) < y27.2.2.2.2.2.2.2.1 then (8 : Int) else y27.2.2.2.2.2.2.2.1 else (0 : Int)), CV.whole (2 : Nat), CV.tup (CV.pair (CV.pure Zy5_0 (((Sp.v_20 y28 (0 : Int) y23 (List.replicate (Int.toNat (if (if (8 : Int) < y27.2.2.2.2.2.2.2.1 then (8 : Int) else y27.2.2.2.2.2.2.2.1) > (0 : Int) then if (8 : Int) < y27.2.2.2.2.2.2.2.1 then (8 : Int) else y27.2.2.2.2.2.2.2.1 else (0 : Int))) (0 : Int))).1) : (Zt5_4))) (CV.pair (CV.int IntKind.i64 ((Sp.v_20 y28 (0 : Int) y23 (List.replicate (Int.toNat (if (if (8 : Int) < y27.2.2.2.2.2.2.2.1 then (8 : Int) else y27.2.2.2.2.2.2.2.1) > (0 : Int) then if (8 : Int) < y27.2.2.2.2.2.2.2.1 then (8 : Int) else y27.2.2.2.2.2.2.2.1 else (0 : Int))) (0 : Int))).2.1)) (CV.pure Ty.unit PUnit.unit))), CV.pure Zy5_0 (((Sp.v_20 y28 (0 : Int) y23 (List.replicate (Int.toNat (if (if (8 : Int) < y27.2.2.2.2.2.2.2.1 then (8 : Int) else y27.2.2.2.2.2.2.2.1) > (0 : Int) then if (8 : Int) < y27.2.2.2.2.2.2.2.1 then (8 : Int) else y27.2.2.2.2.2.2.2.1 else (0 : Int))) (0 : Int))).1) : (Zt5_4)), CV.int IntKind.i64 ((Sp.v_20 y28 (0 : Int) y23 (List.replicate (Int.toNat (if (if (8 : Int) < y27.2.2.2.2.2.2.2.1 then (8 : Int) else y27.2.2.2.2.2.2.2.1) > (0 : Int) then if (8 : Int) < y27.2.2.2.2.2.2.2.1 then (8 : Int) else y27.2.2.2.2.2.2.2.1 else (0 : Int))) (0 : Int))).2.1), CV.int IntKind.i64 ((Sp.v_20 y28 (0 : Int) y23 (List.replicate (Int.toNat (if (if (8 : Int) < y27.2.2.2.2.2.2.2.1 then (8 : Int) else y27.2.2.2.2.2.2.2.1) > (0 : Int) then if (8 : Int) < y27.2.2.2.2.2.2.2.1 then (8 : Int) else y27.2.2.2.2.2.2.2.1 else (0 : Int))) (0 : Int))).2.1), CV.bool ((Sp.v_20 y28 (0 : Int) y23 (List.replicate (Int.toNat (if (if (8 : Int) < y27.2.2.2.2.2.2.2.1 then (8 : Int) else y27.2.2.2.2.2.2.2.1) > (0 : Int) then if (8 : Int) < y27.2.2.2.2.2.2.2.1 then (8 : Int) else y27.2.2.2.2.2.2.2.1 else (0 : Int))) (0 : Int))).2.1 != (0 : Int)), CV.bool false, CV.ptr (1 : Nat) [Step.f (1 : Nat) (1 : Nat)], CV.pure Zy5_6 (((Sp.v_20 y28 (0 : Int) y23 (List.replicate (Int.toNat (if (if (8 : Int) < y27.2.2.2.2.2.2.2.1 then (8 : Int) else y27.2.2.2.2.2.2.2.1) > (0 : Int) then if (8 : Int) < y27.2.2.2.2.2.2.2.1 then (8 : Int) else y27.2.2.2.2.2.2.2.1 else (0 : Int))) (0 : Int))).1.2.1) : (Zt5_7)), CV.int IntKind.i64 (↑(List.length ((Sp.v_20 y28 (0 : Int) y23 (List.replicate (Int.toNat (if (if (8 : Int) < y27.2.2.2.2.2.2.2.1 then (8 : Int) else y27.2.2.2.2.2.2.2.1) > (0 : Int) then if (8 : Int) < y27.2.2.2.2.2.2.2.1 then (8 : Int) else y27.2.2.2.2.2.2.2.1 else (0 : Int))) (0 : Int))).1.2.1)) : Int), CV.bool ((↑(List.length ((Sp.v_20 y28 (0 : Int) y23 (List.replicate (Int.toNat (if (if (8 : Int) < y27.2.2.2.2.2.2.2.1 then (8 : Int) else y27.2.2.2.2.2.2.2.1) > (0 : Int) then if (8 : Int) < y27.2.2.2.2.2.2.2.1 then (8 : Int) else y27.2.2.2.2.2.2.2.1 else (0 : Int))) (0 : Int))).1.2.1)) : Int) != (1 : Int)), CV.bool ((↑(List.length ((Sp.v_20 y28 (0 : Int) y23 (List.replicate (Int.toNat (if (if (8 : Int) < y27.2.2.2.2.2.2.2.1 then (8 : Int) else y27.2.2.2.2.2.2.2.1) > (0 : Int) then if (8 : Int) < y27.2.2.2.2.2.2.2.1 then (8 : Int) else y27.2.2.2.2.2.2.2.1 else (0 : Int))) (0 : Int))).1.2.1)) : Int) != (1 : Int)), CV.bool false, CV.ptr (1 : Nat) [Step.f (1 : Nat) (1 : Nat)], CV.pure Zy5_6 (((Sp.v_20 y28 (0 : Int) y23 (List.replicate (Int.toNat (if (if (8 : Int) < y27.2.2.2.2.2.2.2.1 then (8 : Int) else y27.2.2.2.2.2.2.2.1) > (0 : Int) then if (8 : Int) < y27.2.2.2.2.2.2.2.1 then (8 : Int) else y27.2.2.2.2.2.2.2.1 else (0 : Int))) (0 : Int))).1.2.1) : (Zt5_7)), CV.ref Zy5_2 ((List.getD ((Sp.v_20 y28 (0 : Int) y23 (List.replicate (Int.toNat (if (if (8 : Int) < y27.2.2.2.2.2.2.2.1 then (8 : Int) else y27.2.2.2.2.2.2.2.1) > (0 : Int) then if (8 : Int) < y27.2.2.2.2.2.2.2.1 then (8 : Int) else y27.2.2.2.2.2.2.2.1 else (0 : Int))) (0 : Int))).1.2.1) (0 : Nat) (Ty.dflt Zy5_2)) : (Zt5_9)), CV.ref (Ty.int IntKind.i64) (((List.getD ((Sp.v_20 y28 (0 : Int) y23 (List.replicate (Int.toNat (if (if (8 : Int) < y27.2.2.2.2.2.2.2.1 then (8 : Int) else y27.2.2.2.2.2.2.2.1) > (0 : Int) then if (8 : Int) < y27.2.2.2.2.2.2.2.1 then (8 : Int) else y27.2.2.2.2.2.2.2.1 else (0 : Int))) (0 : Int))).1.2.1) (0 : Nat) (Ty.dflt Zy5_2)).1) : Int), CV.int IntKind.i64 ((List.getD ((Sp.v_20 y28 (0 : Int) y23 (List.replicate (Int.toNat (if (if (8 : Int) < y27.2.2.2.2.2.2.2.1 then (8 : Int) else y27.2.2.2.2.2.2.2.1) > (0 : Int) then if (8 : Int) < y27.2.2.2.2.2.2.2.1 then (8 : Int) else y27.2.2.2.2.2.2.2.1 else (0 : Int))) (0 : Int))).1.2.1) (0 : Nat) (Ty.dflt Zy5_2)).1), CV.int IntKind.i64 (Sp.andI IntKind.i64 ((List.getD ((Sp.v_20 y28 (0 : Int) y23 (List.replicate (Int.toNat (if (if (8 : Int) < y27.2.2.2.2.2.2.2.1 then (8 : Int) else y27.2.2.2.2.2.2.2.1) > (0 : Int) then if (8 : Int) < y27.2.2.2.2.2.2.2.1 then (8 : Int) else y27.2.2.2.2.2.2.2.1 else (0 : Int))) (0 : Int))).1.2.1) (0 : Nat) (Ty.dflt Zy5_2)).1) (1 : Int)), CV.bool (Sp.andI IntKind.i64 ((List.getD ((Sp.v_20 y28 (0 : Int) y23 (List.replicate (Int.toNat (if (if (8 : Int) < y27.2.2.2.2.2.2.2.1 then (8 : Int) else y27.2.2.2.2.2.2.2.1) > (0 : Int) then if (8 : Int) < y27.2.2.2.2.2.2.2.1 then (8 : Int) else y27.2.2.2.2.2.2.2.1 else (0 : Int))) (0 : Int))).1.2.1) (0 : Nat) (Ty.dflt Zy5_2)).1) (1 : Int) != (0 : Int)), CV.bool y22, CV.bool !(Sp.andI IntKind.i64 ((List.getD ((Sp.v_20 y28 (0 : Int) y23 (List.replicate (Int.toNat (if (if (8 : Int) < y27.2.2.2.2.2.2.2.1 then (8 : Int) else y27.2.2.2.2.2.2.2.1) > (0 : Int) then if (8 : Int) < y27.2.2.2.2.2.2.2.1 then (8 : Int) else y27.2.2.2.2.2.2.2.1 else (0 : Int))) (0 : Int))).1.2.1) (0 : Nat) (Ty.dflt Zy5_2)).1) (1 : Int) != (0 : Int)) == y22, CV.bool false, jk])))) [Blk.mem (CV.pure Zy5_5 y27), Blk.mem (CV.pure Zy5_0 (((Sp.v_20 y28 (0 : Int) y23 (List.replicate (Int.toNat (if (if (8 : Int) < y27.2.2.2.2.2.2.2.1 then (8 : Int) else y27.2.2.2.2.2.2.2.1) > (0 : Int) then if (8 : Int) < y27.2.2.2.2.2.2.2.1 then (8 : Int) else y27.2.2.2.2.2.2.2.1 else (0 : Int))) (0 : Int))).1) : (Zt5_4))), Blk.fvec (3 : Nat) (Ty.int IntKind.i64) ((List.replicate (Int.toNat (if (if (8 : Int) < y27.2.2.2.2.2.2.2.1 then (8 : Int) else y27.2.2.2.2.2.2.2.1) > (0 : Int) then if (8 : Int) < y27.2.2.2.2.2.2.2.1 then (8 : Int) else y27.2.2.2.2.2.2.2.1 else (0 : Int))) (0 : Int)) : (List Int)), Blk.fresh] (0 : Nat)
inductive Sp.E_5_1 where
  | e0
  | e1 (y20 : Int) (y21 : Int) (y22 : Bool) (y23 : Bool) (y24 : List Bool) (y25 : Int) (y26 : Int) (y27 : Zt5_3) (y28 : Zt5_1)
def Sp.B_5_1 {R : Type} (r : Option Sp.E_5_1) (k0 : Option R) (k1 : (Int) → (Int) → (Bool) → (Bool) → (List Bool) → (Int) → (Int) → (Zt5_3) → (Zt5_1) → Option R) : Option R := match r with
  | none => none
  | some (.e0) => k0
  | some (.e1 y20 y21 y22 y23 y24 y25 y26 y27 y28) => k1 y20 y21 y22 y23 y24 y25 y26 y27 y28
def Sp.J_5_1 (p0 : Int) (p1 : Int) (p2 : Bool) (p3 : Bool) (p4 : List Bool) (p5 : Int) (p6 : Int) (p7 : Int × Int × Int × Int × Int × Int × Bool × Int × Unit) (p8 : List (Int × Int × Int × Int × Int × Int × Bool × Int × Unit) × List (Int × Int × Int × Int × Int × List Int × Int × Unit) × Int × Bool × Unit) : Option Sp.E_5_1 :=
  bif decide (p0 ≥ p7.2.1) then Sp.B_5_2 (Sp.J_5_2 p0 p1 true p3 p4 p5 p6 p7 p8) (some (Sp.E_5_1.e0)) fun (y20 y21 : Int) (y22 y23 : Bool) (y24 : List Bool) (y25 y26 : Int) (y27 : Int × Int × Int × Int × Int × Int × Bool × Int × Unit) (y28 : List (Int × Int × Int × Int × Int × Int × Bool × Int × Unit) × List (Int × Int × Int × Int × Int × List Int × Int × Unit) × Int × Bool × Unit) => some (Sp.E_5_1.e1 y20 y21 y22 y23 y24 y25 y26 y27 y28) else Sp.B_5_2 (Sp.J_5_2 p0 p1 p2 p3 p4 p5 p6 p7 p8) (some (Sp.E_5_1.e0)) fun (y29 y30 : Int) (y31 y32 : Bool) (y33 : List Bool) (y34 y35 : Int) (y36 : Int × Int × Int × Int × Int × Int × Bool × Int × Unit) (y37 : List (Int × Int × Int × Int × Int × Int × Bool × Int × Unit) × List (Int × Int × Int × Int × Int × List Int × Int × Unit) × Int × Bool × Unit) => some (Sp.E_5_1.e1 y29 y30 y31 y32 y33 y34 y35 y36 y37)
def G_5_1 {R : Type} (p0 : Int) (p1 : Int) (p2 : Bool) (p3 : Bool) (p4 : List Bool) (p5 : Int) (p6 : Int) (p7 : Zt5_3) (p8 : Zt5_1) (k : Ex → St → Option R) : Option R := Sp.B_5_1 (Sp.J_5_1 p0 p1 p2 p3 p4 p5 p6 p7 p8) (k Ex.ret (X_5_1_0)) (fun y20 y21 y22 y23 y24 y25 y26 y27 y28 => k Ex.normal (X_5_1_1 y20 y21 y22 y23 y24 y25 y26 y27 y28))
def o_5_1 {R : Type} (G : (Int) → (Int) → (Bool) → (Bool) → (List Bool) → (Int) → (Int) → (Zt5_3) → (Zt5_1) → (Ex → St → Option R) → Option R) : St → (Ex → St → Option R) → Option R := fun T k => match T.sl.getD 2 .junk, T.sl.getD 5 .junk, T.sl.getD 8 .junk, T.sl.getD 9 .junk, T.sl.getD 10 .junk, T.sl.getD 12 .junk, T.sl.getD 40 .junk, T.sl.getD 41 .junk, T.sl.getD 42 .junk, T.hp with
  | CV.ptr (0 : Nat) [], CV.ptr (1 : Nat) [], CV.int IntKind.i64 p0, CV.int IntKind.i64 p1, CV.bool p2, CV.bool p3, CV.pure (Ty.slice Ty.bool) p4, CV.int IntKind.i64 p5, CV.int IntKind.i64 p6, ((Blk.mem (CV.pure (Ty.pair (Ty.int IntKind.i64) (Ty.pair (Ty.int IntKind.i64) (Ty.pair (Ty.int IntKind.i64) (Ty.pair (Ty.int IntKind.i64) (Ty.pair (Ty.int IntKind.i64) (Ty.pair (Ty.int IntKind.i64) (Ty.pair Ty.bool (Ty.pair (Ty.int IntKind.i64) Ty.unit)))))))) p7)) :: (Blk.mem (CV.pure (Ty.pair (Ty.slice (Ty.pair (Ty.int IntKind.i64) (Ty.pair (Ty.int IntKind.i64) (Ty.pair (Ty.int IntKind.i64) (Ty.pair (Ty.int IntKind.i64) (Ty.pair (Ty.int IntKind.i64) (Ty.pair (Ty.int IntKind.i64) (Ty.pair Ty.bool (Ty.pair (Ty.int IntKind.i64) Ty.unit))))))))) (Ty.pair (Ty.slice (Ty.pair (Ty.int IntKind.i64) (Ty.pair (Ty.int IntKind.i64) (Ty.pair (Ty.int IntKind.i64) (Ty.pair (Ty.int IntKind.i64) (Ty.pair (Ty.int IntKind.i64) (Ty.pair (Ty.slice (Ty.int IntKind.i64)) (Ty.pair (Ty.int IntKind.i64) Ty.unit)))))))) (Ty.pair (Ty.int IntKind.i64) (Ty.pair Ty.bool Ty.unit)))) p8)) :: []) => gd (shapeOK T 90 [2, 5, 8, 9, 10, 12, 40, 41, 42] (0 : Nat)) (G p0 p1 p2 p3 p4 p5 p6 p7 p8 k)
  | _, _, _, _, _, _, _, _, _, _ => none
theorem o_5_1_inv {R : Type} {G : (Int) → (Int) → (Bool) → (Bool) → (List Bool) → (Int) → (Int) → (Zt5_3) → (Zt5_1) → (Ex → St → Option R) → Option R} {T : St} {k : Ex → St → Option R} {r : R} (h : o_5_1 G T k = some r) : ∃ p0 p1 p2 p3 p4 p5 p6 p7 p8, T = T_5_1 p0 p1 p2 p3 p4 p5 p6 p7 p8 ∧ G p0 p1 p2 p3 p4 p5 p6 p7 p8 k = some r := by
  unfold o_5_1 at h
  split at h
  · obtain ⟨hs, h'⟩ := gd_some h
    refine ⟨_, _, _, _, _, _, _, _, _, (st_of (asg := [(2, _), (5, _), (8, _), (9, _), (10, _), (12, _), (40, _), (41, _), (42, _)]) hs ⟨by assumption, by assumption, by assumption, by assumption, by assumption, by assumption, by assumption, by assumption, by assumption, trivial⟩ (by assumption)).trans ?_, h'⟩
    kernel_rfl
  · cases h
def T_5_0 (p0 : Int) (p1 : Int) (p2 : Bool) (p3 : List Bool) (p4 : Int) (p5 : Int) (p6 : Zt5_3) (p7 : Zt5_1) : St := St.mk ([jk, jk, CV.ptr (0 : Nat) [], jk, jk, CV.ptr (1 : Nat) [], jk, jk, CV.int IntKind.i64 p0, CV.int IntKind.i64 p1, CV.bool p2] ++ (jl 29 ++ ([CV.pure (Ty.slice Ty.bool) p3, CV.int IntKind.i64 p4, CV.int IntKind.i64 p5] ++ (jl 47)))) [Blk.mem (CV.pure Zy5_5 p6), Blk.mem (CV.pure Zy5_0 p7)] (0 : Nat)
def X_5_0_0 : St := St.mk ([jk, jk, jk, jk, CV.bool false] ++ (jl 85)) [] (0 : Nat)
def X_5_0_1 : St := St.mk (jl 90) [] (0 : Nat)
inductive Sp.E_5_0 where
  | e0
  | e1
def Sp.B_5_0 {R : Type} (r : Option Sp.E_5_0) (k0 : Option R) (k1 : Option R) : Option R := match r with
  | none => none
  | some (.e0) => k0
  | some (.e1) => k1
def Sp.L_5_0 : Nat → (Int) → (Int) → (Bool) → (List Bool) → (Int) → (Int) → (Int × Int × Int × Int × Int × Int × Bool × Int × Unit) → (List (Int × Int × Int × Int × Int × Int × Bool × Int × Unit) × List (Int × Int × Int × Int × Int × List Int × Int × Unit) × Int × Bool × Unit) → Option Sp.E_5_0
  | 0, _, _, _, _, _, _, _, _ => none
  | m + 1, p0, p1, p2, p3, p4, p5, p6, p7 => bif decide (p5 < p4) then gd (inB p5 (List.length p3)) (bif List.getD p3 (Int.toNat p5) false then Sp.B_5_1 (Sp.J_5_1 (IntKind.wrap IntKind.i64 (p0 + (1 : Int))) (0 : Int) p2 (List.getD p3 (Int.toNat p5) false) p3 p4 p5 p6 p7) (some (Sp.E_5_0.e0)) fun (y18 y19 : Int) (y20 y21 : Bool) (y22 : List Bool) (y23 y24 : Int) (y25 : Int × Int × Int × Int × Int × Int × Bool × Int × Unit) (y26 : List (Int × Int × Int × Int × Int × Int × Bool × Int × Unit) × List (Int × Int × Int × Int × Int × List Int × Int × Unit) × Int × Bool × Unit) => Sp.L_5_0 m y18 y19 y20 y22 y23 (IntKind.wrap IntKind.i64 (y24 + (1 : Int))) y25 ((Sp.v_20 y26 (0 : Int) y21 (List.replicate (Int.toNat (if (if (8 : Int) < y25.2.2.2.2.2.2.2.1 then (8 : Int) else y25.2.2.2.2.2.2.2.1) > (0 : Int) then if (8 : Int) < y25.2.2.2.2.2.2.2.1 then (8 : Int) else y25.2.2.2.2.2.2.2.1 else (0 : Int))) (0 : Int))).1) else Sp.B_5_1 (Sp.J_5_1 (0 : Int) (IntKind.wrap IntKind.i64 (p1 + (1 : Int))) p2 (List.getD p3 (Int.toNat p5) false) p3 p4 p5 p6 p7) (some (Sp.E_5_0.e0)) fun (y27 y28 : Int) (y29 y30 : Bool) (y31 : List Bool) (y32 y33 : Int) (y34 : Int × Int × Int × Int × Int × Int × Bool × Int × Unit) (y35 : List (Int × Int × Int × Int × Int × Int × Bool × Int × Unit) × List (Int × Int × Int × Int × Int × List Int × Int × Unit) × Int × Bool × Unit) => Sp.L_5_0 m y27 y28 y29 y31 y32 (IntKind.wrap IntKind.i64 (y33 + (1 : Int))) y34 ((Sp.v_20 y35 (0 : Int) y30 (List.replicate (Int.toNat (if (if (8 : Int) < y34.2.2.2.2.2.2.2.1 then (8 : Int) else y34.2.2.2.2.2.2.2.1) > (0 : Int) then if (8 : Int) < y34.2.2.2.2.2.2.2.1 then (8 : Int) else y34.2.2.2.2.2.2.2.1 else (0 : Int))) (0 : Int))).1)) else some (Sp.E_5_0.e1)
def G_5_0 {R : Type} (p0 : Int) (p1 : Int) (p2 : Bool) (p3 : List Bool) (p4 : Int) (p5 : Int) (p6 : Zt5_3) (p7 : Zt5_1) (k : Ex → St → Option R) : Option R := Sp.B_5_0 (Sp.L_5_0 FU p0 p1 p2 p3 p4 p5 p6 p7) (k Ex.ret (X_5_0_0)) (k (Ex.exit (0 : Nat)) (X_5_0_1))
def o_5_0 {R : Type} (G : (Int) → (Int) → (Bool) → (List Bool) → (Int) → (Int) → (Zt5_3) → (Zt5_1) → (Ex → St → Option R) → Option R) : St → (Ex → St → Option R) → Option R := fun T k => match T.sl.getD 2 .junk, T.sl.getD 5 .junk, T.sl.getD 8 .junk, T.sl.getD 9 .junk, T.sl.getD 10 .junk, T.sl.getD 40 .junk, T.sl.getD 41 .junk, T.sl.getD 42 .junk, T.hp with
  | CV.ptr (0 : Nat) [], CV.ptr (1 : Nat) [], CV.int IntKind.i64 p0, CV.int IntKind.i64 p1, CV.bool p2, CV.pure (Ty.slice Ty.bool) p3, CV.int IntKind.i64 p4, CV.int IntKind.i64 p5, ((Blk.mem (CV.pure (Ty.pair (Ty.int IntKind.i64) (Ty.pair (Ty.int IntKind.i64) (Ty.pair (Ty.int IntKind.i64) (Ty.pair (Ty.int IntKind.i64) (Ty.pair (Ty.int IntKind.i64) (Ty.pair (Ty.int IntKind.i64) (Ty.pair Ty.bool (Ty.pair (Ty.int IntKind.i64) Ty.unit)))))))) p6)) :: (Blk.mem (CV.pure (Ty.pair (Ty.slice (Ty.pair (Ty.int IntKind.i64) (Ty.pair (Ty.int IntKind.i64) (Ty.pair (Ty.int IntKind.i64) (Ty.pair (Ty.int IntKind.i64) (Ty.pair (Ty.int IntKind.i64) (Ty.pair (Ty.int IntKind.i64) (Ty.pair Ty.bool (Ty.pair (Ty.int IntKind.i64) Ty.unit))))))))) (Ty.pair (Ty.slice (Ty.pair (Ty.int IntKind.i64) (Ty.pair (Ty.int IntKind.i64) (Ty.pair (Ty.int IntKind.i64) (Ty.pair (Ty.int IntKind.i64) (Ty.pair (Ty.int IntKind.i64) (Ty.pair (Ty.slice (Ty.int IntKind.i64)) (Ty.pair (Ty.int IntKind.i64) Ty.unit)))))))) (Ty.pair (Ty.int IntKind.i64) (Ty.pair Ty.bool Ty.unit)))) p7)) :: []) => gd (shapeOK T 90 [2, 5, 8, 9, 10, 40, 41, 42] (0 : Nat)) (G p0 p1 p2 p3 p4 p5 p6 p7 k)
  | _, _, _, _, _, _, _, _, _ => none
theorem o_5_0_inv {R : Type} {G : (Int) → (Int) → (Bool) → (List Bool) → (Int) → (Int) → (Zt5_3) → (Zt5_1) → (Ex → St → Option R) → Option R} {T : St} {k : Ex → St → Option R} {r : R} (h : o_5_0 G T k = some r) : ∃ p0 p1 p2 p3 p4 p5 p6 p7, T = T_5_0 p0 p1 p2 p3 p4 p5 p6 p7 ∧ G p0 p1 p2 p3 p4 p5 p6 p7 k = some r := by
  unfold o_5_0 at h
  split at h
  · obtain ⟨hs, h'⟩ := gd_some h
    refine ⟨_, _, _, _, _, _, _, _, (st_of (asg := [(2, _), (5, _), (8, _), (9, _), (10, _), (40, _), (41, _), (42, _)]) hs ⟨by assumption, by assumption, by assumption, by assumption, by assumption, by assumption, by assumption, by assumption, trivial⟩ (by assumption)).trans ?_, h'⟩
    kernel_rfl
  · cases h
def O_5_5_3 {R : Type} : St → (Ex → St → Option R) → Option R := fun T k => o_5_3 G_5_3 T k
def O_5_5_2 {R : Type} : St → (Ex → St → Option R) → Option R := fun T k => o_5_2 G_5_2 T k
def O_5_5_1 {R : Type} : St → (Ex → St → Option R) → Option R := fun T k => o_5_1 G_5_1 T k
def O_5_5_0 {R : Type} : St → (Ex → St → Option R) → Option R := fun T k => o_5_0 G_5_0 T k
theorem body_5_3 {R : Type} (K1 : Ex → St → Option R) (p0 : Int) (p1 : Int) (p2 : Bool) (p3 : Bool) (p4 : List Bool) (p5 : Int) (p6 : Int) (p7 : Zt5_3) (p8 : Zt5_1) : evJ (evCodeL sm_5 FU (ovr noO (evFn sm_5 fns FU 0)) .nil ir5_b3) (T_5_3 p0 p1 p2 p3 p4 p5 p6 p7 p8) K1 =
  gd (decide ((0 : Int) ≤ if (if (8 : Int) < p7.2.2.2.2.2.2.2.1 then (8 : Int) else p7.2.2.2.2.2.2.2.1) > (0 : Int) then if (8 : Int) < p7.2.2.2.2.2.2.2.1 then (8 : Int) else p7.2.2.2.2.2.2.2.1 else (0 : Int)) && (((if (if (8 : Int) < p7.2.2.2.2.2.2.2.1 then (8 : Int) else p7.2.2.2.2.2.2.2.1) > (0 : Int) then if (8 : Int) < p7.2.2.2.2.2.2.2.1 then (8 : Int) else p7.2.2.2.2.2.2.2.1 else (0 : Int)) == if (if (8 : Int) < p7.2.2.2.2.2.2.2.1 then (8 : Int) else p7.2.2.2.2.2.2.2.1) > (0 : Int) then if (8 : Int) < p7.2.2.2.2.2.2.2.1 then (8 : Int) else p7.2.2.2.2.2.2.2.1 else (0 : Int)) && room (Int.toNat (if (if (8 : Int) < p7.2.2.2.2.2.2.2.1 then (8 : Int) else p7.2.2.2.2.2.2.2.1) > (0 : Int) then if (8 : Int) < p7.2.2.2.2.2.2.2.1 then (8 : Int) else p7.2.2.2.2.2.2.2.1 else (0 : Int))) (8 : Nat))) (gd (Sp.p_20 p8 (0 : Int) p3 (List.replicate (Int.toNat (if (if (8 : Int) < p7.2.2.2.2.2.2.2.1 then (8 : Int) else p7.2.2.2.2.2.2.2.1) > (0 : Int) then if (8 : Int) < p7.2.2.2.2.2.2.2.1 then (8 : Int) else p7.2.2.2.2.2.2.2.1 else (0 : Int))) (0 : Int))) (bif (Sp.v_20 p8 (0 : Int) p3 (List.replicate (Int.toNat (if (if (8 : Int) < p7.2.2.2.2.2.2.2.1 then (8 : Int) else p7.2.2.2.2.2.2.2.1) > (0 : Int) then if (8 : Int) < p7.2.2.2.2.2.2.2.1 then (8 : Int) else p7.2.2.2.2.2.2.2.1 else (0 : Int))) (0 : Int))).2.1 != (0 : Int) then K1 Ex.ret X_5_3_0 else bif (↑(List.length ((Sp.v_20 p8 (0 : Int) p3 (List.replicate (Int.toNat (if (if (8 : Int) < p7.2.2.2.2.2.2.2.1 then (8 : Int) else p7.2.2.2.2.2.2.2.1) > (0 : Int) then if (8 : Int) < p7.2.2.2.2.2.2.2.1 then (8 : Int) else p7.2.2.2.2.2.2.2.1 else (0 : Int))) (0 : Int))).1.2.1)) : Int) != (1 : Int) then K1 Ex.ret X_5_3_0 else gd (inB (0 : Int) (List.length ((Sp.v_20 p8 (0 : Int) p3 (List.replicate (Int.toNat (if (if (8 : Int) < p7.2.2.2.2.2.2.2.1 then (8 : Int) else p7.2.2.2.2.2.2.2.1) > (0 : Int) then if (8 : Int) < p7.2.2.2.2.2.2.2.1 then (8 : Int) else p7.2.2.2.2.2.2.2.1 else (0 : Int))) (0 : Int))).1.2.1))) (bif !(Sp.andI IntKind.i64 ((List.getD ((Sp.v_20 p8 (0 : Int) p3 (List.replicate (Int.toNat (if (if (8 : Int) < p7.2.2.2.2.2.2.2.1 then (8 : Int) else p7.2.2.2.2.2.2.2.1) > (0 : Int) then if (8 : Int) < p7.2.2.2.2.2.2.2.1 then (8 : Int) else p7.2.2.2.2.2.2.2.1 else (0 : Int))) (0 : Int))).1.2.1) (0 : Nat) (Ty.dflt Zy5_2)).1) (1 : Int) != (0 : Int)) == p2 then K1 Ex.ret X_5_3_0 else K1 Ex.normal (X_5_3_1 p0 p1 p2 p3 p4 p5 p6 p7 p8)))) := by kernel_rfl
theorem Bgd_5_3 {R : Type} {c : Bool} {x : Option R} {y : Option Sp.E_5_3} {k0 : Option R} {k1 : (Int) → (Int) → (Bool) → (Bool) → (List Bool) → (Int) → (Int) → (Zt5_3) → (Zt5_1) → Option R} (h : x = Sp.B_5_3 y k0 k1) : gd c x = Sp.B_5_3 (gd c y) k0 k1 := by cases c; rfl; exact h
theorem Bcond_5_3 {R : Type} {c : Bool} {x x' : Option R} {y y' : Option Sp.E_5_3} {k0 : Option R} {k1 : (Int) → (Int) → (Bool) → (Bool) → (List Bool) → (Int) → (Int) → (Zt5_3) → (Zt5_1) → Option R} (h : x = Sp.B_5_3 y k0 k1) (h' : x' = Sp.B_5_3 y' k0 k1) : (bif c then x else x') = Sp.B_5_3 (bif c then y else y') k0 k1 := by cases c; exact h'; exact h
theorem loop_5_3 {R : Type} (k : Ex → St → Option R) (p0 : Int) (p1 : Int) (p2 : Bool) (p3 : Bool) (p4 : List Bool) (p5 : Int) (p6 : Int) (p7 : Zt5_3) (p8 : Zt5_1) : evJ (evCodeL sm_5 FU (ovr noO (evFn sm_5 fns FU 0)) .nil ir5_b3) (T_5_3 p0 p1 p2 p3 p4 p5 p6 p7 p8) k = Sp.B_5_3 (Sp.J_5_3 p0 p1 p2 p3 p4 p5 p6 p7 p8) (k Ex.ret (X_5_3_0)) (fun p0 p1 p2 p3 p4 p5 p6 p7 p8 => k Ex.normal (X_5_3_1 p0 p1 p2 p3 p4 p5 p6 p7 p8)) := by
  rw [body_5_3, Sp.J_5_3]
  repeat' first | apply Bgd_5_3 | apply Bcond_5_3 | rfl
theorem ok_5_3 {R : Type} (T : St) (k : Ex → St → Option R) (r : R) (h0 : o_5_3 G_5_3 T k = some r) : evCode sm_5 FU (evFn sm_5 fns FU 0) ir5_b3 T k = some r := by
  obtain ⟨p0, p1, p2, p3, p4, p5, p6, p7, p8, rfl, h⟩ := o_5_3_inv h0
  refine bodyL_sound (t := .nil) noO_ok trivial (((show ∀ (b : St → (Ex → St → Option R) → Option R) (T : St) (k : Ex → St → Option R), b T k = evJ b T k from fun _ _ _ => rfl) _ _ _).trans ((loop_5_3 k p0 p1 p2 p3 p4 p5 p6 p7 p8).trans h))
theorem OK_5_5_3 {R : Type} (T : St) (k : Ex → St → Option R) (r : R) (h : O_5_5_3 T k = some r) : evCode sm_5 FU (evFn sm_5 fns FU 0) ir5_b3 T k = some r := ok_5_3 T k r h
theorem body_5_2 {R : Type} (K1 : Ex → St → Option R) (p0 : Int) (p1 : Int) (p2 : Bool) (p3 : Bool) (p4 : List Bool) (p5 : Int) (p6 : Int) (p7 : Zt5_3) (p8 : Zt5_1) : evJ (evCodeL sm_5 FU (ovr noO (evFn sm_5 fns FU 0)) (ir5_bt2 O_5_5_3) ir5_b2) (T_5_2 p0 p1 p2 p3 p4 p5 p6 p7 p8) K1 =
  bif decide (p1 ≥ p7.2.2.1) then Sp.B_5_3 (Sp.J_5_3 p0 p1 false p3 p4 p5 p6 p7 p8) (K1 Ex.ret X_5_2_0) fun (y20 y21 : Int) (y22 y23 : Bool) (y24 : List Bool) (y25 y26 : Int) (y27 : Zt5_3) (y28 : Zt5_1) => K1 Ex.normal (X_5_2_1 y20 y21 y22 y23 y24 y25 y26 y27 y28) else Sp.B_5_3 (Sp.J_5_3 p0 p1 p2 p3 p4 p5 p6 p7 p8) (K1 Ex.ret X_5_2_0) fun (y29 y30 : Int) (y31 y32 : Bool) (y33 : List Bool) (y34 y35 : Int) (y36 : Zt5_3) (y37 : Zt5_1) => K1 Ex.normal (X_5_2_1 y29 y30 y31 y32 y33 y34 y35 y36 y37) := by kernel_rfl
theorem Bgd_5_2 {R : Type} {c : Bool} {x : Option R} {y : Option Sp.E_5_2} {k0 : Option R} {k1 : (Int) → (Int) → (Bool) → (Bool) → (List Bool) → (Int) → (Int) → (Zt5_3) → (Zt5_1) → Option R} (h : x = Sp.B_5_2 y k0 k1) : gd c x = Sp.B_5_2 (gd c y) k0 k1 := by cases c; rfl; exact h
theorem Bcond_5_2 {R : Type} {c : Bool} {x x' : Option R} {y y' : Option Sp.E_5_2} {k0 : Option R} {k1 : (Int) → (Int) → (Bool) → (Bool) → (List Bool) → (Int) → (Int) → (Zt5_3) → (Zt5_1) → Option R} (h : x = Sp.B_5_2 y k0 k1) (h' : x' = Sp.B_5_2 y' k0 k1) : (bif c then x else x') = Sp.B_5_2 (bif c then y else y') k0 k1 := by cases c; exact h'; exact h
theorem Bin_5_2_5_3 {R : Type} {r : Option Sp.E_5_3} {k0 : Option R} {k1 : (Int) → (Int) → (Bool) → (Bool) → (List Bool) → (Int) → (Int) → (Zt5_3) → (Zt5_1) → Option R} {f0 : Option R} {f1 : (Int) → (Int) → (Bool) → (Bool) → (List Bool) → (Int) → (Int) → (Zt5_3) → (Zt5_1) → Option R} {g0 : Option Sp.E_5_2} {g1 : (Int) → (Int) → (Bool) → (Bool) → (List Bool) → (Int) → (Int) → (Zt5_3) → (Zt5_1) → Option Sp.E_5_2} (h0 : f0 = Sp.B_5_2 g0 k0 k1) (h1 : ∀ z0 z1 z2 z3 z4 z5 z6 z7 z8, f1 z0 z1 z2 z3 z4 z5 z6 z7 z8 = Sp.B_5_2 (g1 z0 z1 z2 z3 z4 z5 z6 z7 z8) k0 k1) : Sp.B_5_3 r f0 f1 = Sp.B_5_2 (Sp.B_5_3 r g0 g1) k0 k1 := by
  cases r with
  | none => rfl
  | some e => cases e with
    | e0 => exact h0
    | e1 z0 z1 z2 z3 z4 z5 z6 z7 z8 => exact h1 _ _ _ _ _ _ _ _ _
theorem loop_5_2 {R : Type} (k : Ex → St → Option R) (p0 : Int) (p1 : Int) (p2 : Bool) (p3 : Bool) (p4 : List Bool) (p5 : Int) (p6 : Int) (p7 : Zt5_3) (p8 : Zt5_1) : evJ (evCodeL sm_5 FU (ovr noO (evFn sm_5 fns FU 0)) (ir5_bt2 O_5_5_3) ir5_b2) (T_5_2 p0 p1 p2 p3 p4 p5 p6 p7 p8) k = Sp.B_5_2 (Sp.J_5_2 p0 p1 p2 p3 p4 p5 p6 p7 p8) (k Ex.ret (X_5_2_0)) (fun y20 y21 y22 y23 y24 y25 y26 y27 y28 => k Ex.normal (X_5_2_1 y20 y21 y22 y23 y24 y25 y26 y27 y28)) := by
  rw [body_5_2, Sp.J_5_2]
  repeat' first | apply Bgd_5_2 | apply Bcond_5_2 | (apply Bin_5_2_5_3 <;> intros) | rfl
theorem ok_5_2 {R : Type} (T : St) (k : Ex → St → Option R) (r : R) (h0 : o_5_2 G_5_2 T k = some r) : evCode sm_5 FU (evFn sm_5 fns FU 0) ir5_b2 T k = some r := by
  obtain ⟨p0, p1, p2, p3, p4, p5, p6, p7, p8, rfl, h⟩ := o_5_2_inv h0
  refine bodyL_sound (t := (ir5_bt2 O_5_5_3)) noO_ok (ir5_bt2ok (fun T k r => OK_5_5_3 T k r)) (((show ∀ (b : St → (Ex → St → Option R) → Option R) (T : St) (k : Ex → St → Option R), b T k = evJ b T k from fun _ _ _ => rfl) _ _ _).trans ((loop_5_2 k p0 p1 p2 p3 p4 p5 p6 p7 p8).trans h))
theorem OK_5_5_2 {R : Type} (T : St) (k : Ex → St → Option R) (r : R) (h : O_5_5_2 T k = some r) : evCode sm_5 FU (evFn sm_5 fns FU 0) ir5_b2 T k = some r := ok_5_2 T k r h
theorem body_5_1 {R : Type} (K1 : Ex → St → Option R) (p0 : Int) (p1 : Int) (p2 : Bool) (p3 : Bool) (p4 : List Bool) (p5 : Int) (p6 : Int) (p7 : Zt5_3) (p8 : Zt5_1) : evJ (evCodeL sm_5 FU (ovr noO (evFn sm_5 fns FU 0)) (ir5_bt1 O_5_5_2) ir5_b1) (T_5_1 p0 p1 p2 p3 p4 p5 p6 p7 p8) K1 =
  bif decide (p0 ≥ p7.2.1) then Sp.B_5_2 (Sp.J_5_2 p0 p1 true p3 p4 p5 p6 p7 p8) (K1 Ex.ret X_5_1_0) fun (y20 y21 : Int) (y22 y23 : Bool) (y24 : List Bool) (y25 y26 : Int) (y27 : Zt5_3) (y28 : Zt5_1) => K1 Ex.normal (X_5_1_1 y20 y21 y22 y23 y24 y25 y26 y27 y28) else Sp.B_5_2 (Sp.J_5_2 p0 p1 p2 p3 p4 p5 p6 p7 p8) (K1 Ex.ret X_5_1_0) fun (y29 y30 : Int) (y31 y32 : Bool) (y33 : List Bool) (y34 y35 : Int) (y36 : Zt5_3) (y37 : Zt5_1) => K1 Ex.normal (X_5_1_1 y29 y30 y31 y32 y33 y34 y35 y36 y37) := by kernel_rfl
theorem Bgd_5_1 {R : Type} {c : Bool} {x : Option R} {y : Option Sp.E_5_1} {k0 : Option R} {k1 : (Int) → (Int) → (Bool) → (Bool) → (List Bool) → (Int) → (Int) → (Zt5_3) → (Zt5_1) → Option R} (h : x = Sp.B_5_1 y k0 k1) : gd c x = Sp.B_5_1 (gd c y) k0 k1 := by cases c; rfl; exact h
theorem Bcond_5_1 {R : Type} {c : Bool} {x x' : Option R} {y y' : Option Sp.E_5_1} {k0 : Option R} {k1 : (Int) → (Int) → (Bool) → (Bool) → (List Bool) → (Int) → (Int) → (Zt5_3) → (Zt5_1) → Option R} (h : x = Sp.B_5_1 y k0 k1) (h' : x' = Sp.B_5_1 y' k0 k1) : (bif c then x else x') = Sp.B_5_1 (bif c then y else y') k0 k1 := by cases c; exact h'; exact h
theorem Bin_5_1_5_2 {R : Type} {r : Option Sp.E_5_2} {k0 : Option R} {k1 : (Int) → (Int) → (Bool) → (Bool) → (List Bool) → (Int) → (Int) → (Zt5_3) → (Zt5_1) → Option R} {f0 : Option R} {f1 : (Int) → (Int) → (Bool) → (Bool) → (List Bool) → (Int) → (Int) → (Zt5_3) → (Zt5_1) → Option R} {g0 : Option Sp.E_5_1} {g1 : (Int) → (Int) → (Bool) → (Bool) → (List Bool) → (Int) → (Int) → (Zt5_3) → (Zt5_1) → Option Sp.E_5_1} (h0 : f0 = Sp.B_5_1 g0 k0 k1) (h1 : ∀ z0 z1 z2 z3 z4 z5 z6 z7 z8, f1 z0 z1 z2 z3 z4 z5 z6 z7 z8 = Sp.B_5_1 (g1 z0 z1 z2 z3 z4 z5 z6 z7 z8) k0 k1) : Sp.B_5_2 r f0 f1 = Sp.B_5_1 (Sp.B_5_2 r g0 g1) k0 k1 := by
  cases r with
  | none => rfl
  | some e => cases e with
    | e0 => exact h0
    | e1 z0 z1 z2 z3 z4 z5 z6 z7 z8 => exact h1 _ _ _ _ _ _ _ _ _
theorem loop_5_1 {R : Type} (k : Ex → St → Option R) (p0 : Int) (p1 : Int) (p2 : Bool) (p3 : Bool) (p4 : List Bool) (p5 : Int) (p6 : Int) (p7 : Zt5_3) (p8 : Zt5_1) : evJ (evCodeL sm_5 FU (ovr noO (evFn sm_5 fns FU 0)) (ir5_bt1 O_5_5_2) ir5_b1) (T_5_1 p0 p1 p2 p3 p4 p5 p6 p7 p8) k = Sp.B_5_1 (Sp.J_5_1 p0 p1 p2 p3 p4 p5 p6 p7 p8) (k Ex.ret (X_5_1_0)) (fun y20 y21 y22 y23 y24 y25 y26 y27 y28 => k Ex.normal (X_5_1_1 y20 y21 y22 y23 y24 y25 y26 y27 y28)) := by
  rw [body_5_1, Sp.J_5_1]
  repeat' first | apply Bgd_5_1 | apply Bcond_5_1 | (apply Bin_5_1_5_2 <;> intros) | rfl
theorem ok_5_1 {R : Type} (T : St) (k : Ex → St → Option R) (r : R) (h0 : o_5_1 G_5_1 T k = some r) : evCode sm_5 FU (evFn sm_5 fns FU 0) ir5_b1 T k = some r := by
  obtain ⟨p0, p1, p2, p3, p4, p5, p6, p7, p8, rfl, h⟩ := o_5_1_inv h0
  refine bodyL_sound (t := (ir5_bt1 O_5_5_2)) noO_ok (ir5_bt1ok (fun T k r => OK_5_5_2 T k r)) (((show ∀ (b : St → (Ex → St → Option R) → Option R) (T : St) (k : Ex → St → Option R), b T k = evJ b T k from fun _ _ _ => rfl) _ _ _).trans ((loop_5_1 k p0 p1 p2 p3 p4 p5 p6 p7 p8).trans h))
theorem OK_5_5_1 {R : Type} (T : St) (k : Ex → St → Option R) (r : R) (h : O_5_5_1 T k = some r) : evCode sm_5 FU (evFn sm_5 fns FU 0) ir5_b1 T k = some r := ok_5_1 T k r h
theorem body_5_0 {R : Type} (K0 : St → Option R) (K1 : Ex → St → Option R) (p0 : Int) (p1 : Int) (p2 : Bool) (p3 : List Bool) (p4 : Int) (p5 : Int) (p6 : Zt5_3) (p7 : Zt5_1) : evLB (evCodeL sm_5 FU (ovr noO (evFn sm_5 fns FU 0)) (ir5_bt0 O_5_5_1) ir5_b0) (St.norm ir5_v0) (T_5_0 p0 p1 p2 p3 p4 p5 p6 p7) K0 K1 =
  bif decide (p5 < p4) then gd (inB p5 (List.length p3)) (bif List.getD p3 (Int.toNat p5) false then Sp.B_5_1 (Sp.J_5_1 (IntKind.wrap IntKind.i64 (p0 + (1 : Int))) (0 : Int) p2 (List.getD p3 (Int.toNat p5) false) p3 p4 p5 p6 p7) (K1 Ex.ret X_5_0_0) fun (y18 y19 : Int) (y20 y21 : Bool) (y22 : List Bool) (y23 y24 : Int) (y25 : Zt5_3) (y26 : Zt5_1) => K0 (T_5_0 y18 y19 y20 y22 y23 (IntKind.wrap IntKind.i64 (y24 + (1 : Int))) y25 ((Sp.v_20 y26 (0 : Int) y21 (List.replicate (Int.toNat (if (if (8 : Int) < y25.2.2.2.2.2.2.2.1 then (8 : Int) else y25.2.2.2.2.2.2.2.1) > (0 : Int) then if (8 : Int) < y25.2.2.2.2.2.2.2.1 then (8 : Int) else y25.2.2.2.2.2.2.2.1 else (0 : Int))) (0 : Int))).1)) else Sp.B_5_1 (Sp.J_5_1 (0 : Int) (IntKind.wrap IntKind.i64 (p1 + (1 : Int))) p2 (List.getD p3 (Int.toNat p5) false) p3 p4 p5 p6 p7) (K1 Ex.ret X_5_0_0) fun (y27 y28 : Int) (y29 y30 : Bool) (y31 : List Bool) (y32 y33 : Int) (y34 : Zt5_3) (y35 : Zt5_1) => K0 (T_5_0 y27 y28 y29 y31 y32 (IntKind.wrap IntKind.i64 (y33 + (1 : Int))) y34 ((Sp.v_20 y35 (0 : Int) y30 (List.replicate (Int.toNat (if (if (8 : Int) < y34.2.2.2.2.2.2.2.1 then (8 : Int) else y34.2.2.2.2.2.2.2.1) > (0 : Int) then if (8 : Int) < y34.2.2.2.2.2.2.2.1 then (8 : Int) else y34.2.2.2.2.2.2.2.1 else (0 : Int))) (0 : Int))).1))) else K1 (Ex.exit (0 : Nat)) X_5_0_1 := by kernel_rfl
theorem Bgd_5_0 {R : Type} {c : Bool} {x : Option R} {y : Option Sp.E_5_0} {k0 : Option R} {k1 : Option R} (h : x = Sp.B_5_0 y k0 k1) : gd c x = Sp.B_5_0 (gd c y) k0 k1 := by cases c; rfl; exact h
theorem Bcond_5_0 {R : Type} {c : Bool} {x x' : Option R} {y y' : Option Sp.E_5_0} {k0 : Option R} {k1 : Option R} (h : x = Sp.B_5_0 y k0 k1) (h' : x' = Sp.B_5_0 y' k0 k1) : (bif c then x else x') = Sp.B_5_0 (bif c then y else y') k0 k1 := by cases c; exact h'; exact h
theorem Bin_5_0_5_1 {R : Type} {r : Option Sp.E_5_1} {k0 : Option R} {k1 : Option R} {f0 : Option R} {f1 : (Int) → (Int) → (Bool) → (Bool) → (List Bool) → (Int) → (Int) → (Zt5_3) → (Zt5_1) → Option R} {g0 : Option Sp.E_5_0} {g1 : (Int) → (Int) → (Bool) → (Bool) → (List Bool) → (Int) → (Int) → (Zt5_3) → (Zt5_1) → Option Sp.E_5_0} (h0 : f0 = Sp.B_5_0 g0 k0 k1) (h1 : ∀ z0 z1 z2 z3 z4 z5 z6 z7 z8, f1 z0 z1 z2 z3 z4 z5 z6 z7 z8 = Sp.B_5_0 (g1 z0 z1 z2 z3 z4 z5 z6 z7 z8) k0 k1) : Sp.B_5_1 r f0 f1 = Sp.B_5_0 (Sp.B_5_1 r g0 g1) k0 k1 := by
  cases r with
  | none => rfl
  | some e => cases e with
    | e0 => exact h0
    | e1 z0 z1 z2 z3 z4 z5 z6 z7 z8 => exact h1 _ _ _ _ _ _ _ _ _
theorem loop_5_0 {R : Type} (k : Ex → St → Option R) : ∀ (m : Nat) (p0 : Int) (p1 : Int) (p2 : Bool) (p3 : List Bool) (p4 : Int) (p5 : Int) (p6 : Zt5_3) (p7 : Zt5_1), evLoopN (evCodeL sm_5 FU (ovr noO (evFn sm_5 fns FU 0)) (ir5_bt0 O_5_5_1) ir5_b0) (St.norm ir5_v0) m (T_5_0 p0 p1 p2 p3 p4 p5 p6 p7) k = Sp.B_5_0 (Sp.L_5_0 m p0 p1 p2 p3 p4 p5 p6 p7) (k Ex.ret (X_5_0_0)) (k (Ex.exit (0 : Nat)) (X_5_0_1))
  | 0, _, _, _, _, _, _, _, _ => rfl
  | m + 1, p0, p1, p2, p3, p4, p5, p6, p7 => by
    rw [evLoopN_succ, body_5_0, Sp.L_5_0]
    repeat' first | apply Bgd_5_0 | apply Bcond_5_0 | (apply Bin_5_0_5_1 <;> intros) | exact loop_5_0 k m _ _ _ _ _ _ _ _ | rfl
theorem ok_5_0 {R : Type} (T : St) (k : Ex → St → Option R) (r : R) (h0 : o_5_0 G_5_0 T k = some r) : evLoopN (evCode sm_5 FU (evFn sm_5 fns FU 0) ir5_b0) (St.norm ir5_v0) FU T k = some r := by
  obtain ⟨p0, p1, p2, p3, p4, p5, p6, p7, rfl, h⟩ := o_5_0_inv h0
  refine evLoopN_L (t := (ir5_bt0 O_5_5_1)) noO_ok (ir5_bt0ok (fun T k r => OK_5_5_1 T k r)) _ _ _ _ ?_
  rw [loop_5_0]
  exact h
theorem OK_5_5_0 {R : Type} (T : St) (k : Ex → St → Option R) (r : R) (h : O_5_5_0 T k = some r) : evLoopN (evCode sm_5 FU (evFn sm_5 fns FU 0) ir5_b0) (St.norm ir5_v0) FU T k = some r := ok_5_0 T k r h
def F_5 (a0 : (Int × (Int × (Int × (Int × (Int × (Int × (Bool × (Int × Unit))))))))) (a1 : (List Bool)) : Option (Bool) :=
  gd Sp.p_8 (bif !Sp.v_8.1 then some false else bif decide ((↑(List.length a1) : Int) > (300 : Int)) then some true else gd (Sp.p_9 a0) (bif !(Sp.v_9 a0).1 then some true else gd (Sp.p_11 [a0]) (gd (Sp.p_19 ((Sp.v_11 [a0]).1)) (bif (Sp.v_11 [a0]).2.1 != (0 : Int) then some false else bif (Sp.v_19 ((Sp.v_11 [a0]).1)).2.1 != (0 : Int) then some false else Sp.B_5_0 (Sp.L_5_0 (4611686018427387904 : Nat) (0 : Int) (0 : Int) false a1 (↑(List.length a1) : Int) (0 : Int) a0 ((Sp.v_19 ((Sp.v_11 [a0]).1)).1)) (some false) (some true)))))
theorem fn_5 (a0 : (Int × (Int × (Int × (Int × (Int × (Int × (Bool × (Int × Unit))))))))) (a1 : (List Bool)) : evFnL sm_5 FU (ovr noO (evFn sm_5 fns FU 0)) (ir5_t O_5_5_0) ir5 (ofH [Zy5_8, (.slice .bool)] (a0, a1, ())) [] bk = F_5 a0 a1 := by kernel_rfl
theorem run_5 (a0 : (Int × (Int × (Int × (Int × (Int × (Int × (Bool × (Int × Unit))))))))) (a1 : (List Bool)) {b : Bool} (h : F_5 a0 a1 = some b) : evFn sm_5 fns FU 1 5 (ofH [Zy5_8, (.slice .bool)] (a0, a1, ())) [] bk = some b :=
  evFnL_sound (fn := ir5) (t := (ir5_t O_5_5_0)) (o := noO) rfl noO_ok (ir5_tok (fun T k r => OK_5_5_0 T k r)) ((fn_5 _ _).trans h)
end
end Go.Ev
namespace Go.Proofs
open Go.Shelf
def Try.clone30_ren : Go.Shelf.Ren := ⟨fun | 41 => 30 | n => n, fun | 22 => 24 | 23 => 23 | 4 => 4 | n => n, fun | n => n⟩
theorem Try.clone30 : Go.Proofs.SlLaysE0.n41 Try.prog Try.clone30_ren := {
  mixed := by kernel_rfl
  f41 := ⟨Try.f30.name, by decide, Try.func30.trans (congrArg some (by kernel_rfl))⟩
  t4 := Try.underlying4
  a4 := Try.isAgg4
  z4 := Try.sizeOf4
  v4 := Try.zeroValue4
  t22 := Try.underlying24
  a22 := Try.isAgg24
  z22 := Try.sizeOf24
  v22 := Try.zeroValue24 }
def Try.clone46_ren : Go.Shelf.Ren := ⟨fun | 41 => 46 | n => n, fun | 22 => 27 | 23 => 46 | 4 => 4 | n => n, fun | n => n⟩
theorem Try.clone46 : Go.Proofs.SlLaysE0.n41 Try.prog Try.clone46_ren := {
  mixed := by kernel_rfl
  f41 := ⟨Try.f46.name, by decide, Try.func46.trans (congrArg some (by kernel_rfl))⟩
  t4 := Try.underlying4
  a4 := Try.isAgg4
  z4 := Try.sizeOf4
  v4 := Try.zeroValue4
  t22 := Try.underlying27
  a22 := Try.isAgg27
  z22 := Try.sizeOf27
  v22 := Try.zeroValue27 }
def Try.clone47_ren : Go.Shelf.Ren := ⟨fun | 41 => 47 | n => n, fun | 22 => 44 | 23 => 3 | 4 => 4 | n => n, fun | n => n⟩
theorem Try.clone47 : Go.Proofs.SlLaysE0.n41 Try.prog Try.clone47_ren := {
  mixed := by kernel_rfl
  f41 := ⟨Try.f47.name, by decide, Try.func47.trans (congrArg some (by kernel_rfl))⟩
  t4 := Try.underlying4
  a4 := Try.isAgg4
  z4 := Try.sizeOf4
  v4 := Try.zeroValue4
  t22 := Try.underlying44
  a22 := Try.isAgg44
  z22 := Try.sizeOf44
  v22 := Try.zeroValue44 }
end Go.Proofs
namespace Go.Ev
open Go Go.Proofs Go.RowKit
set_option maxRecDepth 100000
set_option maxHeartbeats 4000000
def smB : Nat → Bool := fun f => [8, 9, 10, 11, 12, 13, 14, 15, 16, 17, 18, 19, 20, 21, 22, 23, 24, 25, 26, 28, 29, 30, 31, 32, 33, 34, 36, 39, 40, 42, 43, 44, 45, 46, 47, 49, 50].contains f
theorem hm0 : Try.prog.follows .mixedOrders = true := by kernel_rfl
theorem key5 : fnKey Try.prog smB 5 = ir5.key := by kernel_rfl
theorem key8 : fnKey Try.prog smB 8 = ir8.key := by kernel_rfl
theorem key9 : fnKey Try.prog smB 9 = ir9.key := by kernel_rfl
theorem key11 : fnKey Try.prog smB 11 = ir11.key := by kernel_rfl
theorem key15 : fnKey Try.prog smB 15 = ir15.key := by kernel_rfl
theorem key19 : fnKey Try.prog smB 19 = ir19.key := by kernel_rfl
theorem key20 : fnKey Try.prog smB 20 = ir20.key := by kernel_rfl
theorem key21 : fnKey Try.prog smB 21 = ir21.key := by kernel_rfl
theorem key22 : fnKey Try.prog smB 22 = ir22.key := by kernel_rfl
theorem key23 : fnKey Try.prog smB 23 = ir23.key := by kernel_rfl
theorem key24 : fnKey Try.prog smB 24 = ir24.key := by kernel_rfl
theorem key25 : fnKey Try.prog smB 25 = ir25.key := by kernel_rfl
theorem key27 : fnKey Try.prog smB 27 = ir27.key := by kernel_rfl
theorem key28 : fnKey Try.prog smB 28 = ir28.key := by kernel_rfl
theorem key32 : fnKey Try.prog smB 32 = ir32.key := by kernel_rfl
theorem key33 : fnKey Try.prog smB 33 = ir33.key := by kernel_rfl
theorem key35 : fnKey Try.prog smB 35 = ir35.key := by kernel_rfl
theorem key36 : fnKey Try.prog smB 36 = ir36.key := by kernel_rfl
theorem key37 : fnKey Try.prog smB 37 = ir37.key := by kernel_rfl
theorem key38 : fnKey Try.prog smB 38 = ir38.key := by kernel_rfl
theorem key39 : fnKey Try.prog smB 39 = ir39.key := by kernel_rfl
theorem key40 : fnKey Try.prog smB 40 = ir40.key := by kernel_rfl
theorem key41 : fnKey Try.prog smB 41 = ir41.key := by kernel_rfl
theorem key43 : fnKey Try.prog smB 43 = ir43.key := by kernel_rfl
theorem key48 : fnKey Try.prog smB 48 = ir48.key := by kernel_rfl
theorem key49 : fnKey Try.prog smB 49 = ir49.key := by kernel_rfl
theorem key50 : fnKey Try.prog smB 50 = ir50.key := by kernel_rfl
theorem key51 : fnKey Try.prog smB 51 = ir51.key := by kernel_rfl
theorem key52 : fnKey Try.prog smB 52 = ir52.key := by kernel_rfl
theorem fns_ok : FnsOK Try.prog smB fns := by
  intro f fn h
  unfold fns at h
  split at h
  · simp only [Option.some.injEq] at h; subst h; exact key5
  · simp only [Option.some.injEq] at h; subst h; exact key8
  · simp only [Option.some.injEq] at h; subst h; exact key9
  · simp only [Option.some.injEq] at h; subst h; exact key11
  · simp only [Option.some.injEq] at h; subst h; exact key15
  · simp only [Option.some.injEq] at h; subst h; exact key19
  · simp only [Option.some.injEq] at h; subst h; exact key20
  · simp only [Option.some.injEq] at h; subst h; exact key21
  · simp only [Option.some.injEq] at h; subst h; exact key22
  · simp only [Option.some.injEq] at h; subst h; exact key23
  · simp only [Option.some.injEq] at h; subst h; exact key24
  · simp only [Option.some.injEq] at h; subst h; exact key25
  · simp only [Option.some.injEq] at h; subst h; exact key27
  · simp only [Option.some.injEq] at h; subst h; exact key28
  · simp only [Option.some.injEq] at h; subst h; exact key32
  · simp only [Option.some.injEq] at h; subst h; exact key33
  · simp only [Option.some.injEq] at h; subst h; exact key35
  · simp only [Option.some.injEq] at h; subst h; exact key36
  · simp only [Option.some.injEq] at h; subst h; exact key37
  · simp only [Option.some.injEq] at h; subst h; exact key38
  · simp only [Option.some.injEq] at h; subst h; exact key39
  · simp only [Option.some.injEq] at h; subst h; exact key40
  · simp only [Option.some.injEq] at h; subst h; exact key41
  · simp only [Option.some.injEq] at h; subst h; exact key43
  · simp only [Option.some.injEq] at h; subst h; exact key48
  · simp only [Option.some.injEq] at h; subst h; exact key49
  · simp only [Option.some.injEq] at h; subst h; exact key50
  · simp only [Option.some.injEq] at h; subst h; exact key51
  · simp only [Option.some.injEq] at h; subst h; exact key52
  · cases h
theorem info30 : ∃ i, Try.prog.info? 23 = some i ∧ i.zero = some (.agg #[.int .i64 0, .int .i64 0, .int .i64 0, .int .i64 0, .int .i64 0, .int .i64 0, .bool false, .int .i64 0]) ∧ i.size = 8 ∧ i.bytes = 64 := ⟨_, rfl, by kernel_rfl, by kernel_rfl, by kernel_rfl⟩
theorem sok_30 : SummOK Try.prog 30 (vecS (.pair (.int .i64) (.pair (.int .i64) (.pair (.int .i64) (.pair (.int .i64) (.pair (.int .i64) (.pair (.int .i64) (.pair .bool (.pair (.int .i64) .unit)))))))) 23 64) := by
  obtain ⟨i, hi, h0, h1, h2⟩ := info30
  exact clone_vec (by kernel_rfl) (by decide)
    (fun b off n c news w hl hn hb hc h3 => AnyE.slices_Clone Try.clone30 i _ 8 64 hi h0 h1 h2 (by kernel_rfl) (by decide) Try.sizeOf23 b off n c news w hl hn hb hc h3)
    (fun n c w => AnyE.slices_Clone_nil Try.clone30 n c w)
    (fun a c w => clone_zero Try.clone30 i _ 8 64 hi h0 h1 h2 (by kernel_rfl) (by decide) Try.sizeOf23 a c w)
theorem info46 : ∃ i, Try.prog.info? 46 = some i ∧ i.zero = some (.agg #[.int .i64 0, .int .i64 0, .int .i64 0, .int .i64 0, .int .i64 0, .slice none 0 0, .int .i64 0]) ∧ i.size = 7 ∧ i.bytes = 72 := ⟨_, rfl, by kernel_rfl, by kernel_rfl, by kernel_rfl⟩
theorem sok_46 : SummOK Try.prog 46 (vecS (.pair (.int .i64) (.pair (.int .i64) (.pair (.int .i64) (.pair (.int .i64) (.pair (.int .i64) (.pair (.slice (.int .i64)) (.pair (.int .i64) .unit))))))) 46 72) := by
  obtain ⟨i, hi, h0, h1, h2⟩ := info46
  exact clone_vec (by kernel_rfl) (by decide)
    (fun b off n c news w hl hn hb hc h3 => AnyE.slices_Clone Try.clone46 i _ 7 72 hi h0 h1 h2 (by kernel_rfl) (by decide) Try.sizeOf46 b off n c news w hl hn hb hc h3)
    (fun n c w => AnyE.slices_Clone_nil Try.clone46 n c w)
    (fun a c w => clone_zero Try.clone46 i _ 7 72 hi h0 h1 h2 (by kernel_rfl) (by decide) Try.sizeOf46 a c w)
theorem info47 : ∃ i, Try.prog.info? 3 = some i ∧ i.zero = some (.int .i64 0) ∧ i.size = 1 ∧ i.bytes = 8 := ⟨_, rfl, by kernel_rfl, by kernel_rfl, by kernel_rfl⟩
theorem sok_47 : SummOK Try.prog 47 (vecS (.int .i64) 3 8) := by
  obtain ⟨i, hi, h0, h1, h2⟩ := info47
  exact clone_vec (by kernel_rfl) (by decide)
    (fun b off n c news w hl hn hb hc h3 => AnyE.slices_Clone Try.clone47 i _ 1 8 hi h0 h1 h2 (by kernel_rfl) (by decide) Try.sizeOf3 b off n c news w hl hn hb hc h3)
    (fun n c w => AnyE.slices_Clone_nil Try.clone47 n c w)
    (fun a c w => clone_zero Try.clone47 i _ 1 8 hi h0 h1 h2 (by kernel_rfl) (by decide) Try.sizeOf3 a c w)
theorem smok_25 : ∀ f s, sm_25 f = some s → SummOK Try.prog f s := by
  intro f s h
  unfold sm_25 at h
  cases h
theorem call_25 {R : Type} (n base : Nat) : CallOK Try.prog base (evFn (R := R) sm_25 fns FU n) := ev_sound hm0 smok_25 (fun f s h => (smok_25 f s h).2.1) fns_ok n
theorem sok_25 : SummOK Try.prog 25 s_25 := summ_shN (by decide) (fun _ => rfl) (fun _ => rfl) (call_25 1) (by kernel_rfl) run_25
theorem smok_9 : ∀ f s, sm_9 f = some s → SummOK Try.prog f s := by
  intro f s h
  unfold sm_9 at h
  by_cases h25 : f = 25
  · subst h25
    injection h with h
    subst h
    exact sok_25
  rw [nbeq_ne h25, cond_false] at h
  cases h
theorem call_9 {R : Type} (n base : Nat) : CallOK Try.prog base (evFn (R := R) sm_9 fns FU n) := ev_sound hm0 smok_9 (fun f s h => (smok_9 f s h).2.1) fns_ok n
theorem sok_9 : SummOK Try.prog 9 s_9 := summ_shN (by decide) (fun _ => rfl) (fun _ => rfl) (call_9 1) (by kernel_rfl) run_9
theorem smok_11 : ∀ f s, sm_11 f = some s → SummOK Try.prog f s := by
  intro f s h
  unfold sm_11 at h
  by_cases h9 : f = 9
  · subst h9
    injection h with h
    subst h
    exact sok_9
  rw [nbeq_ne h9, cond_false] at h
  by_cases h29 : f = 29
  · subst h29
    injection h with h
    subst h
    exact sok_29
  rw [nbeq_ne h29, cond_false] at h
  by_cases h30 : f = 30
  · subst h30
    injection h with h
    subst h
    exact sok_30
  rw [nbeq_ne h30, cond_false] at h
  cases h
theorem call_11 {R : Type} (n base : Nat) : CallOK Try.prog base (evFn (R := R) sm_11 fns FU n) := ev_sound hm0 smok_11 (fun f s h => (smok_11 f s h).2.1) fns_ok n
theorem sok_11 : SummOK Try.prog 11 s_11 := summ_sh (fun _ => rfl) (fun _ => rfl) (call_11 4) (by kernel_rfl) run_11
theorem smok_50 : ∀ f s, sm_50 f = some s → SummOK Try.prog f s := by
  intro f s h
  unfold sm_50 at h
  by_cases h25 : f = 25
  · subst h25
    injection h with h
    subst h
    exact sok_25
  rw [nbeq_ne h25, cond_false] at h
  cases h
theorem call_50 {R : Type} (n base : Nat) : CallOK Try.prog base (evFn (R := R) sm_50 fns FU n) := ev_sound hm0 smok_50 (fun f s h => (smok_50 f s h).2.1) fns_ok n
theorem sok_50 : SummOK Try.prog 50 s_50 := summ_shN (by decide) (fun _ => rfl) (fun _ => rfl) (call_50 1) (by kernel_rfl) run_50
theorem smok_36 : ∀ f s, sm_36 f = some s → SummOK Try.prog f s := by
  intro f s h
  unfold sm_36 at h
  by_cases h50 : f = 50
  · subst h50
    injection h with h
    subst h
    exact sok_50
  rw [nbeq_ne h50, cond_false] at h
  cases h
theorem call_36 {R : Type} (n base : Nat) : CallOK Try.prog base (evFn (R := R) sm_36 fns FU n) := ev_sound hm0 smok_36 (fun f s h => (smok_36 f s h).2.1) fns_ok n
theorem sok_36 : SummOK Try.prog 36 s_36 := summ_shN (by decide) (fun _ => rfl) (fun _ => rfl) (call_36 4) (by kernel_rfl) run_36
theorem smok_40 : ∀ f s, sm_40 f = some s → SummOK Try.prog f s := by
  intro f s h
  unfold sm_40 at h
  cases h
theorem call_40 {R : Type} (n base : Nat) : CallOK Try.prog base (evFn (R := R) sm_40 fns FU n) := ev_sound hm0 smok_40 (fun f s h => (smok_40 f s h).2.1) fns_ok n
theorem sok_40 : SummOK Try.prog 40 s_40 := summ_shN (by decide) (fun _ => rfl) (fun _ => rfl) (call_40 1) (by kernel_rfl) run_40
theorem smok_43 : ∀ f s, sm_43 f = some s → SummOK Try.prog f s := by
  intro f s h
  unfold sm_43 at h
  cases h
theorem call_43 {R : Type} (n base : Nat) : CallOK Try.prog base (evFn (R := R) sm_43 fns FU n) := ev_sound hm0 smok_43 (fun f s h => (smok_43 f s h).2.1) fns_ok n
theorem sok_43 : SummOK Try.prog 43 s_43 := summ_shN (by decide) (fun _ => rfl) (fun _ => rfl) (call_43 1) (by kernel_rfl) run_43
theorem smok_32 : ∀ f s, sm_32 f = some s → SummOK Try.prog f s := by
  intro f s h
  unfold sm_32 at h
  by_cases h25 : f = 25
  · subst h25
    injection h with h
    subst h
    exact sok_25
  rw [nbeq_ne h25, cond_false] at h
  by_cases h36 : f = 36
  · subst h36
    injection h with h
    subst h
    exact sok_36
  rw [nbeq_ne h36, cond_false] at h
  by_cases h40 : f = 40
  · subst h40
    injection h with h
    subst h
    exact sok_40
  rw [nbeq_ne h40, cond_false] at h
  by_cases h43 : f = 43
  · subst h43
    injection h with h
    subst h
    exact sok_43
  rw [nbeq_ne h43, cond_false] at h
  cases h
theorem call_32 {R : Type} (n base : Nat) : CallOK Try.prog base (evFn (R := R) sm_32 fns FU n) := ev_sound hm0 smok_32 (fun f s h => (smok_32 f s h).2.1) fns_ok n
theorem sok_32 : SummOK Try.prog 32 s_32 := summ_shN (by decide) (fun _ => rfl) (fun _ => rfl) (call_32 1) (by kernel_rfl) run_32
theorem smok_15 : ∀ f s, sm_15 f = some s → SummOK Try.prog f s := by
  intro f s h
  unfold sm_15 at h
  by_cases h9 : f = 9
  · subst h9
    injection h with h
    subst h
    exact sok_9
  rw [nbeq_ne h9, cond_false] at h
  by_cases h25 : f = 25
  · subst h25
    injection h with h
    subst h
    exact sok_25
  rw [nbeq_ne h25, cond_false] at h
  by_cases h29 : f = 29
  · subst h29
    injection h with h
    subst h
    exact sok_29
  rw [nbeq_ne h29, cond_false] at h
  by_cases h32 : f = 32
  · subst h32
    injection h with h
    subst h
    exact sok_32
  rw [nbeq_ne h32, cond_false] at h
  cases h
theorem call_15 {R : Type} (n base : Nat) : CallOK Try.prog base (evFn (R := R) sm_15 fns FU n) := ev_sound hm0 smok_15 (fun f s h => (smok_15 f s h).2.1) fns_ok n
theorem sok_15 : SummOK Try.prog 15 s_15 := summ_shN (by decide) (fun _ => rfl) (fun _ => rfl) (call_15 4) (by kernel_rfl) run_15
theorem smok_19 : ∀ f s, sm_19 f = some s → SummOK Try.prog f s := by
  intro f s h
  unfold sm_19 at h
  by_cases h15 : f = 15
  · subst h15
    injection h with h
    subst h
    exact sok_15
  rw [nbeq_ne h15, cond_false] at h
  by_cases h46 : f = 46
  · subst h46
    injection h with h
    subst h
    exact sok_46
  rw [nbeq_ne h46, cond_false] at h
  by_cases h47 : f = 47
  · subst h47
    injection h with h
    subst h
    exact sok_47
  rw [nbeq_ne h47, cond_false] at h
  cases h
theorem call_19 {R : Type} (n base : Nat) : CallOK Try.prog base (evFn (R := R) sm_19 fns FU n) := ev_sound hm0 smok_19 (fun f s h => (smok_19 f s h).2.1) fns_ok n
theorem sok_19 : SummOK Try.prog 19 s_19 := summ_sh (fun _ => rfl) (fun _ => rfl) (call_19 2) (by kernel_rfl) run_19
theorem smok_20 : ∀ f s, sm_20 f = some s → SummOK Try.prog f s := by
  intro f s h
  unfold sm_20 at h
  by_cases h15 : f = 15
  · subst h15
    injection h with h
    subst h
    exact sok_15
  rw [nbeq_ne h15, cond_false] at h
  by_cases h36 : f = 36
  · subst h36
    injection h with h
    subst h
    exact sok_36
  rw [nbeq_ne h36, cond_false] at h
  by_cases h40 : f = 40
  · subst h40
    injection h with h
    subst h
    exact sok_40
  rw [nbeq_ne h40, cond_false] at h
  by_cases h46 : f = 46
  · subst h46
    injection h with h
    subst h
    exact sok_46
  rw [nbeq_ne h46, cond_false] at h
  by_cases h47 : f = 47
  · subst h47
    injection h with h
    subst h
    exact sok_47
  rw [nbeq_ne h47, cond_false] at h
  cases h
theorem call_20 {R : Type} (n base : Nat) : CallOK Try.prog base (evFn (R := R) sm_20 fns FU n) := ev_sound hm0 smok_20 (fun f s h => (smok_20 f s h).2.1) fns_ok n
theorem sok_20 : SummOK Try.prog 20 s_20 := summ_sh (fun _ => rfl) (fun _ => rfl) (call_20 2) (by kernel_rfl) run_20
theorem smok_33 : ∀ f s, sm_33 f = some s → SummOK Try.prog f s := by
  intro f s h
  unfold sm_33 at h
  by_cases h15 : f = 15
  · subst h15
    injection h with h
    subst h
    exact sok_15
  rw [nbeq_ne h15, cond_false] at h
  by_cases h40 : f = 40
  · subst h40
    injection h with h
    subst h
    exact sok_40
  rw [nbeq_ne h40, cond_false] at h
  by_cases h46 : f = 46
  · subst h46
    injection h with h
    subst h
    exact sok_46
  rw [nbeq_ne h46, cond_false] at h
  by_cases h47 : f = 47
  · subst h47
    injection h with h
    subst h
    exact sok_47
  rw [nbeq_ne h47, cond_false] at h
  cases h
theorem call_33 {R : Type} (n base : Nat) : CallOK Try.prog base (evFn (R := R) sm_33 fns FU n) := ev_sound hm0 smok_33 (fun f s h => (smok_33 f s h).2.1) fns_ok n
theorem sok_33 : SummOK Try.prog 33 s_33 := summ_sh (fun _ => rfl) (fun _ => rfl) (call_33 2) (by kernel_rfl) run_33
theorem smok_21 : ∀ f s, sm_21 f = some s → SummOK Try.prog f s := by
  intro f s h
  unfold sm_21 at h
  by_cases h19 : f = 19
  · subst h19
    injection h with h
    subst h
    exact sok_19
  rw [nbeq_ne h19, cond_false] at h
  by_cases h20 : f = 20
  · subst h20
    injection h with h
    subst h
    exact sok_20
  rw [nbeq_ne h20, cond_false] at h
  by_cases h33 : f = 33
  · subst h33
    injection h with h
    subst h
    exact sok_33
  rw [nbeq_ne h33, cond_false] at h
  cases h
theorem call_21 {R : Type} (n base : Nat) : CallOK Try.prog base (evFn (R := R) sm_21 fns FU n) := ev_sound hm0 smok_21 (fun f s h => (smok_21 f s h).2.1) fns_ok n
theorem sok_21 : SummOK Try.prog 21 s_21 := summ_sh (fun _ => rfl) (fun _ => rfl) (call_21 1) (by kernel_rfl) run_21
theorem smok_22 : ∀ f s, sm_22 f = some s → SummOK Try.prog f s := by
  intro f s h
  unfold sm_22 at h
  by_cases h15 : f = 15
  · subst h15
    injection h with h
    subst h
    exact sok_15
  rw [nbeq_ne h15, cond_false] at h
  by_cases h40 : f = 40
  · subst h40
    injection h with h
    subst h
    exact sok_40
  rw [nbeq_ne h40, cond_false] at h
  cases h
theorem call_22 {R : Type} (n base : Nat) : CallOK Try.prog base (evFn (R := R) sm_22 fns FU n) := ev_sound hm0 smok_22 (fun f s h => (smok_22 f s h).2.1) fns_ok n
theorem sok_22 : SummOK Try.prog 22 s_22 := summ_shN (by decide) (fun _ => rfl) (fun _ => rfl) (call_22 4) (by kernel_rfl) run_22
theorem smok_23 : ∀ f s, sm_23 f = some s → SummOK Try.prog f s := by
  intro f s h
  unfold sm_23 at h
  cases h
theorem call_23 {R : Type} (n base : Nat) : CallOK Try.prog base (evFn (R := R) sm_23 fns FU n) := ev_sound hm0 smok_23 (fun f s h => (smok_23 f s h).2.1) fns_ok n
theorem sok_23 : SummOK Try.prog 23 s_23 := summ_shN (by decide) (fun _ => rfl) (fun _ => rfl) (call_23 1) (by kernel_rfl) run_23
theorem smok_24 : ∀ f s, sm_24 f = some s → SummOK Try.prog f s := by
  intro f s h
  unfold sm_24 at h
  cases h
theorem call_24 {R : Type} (n base : Nat) : CallOK Try.prog base (evFn (R := R) sm_24 fns FU n) := ev_sound hm0 smok_24 (fun f s h => (smok_24 f s h).2.1) fns_ok n
theorem sok_24 : SummOK Try.prog 24 s_24 := summ_shN (by decide) (fun _ => rfl) (fun _ => rfl) (call_24 1) (by kernel_rfl) run_24
theorem smok_8 : ∀ f s, sm_8 f = some s → SummOK Try.prog f s := by
  intro f s h
  unfold sm_8 at h
  by_cases h11 : f = 11
  · subst h11
    injection h with h
    subst h
    exact sok_11
  rw [nbeq_ne h11, cond_false] at h
  by_cases h21 : f = 21
  · subst h21
    injection h with h
    subst h
    exact sok_21
  rw [nbeq_ne h21, cond_false] at h
  by_cases h22 : f = 22
  · subst h22
    injection h with h
    subst h
    exact sok_22
  rw [nbeq_ne h22, cond_false] at h
  by_cases h23 : f = 23
  · subst h23
    injection h with h
    subst h
    exact sok_23
  rw [nbeq_ne h23, cond_false] at h
  by_cases h24 : f = 24
  · subst h24
    injection h with h
    subst h
    exact sok_24
  rw [nbeq_ne h24, cond_false] at h
  cases h
theorem call_8 {R : Type} (n base : Nat) : CallOK Try.prog base (evFn (R := R) sm_8 fns FU n) := ev_sound hm0 smok_8 (fun f s h => (smok_8 f s h).2.1) fns_ok n
theorem sok_8 : SummOK Try.prog 8 s_8 := summ_shN (by decide) (fun _ => rfl) (fun _ => rfl) (call_8 1) (by kernel_rfl) run_8
theorem smok_5 : ∀ f s, sm_5 f = some s → SummOK Try.prog f s := by
  intro f s h
  unfold sm_5 at h
  by_cases h8 : f = 8
  · subst h8
    injection h with h
    subst h
    exact sok_8
  rw [nbeq_ne h8, cond_false] at h
  by_cases h9 : f = 9
  · subst h9
    injection h with h
    subst h
    exact sok_9
  rw [nbeq_ne h9, cond_false] at h
  by_cases h11 : f = 11
  · subst h11
    injection h with h
    subst h
    exact sok_11
  rw [nbeq_ne h11, cond_false] at h
  by_cases h19 : f = 19
  · subst h19
    injection h with h
    subst h
    exact sok_19
  rw [nbeq_ne h19, cond_false] at h
  by_cases h20 : f = 20
  · subst h20
    injection h with h
    subst h
    exact sok_20
  rw [nbeq_ne h20, cond_false] at h
  cases h
theorem call_5 {R : Type} (n base : Nat) : CallOK Try.prog base (evFn (R := R) sm_5 fns FU n) := ev_sound hm0 smok_5 (fun f s h => (smok_5 f s h).2.1) fns_ok n
end Go.Ev
