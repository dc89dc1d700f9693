/- Helpers: functions of the program as Lean functions, and what they compute. No condition. -/
import Derived.Test.YtbbpamlijfhebaaE4P2
import Derived.Test.YtbbpamlijfhebaaG4P0
import Derived.Test.YtbbpamlijfhebaaG4P1
import Derived.Test.YtbbpamlijfhebaaG4P2
set_option maxRecDepth 10000
set_option linter.unusedVariables false
set_option linter.unusedSimpArgs false
namespace Go.Ev
open Go
set_option maxRecDepth 100000
set_option maxHeartbeats 4000000
set_option linter.unusedVariables false
noncomputable section
abbrev Zy33_0 : Ty := (Ty.pair (Ty.int IntKind.i64) (Ty.pair (Ty.int IntKind.i64) (Ty.pair (Ty.int IntKind.i64) (Ty.pair (Ty.int IntKind.i64) (Ty.pair (Ty.int IntKind.i64) (Ty.pair (Ty.slice (Ty.int IntKind.i64)) (Ty.pair (Ty.int IntKind.i64) Ty.unit)))))))
abbrev Zy33_1 : Ty := (Ty.pair (Ty.int IntKind.i64) (Ty.pair (Ty.int IntKind.i64) (Ty.pair (Ty.int IntKind.i64) (Ty.pair (Ty.int IntKind.i64) (Ty.pair (Ty.int IntKind.i64) (Ty.pair (Ty.int IntKind.i64) (Ty.pair Ty.bool (Ty.pair (Ty.int IntKind.i64) Ty.unit))))))))
abbrev Zt33_2 : Type := List (Int × Int × Int × Int × Int × Int × Bool × Int × PUnit)
abbrev Zt33_3 : Type := List (Int × Int × Int × Int × Int × List Int × Int × PUnit)
abbrev Zy33_4 : Ty := (Ty.slice (Ty.pair (Ty.int IntKind.i64) (Ty.pair (Ty.int IntKind.i64) (Ty.pair (Ty.int IntKind.i64) (Ty.pair (Ty.int IntKind.i64) (Ty.pair (Ty.int IntKind.i64) (Ty.pair (Ty.int IntKind.i64) (Ty.pair Ty.bool (Ty.pair (Ty.int IntKind.i64) Ty.unit)))))))))
abbrev Zy33_5 : Ty := (.pair (.slice (.pair (.int .i64) (.pair (.int .i64) (.pair (.int .i64) (.pair (.int .i64) (.pair (.int .i64) (.pair (.int .i64) (.pair .bool (.pair (.int .i64) .unit))))))))) (.pair (.slice (.pair (.int .i64) (.pair (.int .i64) (.pair (.int .i64) (.pair (.int .i64) (.pair (.int .i64) (.pair (.slice (.int .i64)) (.pair (.int .i64) .unit)))))))) (.pair (.int .i64) (.pair .bool .unit))))
abbrev Zt33_6 : Type := Int × Bool × PUnit
abbrev Zt33_7 : Type := List (Int × Int × Int × Int × Int × Int × Bool × Int × PUnit) × List (Int × Int × Int × Int × Int × List Int × Int × PUnit) × Int × Bool × PUnit
abbrev Zy33_8 : Ty := (Ty.pair (Ty.slice (Ty.pair (Ty.int IntKind.i64) (Ty.pair (Ty.int IntKind.i64) (Ty.pair (Ty.int IntKind.i64) (Ty.pair (Ty.int IntKind.i64) (Ty.pair (Ty.int IntKind.i64) (Ty.pair (Ty.int IntKind.i64) (Ty.pair Ty.bool (Ty.pair (Ty.int IntKind.i64) Ty.unit))))))))) (Ty.pair (Ty.slice (Ty.pair (Ty.int IntKind.i64) (Ty.pair (Ty.int IntKind.i64) (Ty.pair (Ty.int IntKind.i64) (Ty.pair (Ty.int IntKind.i64) (Ty.pair (Ty.int IntKind.i64) (Ty.pair (Ty.slice (Ty.int IntKind.i64)) (Ty.pair (Ty.int IntKind.i64) Ty.unit)))))))) (Ty.pair (Ty.int IntKind.i64) (Ty.pair Ty.bool Ty.unit))))
abbrev Zy33_9 : Ty := (Ty.pair (Ty.int IntKind.i64) (Ty.pair Ty.bool Ty.unit))
abbrev Zt33_10 : Type := (Int × (Int × (Int × (Int × (Int × (Int × (Bool × (Int × Unit))))))))
abbrev Zt33_11 : Type := List (Int × (Int × (Int × (Int × (Int × ((List Int) × (Int × Unit)))))))

abbrev s33_46 : Summ := vecS (.pair (.int .i64) (.pair (.int .i64) (.pair (.int .i64) (.pair (.int .i64) (.pair (.int .i64) (.pair (.slice (.int .i64)) (.pair (.int .i64) .unit))))))) 46 72
abbrev s33_47 : Summ := vecS (.int .i64) 3 8
def sm_33 : Nat → Option Summ := fun f => bif Nat.beq f 15 then some s_15 else bif Nat.beq f 40 then some s_40 else bif Nat.beq f 46 then some s33_46 else bif Nat.beq f 47 then some s33_47 else none
def T_33_35_0_0 (p0 : Int) (p1 : Int) (p2 : Zt33_7) (p3 : Zt33_6) (p4 : Zt33_2) (p5 : Zt33_6) (p6 : Zt33_3) (p7 : Zt33_6) (p8 : Zt33_2) (p9 : Zt33_3) : St := St.mk ([jk, CV.ptr (2 : Nat) [], CV.ptr (4 : Nat) []] ++ (jl 7 ++ ([CV.int IntKind.i64 p0, CV.int IntKind.i64 p1] ++ (jl 16)))) [Blk.mem (CV.pure Zy33_8 p2), Blk.mem (CV.pair (CV.nil (23 : Nat) Zy33_1) (CV.pair (CV.nil (46 : Nat) Zy33_0) (CV.pure Zy33_9 p3))), Blk.mem (CV.pair (CV.pure Zy33_4 p4) (CV.pair (CV.whole (3 : Nat)) (CV.pure Zy33_9 p5))), Blk.vec (46 : Nat) Zy33_0 p6, Blk.mem (CV.pair (CV.whole (5 : Nat)) (CV.pair (CV.whole (6 : Nat)) (CV.pure Zy33_9 p7))), Blk.vec (23 : Nat) Zy33_1 p8, Blk.vec (46 : Nat) Zy33_0 p9] (2 : Nat)
def X_33_35_0_0_0 (p2 : Zt33_7) (p3 : Zt33_6) (p4 : Zt33_2) (p5 : Zt33_6) (p6 : Zt33_3) (p7 : Zt33_6) (p8 : Zt33_2) (p9 : Zt33_3) : St := St.mk ([jk, CV.ptr (2 : Nat) [], CV.ptr (4 : Nat) []] ++ (jl 25)) [Blk.mem (CV.pure Zy33_8 p2), Blk.mem (CV.pair (CV.nil (23 : Nat) Zy33_1) (CV.pair (CV.nil (46 : Nat) Zy33_0) (CV.pure Zy33_9 p3))), Blk.mem (CV.pair (CV.pure Zy33_4 p4) (CV.pair (CV.whole (3 : Nat)) (CV.pure Zy33_9 p5))), Blk.vec (46 : Nat) Zy33_0 p6, Blk.mem (CV.pair (CV.whole (5 : Nat)) (CV.pair (CV.whole (6 : Nat)) (CV.pure Zy33_9 p7))), Blk.vec (23 : Nat) Zy33_1 p8, Blk.vec (46 : Nat) Zy33_0 p9] (2 : Nat)
inductive Sp.E_33_35_0_0 where
  | e0 (p2 : Zt33_7) (p3 : Zt33_6) (p4 : Zt33_2) (p5 : Zt33_6) (p6 : Zt33_3) (p7 : Zt33_6) (p8 : Zt33_2) (p9 : Zt33_3)
def Sp.B_33_35_0_0 {R : Type} (r : Option Sp.E_33_35_0_0) (k0 : (Zt33_7) → (Zt33_6) → (Zt33_2) → (Zt33_6) → (Zt33_3) → (Zt33_6) → (Zt33_2) → (Zt33_3) → Option R) : Option R := match r with
  | none => none
  | some (.e0 p2 p3 p4 p5 p6 p7 p8 p9) => k0 p2 p3 p4 p5 p6 p7 p8 p9
def Sp.L_33_35_0_0 : Nat → (Int) → (Int) → (List (Int × Int × Int × Int × Int × Int × Bool × Int × PUnit) × List (Int × Int × Int × Int × Int × List Int × Int × PUnit) × Int × Bool × PUnit) → (Int × Bool × PUnit) → (List (Int × Int × Int × Int × Int × Int × Bool × Int × PUnit)) → (Int × Bool × PUnit) → (List (Int × Int × Int × Int × Int × List Int × Int × PUnit)) → (Int × Bool × PUnit) → (List (Int × Int × Int × Int × Int × Int × Bool × Int × PUnit)) → (List (Int × Int × Int × Int × Int × List Int × Int × PUnit)) → Option Sp.E_33_35_0_0
  | 0, _, _, _, _, _, _, _, _, _, _ => none
  | m + 1, p0, p1, p2, p3, p4, p5, p6, p7, p8, p9 => bif decide (p1 < p0) then gd (inB p1 (List.length p6)) (gd (decide (Int.toNat p1 < List.length p6) && true) (gd (room (List.length ((List.getD p6 (Int.toNat p1) Zd1).2.2.2.2.2.1)) (8 : Nat)) (gd (inB p1 (List.length p6)) (gd (decide (Int.toNat p1 < List.length p6) && true && true) (Sp.L_33_35_0_0 m p0 (IntKind.wrap IntKind.i64 (p1 + (1 : Int))) p2 p3 p4 p5 (List.set p6 (Int.toNat p1) ((List.getD p6 (Int.toNat p1) Zd1).1, (List.getD p6 (Int.toNat p1) Zd1).2.1, (List.getD p6 (Int.toNat p1) Zd1).2.2.1, (List.getD p6 (Int.toNat p1) Zd1).2.2.2.1, (List.getD p6 (Int.toNat p1) Zd1).2.2.2.2.1, (List.getD p6 (Int.toNat p1) Zd1).2.2.2.2.2.1, (List.getD p6 (Int.toNat p1) Zd1).2.2.2.2.2.2)) p7 p8 p9))))) else some (Sp.E_33_35_0_0.e0 p2 p3 p4 p5 p6 p7 p8 p9)
def G_33_35_0_0 {R : Type} (p0 : Int) (p1 : Int) (p2 : Zt33_7) (p3 : Zt33_6) (p4 : Zt33_2) (p5 : Zt33_6) (p6 : Zt33_3) (p7 : Zt33_6) (p8 : Zt33_2) (p9 : Zt33_3) (k : Ex → St → Option R) : Option R := Sp.B_33_35_0_0 (Sp.L_33_35_0_0 FU p0 p1 p2 p3 p4 p5 p6 p7 p8 p9) (fun p2 p3 p4 p5 p6 p7 p8 p9 => k (Ex.exit (0 : Nat)) (X_33_35_0_0_0 p2 p3 p4 p5 p6 p7 p8 p9))
def o_33_35_0_0 {R : Type} (G : (Int) → (Int) → (Zt33_7) → (Zt33_6) → (Zt33_2) → (Zt33_6) → (Zt33_3) → (Zt33_6) → (Zt33_2) → (Zt33_3) → (Ex → St → Option R) → Option R) : St → (Ex → St → Option R) → Option R := fun T k => match T.sl.getD 1 .junk, T.sl.getD 2 .junk, T.sl.getD 10 .junk, T.sl.getD 11 .junk, T.hp with
  | CV.ptr (2 : Nat) [], CV.ptr (4 : Nat) [], CV.int IntKind.i64 p0, CV.int IntKind.i64 p1, ((Blk.mem (CV.pure (Ty.pair (Ty.slice (Ty.pair (Ty.int IntKind.i64) (Ty.pair (Ty.int IntKind.i64) (Ty.pair (Ty.int IntKind.i64) (Ty.pair (Ty.int IntKind.i64) (Ty.pair (Ty.int IntKind.i64) (Ty.pair (Ty.int IntKind.i64) (Ty.pair Ty.bool (Ty.pair (Ty.int IntKind.i64) Ty.unit))))))))) (Ty.pair (Ty.slice (Ty.pair (Ty.int IntKind.i64) (Ty.pair (Ty.int IntKind.i64) (Ty.pair (Ty.int IntKind.i64) (Ty.pair (Ty.int IntKind.i64) (Ty.pair (Ty.int IntKind.i64) (Ty.pair (Ty.slice (Ty.int IntKind.i64)) (Ty.pair (Ty.int IntKind.i64) Ty.unit)))))))) (Ty.pair (Ty.int IntKind.i64) (Ty.pair Ty.bool Ty.unit)))) p2)) :: (Blk.mem (CV.pair (CV.nil (23 : Nat) (Ty.pair (Ty.int IntKind.i64) (Ty.pair (Ty.int IntKind.i64) (Ty.pair (Ty.int IntKind.i64) (Ty.pair (Ty.int IntKind.i64) (Ty.pair (Ty.int IntKind.i64) (Ty.pair (Ty.int IntKind.i64) (Ty.pair Ty.bool (Ty.pair (Ty.int IntKind.i64) Ty.unit))))))))) (CV.pair (CV.nil (46 : Nat) (Ty.pair (Ty.int IntKind.i64) (Ty.pair (Ty.int IntKind.i64) (Ty.pair (Ty.int IntKind.i64) (Ty.pair (Ty.int IntKind.i64) (Ty.pair (Ty.int IntKind.i64) (Ty.pair (Ty.slice (Ty.int IntKind.i64)) (Ty.pair (Ty.int IntKind.i64) Ty.unit)))))))) (CV.pure (Ty.pair (Ty.int IntKind.i64) (Ty.pair Ty.bool Ty.unit)) p3)))) :: (Blk.mem (CV.pair (CV.pure (Ty.slice (Ty.pair (Ty.int IntKind.i64) (Ty.pair (Ty.int IntKind.i64) (Ty.pair (Ty.int IntKind.i64) (Ty.pair (Ty.int IntKind.i64) (Ty.pair (Ty.int IntKind.i64) (Ty.pair (Ty.int IntKind.i64) (Ty.pair Ty.bool (Ty.pair (Ty.int IntKind.i64) Ty.unit))))))))) p4) (CV.pair (CV.whole (3 : Nat)) (CV.pure (Ty.pair (Ty.int IntKind.i64) (Ty.pair Ty.bool Ty.unit)) p5)))) :: (Blk.vec (46 : Nat) (Ty.pair (Ty.int IntKind.i64) (Ty.pair (Ty.int IntKind.i64) (Ty.pair (Ty.int IntKind.i64) (Ty.pair (Ty.int IntKind.i64) (Ty.pair (Ty.int IntKind.i64) (Ty.pair (Ty.slice (Ty.int IntKind.i64)) (Ty.pair (Ty.int IntKind.i64) Ty.unit))))))) p6) :: (Blk.mem (CV.pair (CV.whole (5 : Nat)) (CV.pair (CV.whole (6 : Nat)) (CV.pure (Ty.pair (Ty.int IntKind.i64) (Ty.pair Ty.bool Ty.unit)) p7)))) :: (Blk.vec (23 : Nat) (Ty.pair (Ty.int IntKind.i64) (Ty.pair (Ty.int IntKind.i64) (Ty.pair (Ty.int IntKind.i64) (Ty.pair (Ty.int IntKind.i64) (Ty.pair (Ty.int IntKind.i64) (Ty.pair (Ty.int IntKind.i64) (Ty.pair Ty.bool (Ty.pair (Ty.int IntKind.i64) Ty.unit)))))))) p8) :: (Blk.vec (46 : Nat) (Ty.pair (Ty.int IntKind.i64) (Ty.pair (Ty.int IntKind.i64) (Ty.pair (Ty.int IntKind.i64) (Ty.pair (Ty.int IntKind.i64) (Ty.pair (Ty.int IntKind.i64) (Ty.pair (Ty.slice (Ty.int IntKind.i64)) (Ty.pair (Ty.int IntKind.i64) Ty.unit))))))) p9) :: []) => gd (shapeOK T 28 [1, 2, 10, 11] (2 : Nat)) (G p0 p1 p2 p3 p4 p5 p6 p7 p8 p9 k)
  | _, _, _, _, _ => none
theorem o_33_35_0_0_inv {R : Type} {G : (Int) → (Int) → (Zt33_7) → (Zt33_6) → (Zt33_2) → (Zt33_6) → (Zt33_3) → (Zt33_6) → (Zt33_2) → (Zt33_3) → (Ex → St → Option R) → Option R} {T : St} {k : Ex → St → Option R} {r : R} (h : o_33_35_0_0 G T k = some r) : ∃ p0 p1 p2 p3 p4 p5 p6 p7 p8 p9, T = T_33_35_0_0 p0 p1 p2 p3 p4 p5 p6 p7 p8 p9 ∧ G p0 p1 p2 p3 p4 p5 p6 p7 p8 p9 k = some r := by
  unfold o_33_35_0_0 at h
  split at h
  · obtain ⟨hs, h'⟩ := gd_some h
    refine ⟨_, _, _, _, _, _, _, _, _, _, (st_of (asg := [(1, _), (2, _), (10, _), (11, _)]) hs ⟨by assumption, by assumption, by assumption, by assumption, trivial⟩ (by assumption)).trans ?_, h'⟩
    kernel_rfl
  · cases h
def T_33_1 (p0 : Int) (p1 : Nat) (p2 : Bool) (p3 : Int) (p4 : Int) (p5 : Zt33_2) (p6 : Zt33_6) (p7 : Zt33_3) (p8 : Zt33_6) (p9 : Zt33_2) (p10 : Zt33_3) : St := St.mk ([jk, CV.ptr (0 : Nat) [], CV.ptr (2 : Nat) [], jk, CV.int IntKind.i64 p0, CV.ptr (1 : Nat) [Step.ix p1 (7 : Nat)], CV.bool p2] ++ (jl 15 ++ ([CV.int IntKind.i64 p3, CV.int IntKind.i64 p4] ++ (jl 84)))) [Blk.mem (CV.pair (CV.pure Zy33_4 p5) (CV.pair (CV.whole (1 : Nat)) (CV.pure Zy33_9 p6))), Blk.vec (46 : Nat) Zy33_0 p7, Blk.mem (CV.pair (CV.whole (3 : Nat)) (CV.pair (CV.whole (4 : Nat)) (CV.pure Zy33_9 p8))), Blk.vec (23 : Nat) Zy33_1 p9, Blk.vec (46 : Nat) Zy33_0 p10] (0 : Nat)
def X_33_1_0 (p0 : Int) (p1 : Nat) (p2 : Bool) (p3 : Int) (p4 : Int) (p5 : Zt33_2) (p6 : Zt33_6) (p7 : Zt33_3) (p8 : Zt33_6) (p9 : Zt33_2) (p10 : Zt33_3) : St := St.mk ([jk, CV.ptr (0 : Nat) [], CV.ptr (2 : Nat) [], jk, CV.int IntKind.i64 p0, CV.ptr (1 : Nat) [Step.ix p1 (7 : Nat)], CV.bool p2] ++ (jl 15 ++ ([CV.int IntKind.i64 p3, CV.int IntKind.i64 p4] ++ (jl 41 ++ ([CV.bool true, CV.bool p2, CV.bool true, CV.undef, CV.undef, CV.undef, CV.undef, CV.undef, CV.undef, CV.undef, CV.undef, CV.undef, CV.undef, CV.undef, CV.bool true, CV.ptr (1 : Nat) [Step.ix p1 (7 : Nat)], CV.ptr (1 : Nat) [Step.ix p1 (7 : Nat)], CV.ptr (1 : Nat) [Step.ix p1 (7 : Nat)], CV.ptr (1 : Nat) [Step.ix p1 (7 : Nat), Step.f (1 : Nat) (1 : Nat)], CV.int IntKind.i64 ((List.getD p7 p1 (Ty.dflt Zy33_0)).2.1), CV.pair (CV.int IntKind.i64 (8 : Int)) (CV.pair (CV.int IntKind.i64 ((List.getD p7 p1 (Ty.dflt Zy33_0)).2.1)) (CV.pair (CV.int IntKind.i64 (0 : Int)) (CV.pair (CV.int IntKind.i64 (0 : Int)) (CV.pair (CV.int IntKind.i64 (0 : Int)) (CV.pair (CV.nil (3 : Nat) (Ty.int IntKind.i64)) (CV.pure (Ty.pair (Ty.int IntKind.i64) Ty.unit) (((0 : Int), PUnit.unit) : (Int × Unit)))))))), CV.ptr (1 : Nat) [Step.ix p1 (7 : Nat)]] ++ (jl 21)))))) [Blk.mem (CV.pair (CV.pure Zy33_4 p5) (CV.pair (CV.whole (1 : Nat)) (CV.pure Zy33_9 p6))), Blk.vec (46 : Nat) Zy33_0 ((List.set p7 p1 ((8 : Int), (List.getD p7 p1 (Ty.dflt Zy33_0)).2.1, (0 : Int), (0 : Int), (0 : Int), [], (0 : Int), PUnit.unit)) : (Zt33_11)), Blk.mem (CV.pair (CV.whole (3 : Nat)) (CV.pair (CV.whole (4 : Nat)) (CV.pure Zy33_9 p8))), Blk.vec (23 : Nat) Zy33_1 p9, Blk.vec (46 : Nat) Zy33_0 p10] (0 : Nat)
def X_33_1_1 (p0 : Int) (p1 : Nat) (p2 : Bool) (p3 : Int) (p4 : Int) (p5 : Zt33_2) (p6 : Zt33_6) (p7 : Zt33_3) (p8 : Zt33_6) (p9 : Zt33_2) (p10 : Zt33_3) : St := St.mk ([jk, CV.ptr (0 : Nat) [], CV.ptr (2 : Nat) [], jk, CV.int IntKind.i64 p0, CV.ptr (1 : Nat) [Step.ix p1 (7 : Nat)], CV.bool p2] ++ (jl 15 ++ ([CV.int IntKind.i64 p3, CV.int IntKind.i64 p4] ++ (jl 41 ++ ([CV.bool true, CV.bool p2, CV.bool false, CV.ptr (1 : Nat) [Step.ix p1 (7 : Nat)], CV.ptr (1 : Nat) [Step.ix p1 (7 : Nat)], CV.ptr (1 : Nat) [Step.ix p1 (7 : Nat), Step.f (3 : Nat) (3 : Nat)], CV.int IntKind.i64 ((List.getD p7 p1 (Ty.dflt Zy33_0)).2.2.2.1), CV.ptr (0 : Nat) [Step.f (0 : Nat) (0 : Nat)], CV.pure Zy33_4 p5, CV.int IntKind.i64 p0, CV.ref Zy33_1 ((List.getD p5 (Int.toNat p0) (Ty.dflt Zy33_1)) : Zt33_10), CV.ref (Ty.int IntKind.i64) (((List.getD p5 (Int.toNat p0) (Ty.dflt Zy33_1)).2.2.2.2.1) : Int), CV.int IntKind.i64 ((List.getD p5 (Int.toNat p0) (Ty.dflt Zy33_1)).2.2.2.2.1), CV.bool ((List.getD p7 p1 (Ty.dflt Zy33_0)).2.2.2.1 == (List.getD p5 (Int.toNat p0) (Ty.dflt Zy33_1)).2.2.2.2.1), CV.bool ((List.getD p7 p1 (Ty.dflt Zy33_0)).2.2.2.1 == (List.getD p5 (Int.toNat p0) (Ty.dflt Zy33_1)).2.2.2.2.1), CV.ptr (1 : Nat) [Step.ix p1 (7 : Nat)], CV.ptr (1 : Nat) [Step.ix p1 (7 : Nat)], CV.ptr (1 : Nat) [Step.ix p1 (7 : Nat)], CV.ptr (1 : Nat) [Step.ix p1 (7 : Nat), Step.f (1 : Nat) (1 : Nat)], CV.int IntKind.i64 ((List.getD p7 p1 (Ty.dflt Zy33_0)).2.1), CV.pair (CV.int IntKind.i64 (8 : Int)) (CV.pair (CV.int IntKind.i64 ((List.getD p7 p1 (Ty.dflt Zy33_0)).2.1)) (CV.pair (CV.int IntKind.i64 (0 : Int)) (CV.pair (CV.int IntKind.i64 (0 : Int)) (CV.pair (CV.int IntKind.i64 (0 : Int)) (CV.pair (CV.nil (3 : Nat) (Ty.int IntKind.i64)) (CV.pure (Ty.pair (Ty.int IntKind.i64) Ty.unit) (((0 : Int), PUnit.unit) : (Int × Unit)))))))), CV.ptr (1 : Nat) [Step.ix p1 (7 : Nat)]] ++ (jl 21)))))) [Blk.mem (CV.pair (CV.pure Zy33_4 p5) (CV.pair (CV.whole (1 : Nat)) (CV.pure Zy33_9 p6))), Blk.vec (46 : Nat) Zy33_0 ((List.set p7 p1 ((8 : Int), (List.getD p7 p1 (Ty.dflt Zy33_0)).2.1, (0 : Int), (0 : Int), (0 : Int), [], (0 : Int), PUnit.unit)) : (Zt33_11)), Blk.mem (CV.pair (CV.whole (3 : Nat)) (CV.pair (CV.whole (4 : Nat)) (CV.pure Zy33_9 p8))), Blk.vec (23 : Nat) Zy33_1 p9, Blk.vec (46 : Nat) Zy33_0 p10] (0 : Nat)
def X_33_1_2 (p0 : Int) (p1 : Nat) (p2 : Bool) (p3 : Int) (p4 : Int) (p5 : Zt33_2) (p6 : Zt33_6) (p7 : Zt33_3) (p8 : Zt33_6) (p9 : Zt33_2) (p10 : Zt33_3) : St := St.mk ([jk, CV.ptr (0 : Nat) [], CV.ptr (2 : Nat) [], jk, CV.int IntKind.i64 p0, CV.ptr (1 : Nat) [Step.ix p1 (7 : Nat)], CV.bool p2] ++ (jl 15 ++ ([CV.int IntKind.i64 p3, CV.int IntKind.i64 p4] ++ (jl 41 ++ ([CV.bool false, CV.bool p2, CV.bool false, CV.ptr (1 : Nat) [Step.ix p1 (7 : Nat)], CV.ptr (1 : Nat) [Step.ix p1 (7 : Nat)], CV.ptr (1 : Nat) [Step.ix p1 (7 : Nat), Step.f (3 : Nat) (3 : Nat)], CV.int IntKind.i64 ((List.getD p7 p1 (Ty.dflt Zy33_0)).2.2.2.1), CV.ptr (0 : Nat) [Step.f (0 : Nat) (0 : Nat)], CV.pure Zy33_4 p5, CV.int IntKind.i64 p0, CV.ref Zy33_1 ((List.getD p5 (Int.toNat p0) (Ty.dflt Zy33_1)) : Zt33_10), CV.ref (Ty.int IntKind.i64) (((List.getD p5 (Int.toNat p0) (Ty.dflt Zy33_1)).2.2.2.2.1) : Int), CV.int IntKind.i64 ((List.getD p5 (Int.toNat p0) (Ty.dflt Zy33_1)).2.2.2.2.1), CV.bool ((List.getD p7 p1 (Ty.dflt Zy33_0)).2.2.2.1 == (List.getD p5 (Int.toNat p0) (Ty.dflt Zy33_1)).2.2.2.2.1), CV.bool ((List.getD p7 p1 (Ty.dflt Zy33_0)).2.2.2.1 == (List.getD p5 (Int.toNat p0) (Ty.dflt Zy33_1)).2.2.2.2.1)] ++ (jl 7 ++ [CV.bool true, CV.ptr (1 : Nat) [Step.ix p1 (7 : Nat)], CV.ptr (1 : Nat) [Step.ix p1 (7 : Nat)], CV.ptr (1 : Nat) [Step.ix p1 (7 : Nat), Step.f (3 : Nat) (3 : Nat)], CV.int IntKind.i64 ((List.getD p7 p1 (Ty.dflt Zy33_0)).2.2.2.1), CV.ptr (0 : Nat) [Step.f (0 : Nat) (0 : Nat)], CV.pure Zy33_4 p5, CV.int IntKind.i64 p0, CV.ref Zy33_1 ((List.getD p5 (Int.toNat p0) (Ty.dflt Zy33_1)) : Zt33_10), CV.ref (Ty.int IntKind.i64) (((List.getD p5 (Int.toNat p0) (Ty.dflt Zy33_1)).2.2.2.1) : Int), CV.int IntKind.i64 ((List.getD p5 (Int.toNat p0) (Ty.dflt Zy33_1)).2.2.2.1), CV.bool (decide ((List.getD p7 p1 (Ty.dflt Zy33_0)).2.2.2.1 ≥ (List.getD p5 (Int.toNat p0) (Ty.dflt Zy33_1)).2.2.2.1)), CV.ptr (1 : Nat) [Step.ix p1 (7 : Nat)], CV.ptr (1 : Nat) [Step.ix p1 (7 : Nat)], CV.ptr (1 : Nat) [Step.ix p1 (7 : Nat), Step.f (0 : Nat) (0 : Nat)], CV.int IntKind.i64 ((List.getD p7 p1 (Ty.dflt Zy33_0)).1), CV.int IntKind.i64 (Sp.andnI IntKind.i64 ((List.getD p7 p1 (Ty.dflt Zy33_0)).1) (16 : Int)), CV.ptr (1 : Nat) [Step.ix p1 (7 : Nat)], CV.ptr (1 : Nat) [Step.ix p1 (7 : Nat), Step.f (0 : Nat) (0 : Nat)], jk, jk])))))) [Blk.mem (CV.pair (CV.pure Zy33_4 p5) (CV.pair (CV.whole (1 : Nat)) (CV.pure Zy33_9 p6))), Blk.vec (46 : Nat) Zy33_0 ((List.set p7 p1 (Sp.andnI IntKind.i64 ((List.getD p7 p1 (Ty.dflt Zy33_0)).1) (16 : Int), (List.getD p7 p1 (Ty.dflt Zy33_0)).2)) : (Zt33_11)), Blk.mem (CV.pair (CV.whole (3 : Nat)) (CV.pair (CV.whole (4 : Nat)) (CV.pure Zy33_9 p8))), Blk.vec (23 : Nat) Zy33_1 p9, Blk.vec (46 : Nat) Zy33_0 p10] (0 : Nat)
def X_33_1_3 (p0 : Int) (p1 : Nat) (p2 : Bool) (p3 : Int) (p4 : Int) (p5 : Zt33_2) (p6 : Zt33_6) (p7 : Zt33_3) (p8 : Zt33_6) (p9 : Zt33_2) (p10 : Zt33_3) : St := St.mk ([jk, CV.ptr (0 : Nat) [], CV.ptr (2 : Nat) [], jk, CV.int IntKind.i64 p0, CV.ptr (1 : Nat) [Step.ix p1 (7 : Nat)], CV.bool p2] ++ (jl 15 ++ ([CV.int IntKind.i64 p3, CV.int IntKind.i64 p4] ++ (jl 41 ++ ([CV.bool false, CV.bool p2, CV.bool false, CV.ptr (1 : Nat) [Step.ix p1 (7 : Nat)], CV.ptr (1 : Nat) [Step.ix p1 (7 : Nat)], CV.ptr (1 : Nat) [Step.ix p1 (7 : Nat), Step.f (3 : Nat) (3 : Nat)], CV.int IntKind.i64 ((List.getD p7 p1 (Ty.dflt Zy33_0)).2.2.2.1), CV.ptr (0 : Nat) [Step.f (0 : Nat) (0 : Nat)], CV.pure Zy33_4 p5, CV.int IntKind.i64 p0, CV.ref Zy33_1 ((List.getD p5 (Int.toNat p0) (Ty.dflt Zy33_1)) : Zt33_10), CV.ref (Ty.int IntKind.i64) (((List.getD p5 (Int.toNat p0) (Ty.dflt Zy33_1)).2.2.2.2.1) : Int), CV.int IntKind.i64 ((List.getD p5 (Int.toNat p0) (Ty.dflt Zy33_1)).2.2.2.2.1), CV.bool ((List.getD p7 p1 (Ty.dflt Zy33_0)).2.2.2.1 == (List.getD p5 (Int.toNat p0) (Ty.dflt Zy33_1)).2.2.2.2.1), CV.bool ((List.getD p7 p1 (Ty.dflt Zy33_0)).2.2.2.1 == (List.getD p5 (Int.toNat p0) (Ty.dflt Zy33_1)).2.2.2.2.1)] ++ (jl 7 ++ ([CV.bool false, CV.ptr (1 : Nat) [Step.ix p1 (7 : Nat)], CV.ptr (1 : Nat) [Step.ix p1 (7 : Nat)], CV.ptr (1 : Nat) [Step.ix p1 (7 : Nat), Step.f (3 : Nat) (3 : Nat)], CV.int IntKind.i64 ((List.getD p7 p1 (Ty.dflt Zy33_0)).2.2.2.1), CV.ptr (0 : Nat) [Step.f (0 : Nat) (0 : Nat)], CV.pure Zy33_4 p5, CV.int IntKind.i64 p0, CV.ref Zy33_1 ((List.getD p5 (Int.toNat p0) (Ty.dflt Zy33_1)) : Zt33_10), CV.ref (Ty.int IntKind.i64) (((List.getD p5 (Int.toNat p0) (Ty.dflt Zy33_1)).2.2.2.1) : Int), CV.int IntKind.i64 ((List.getD p5 (Int.toNat p0) (Ty.dflt Zy33_1)).2.2.2.1), CV.bool (decide ((List.getD p7 p1 (Ty.dflt Zy33_0)).2.2.2.1 ≥ (List.getD p5 (Int.toNat p0) (Ty.dflt Zy33_1)).2.2.2.1))] ++ (jl 9)))))))) [Blk.mem (CV.pair (CV.pure Zy33_4 p5) (CV.pair (CV.whole (1 : Nat)) (CV.pure Zy33_9 p6))), Blk.vec (46 : Nat) Zy33_0 p7, Blk.mem (CV.pair (CV.whole (3 : Nat)) (CV.pair (CV.whole (4 : Nat)) (CV.pure Zy33_9 p8))), Blk.vec (23 : Nat) Zy33_1 p9, Blk.vec (46 : Nat) Zy33_0 p10] (0 : Nat)
inductive Sp.E_33_1 where
  | e0 (p0 : Int) (p1 : Nat) (p2 : Bool) (p3 : Int) (p4 : Int) (p5 : Zt33_2) (p6 : Zt33_6) (p7 : Zt33_3) (p8 : Zt33_6) (p9 : Zt33_2) (p10 : Zt33_3)
  | e1 (p0 : Int) (p1 : Nat) (p2 : Bool) (p3 : Int) (p4 : Int) (p5 : Zt33_2) (p6 : Zt33_6) (p7 : Zt33_3) (p8 : Zt33_6) (p9 : Zt33_2) (p10 : Zt33_3)
  | e2 (p0 : Int) (p1 : Nat) (p2 : Bool) (p3 : Int) (p4 : Int) (p5 : Zt33_2) (p6 : Zt33_6) (p7 : Zt33_3) (p8 : Zt33_6) (p9 : Zt33_2) (p10 : Zt33_3)
  | e3 (p0 : Int) (p1 : Nat) (p2 : Bool) (p3 : Int) (p4 : Int) (p5 : Zt33_2) (p6 : Zt33_6) (p7 : Zt33_3) (p8 : Zt33_6) (p9 : Zt33_2) (p10 : Zt33_3)
def Sp.B_33_1 {R : Type} (r : Option Sp.E_33_1) (k0 : (Int) → (Nat) → (Bool) → (Int) → (Int) → (Zt33_2) → (Zt33_6) → (Zt33_3) → (Zt33_6) → (Zt33_2) → (Zt33_3) → Option R) (k1 : (Int) → (Nat) → (Bool) → (Int) → (Int) → (Zt33_2) → (Zt33_6) → (Zt33_3) → (Zt33_6) → (Zt33_2) → (Zt33_3) → Option R) (k2 : (Int) → (Nat) → (Bool) → (Int) → (Int) → (Zt33_2) → (Zt33_6) → (Zt33_3) → (Zt33_6) → (Zt33_2) → (Zt33_3) → Option R) (k3 : (Int) → (Nat) → (Bool) → (Int) → (Int) → (Zt33_2) → (Zt33_6) → (Zt33_3) → (Zt33_6) → (Zt33_2) → (Zt33_3) → Option R) : Option R := match r with
  | none => none
  | some (.e0 p0 p1 p2 p3 p4 p5 p6 p7 p8 p9 p10) => k0 p0 p1 p2 p3 p4 p5 p6 p7 p8 p9 p10
  | some (.e1 p0 p1 p2 p3 p4 p5 p6 p7 p8 p9 p10) => k1 p0 p1 p2 p3 p4 p5 p6 p7 p8 p9 p10
  | some (.e2 p0 p1 p2 p3 p4 p5 p6 p7 p8 p9 p10) => k2 p0 p1 p2 p3 p4 p5 p6 p7 p8 p9 p10
  | some (.e3 p0 p1 p2 p3 p4 p5 p6 p7 p8 p9 p10) => k3 p0 p1 p2 p3 p4 p5 p6 p7 p8 p9 p10
def Sp.J_33_1 (p0 : Int) (p1 : Nat) (p2 : Bool) (p3 : Int) (p4 : Int) (p5 : List (Int × Int × Int × Int × Int × Int × Bool × Int × PUnit)) (p6 : Int × Bool × PUnit) (p7 : List (Int × Int × Int × Int × Int × List Int × Int × PUnit)) (p8 : Int × Bool × PUnit) (p9 : List (Int × Int × Int × Int × Int × Int × Bool × Int × PUnit)) (p10 : List (Int × Int × Int × Int × Int × List Int × Int × PUnit)) : Option Sp.E_33_1 :=
  bif p2 then gd (decide (p1 < List.length p7) && true) (gd (decide (p1 < List.length p7) && true && true) (some (Sp.E_33_1.e0 p0 p1 p2 p3 p4 p5 p6 p7 p8 p9 p10))) else gd (decide (p1 < List.length p7) && true) (gd (inB p0 (List.length p5)) (bif (List.getD p7 p1 Zd1).2.2.2.1 == (List.getD p5 (Int.toNat p0) Zd0).2.2.2.2.1 then gd (decide (p1 < List.length p7) && true) (gd (decide (p1 < List.length p7) && true && true) (some (Sp.E_33_1.e1 p0 p1 p2 p3 p4 p5 p6 p7 p8 p9 p10))) else gd (decide (p1 < List.length p7) && true) (gd (inB p0 (List.length p5)) (bif decide ((List.getD p7 p1 Zd1).2.2.2.1 ≥ (List.getD p5 (Int.toNat p0) Zd0).2.2.2.1) then gd (decide (p1 < List.length p7) && true) (gd (decide (p1 < List.length p7) && true && true) (some (Sp.E_33_1.e2 p0 p1 p2 p3 p4 p5 p6 p7 p8 p9 p10))) else some (Sp.E_33_1.e3 p0 p1 p2 p3 p4 p5 p6 p7 p8 p9 p10)))))
def G_33_1 {R : Type} (p0 : Int) (p1 : Nat) (p2 : Bool) (p3 : Int) (p4 : Int) (p5 : Zt33_2) (p6 : Zt33_6) (p7 : Zt33_3) (p8 : Zt33_6) (p9 : Zt33_2) (p10 : Zt33_3) (k : Ex → St → Option R) : Option R := Sp.B_33_1 (Sp.J_33_1 p0 p1 p2 p3 p4 p5 p6 p7 p8 p9 p10) (fun p0 p1 p2 p3 p4 p5 p6 p7 p8 p9 p10 => k Ex.normal (X_33_1_0 p0 p1 p2 p3 p4 p5 p6 p7 p8 p9 p10)) (fun p0 p1 p2 p3 p4 p5 p6 p7 p8 p9 p10 => k Ex.normal (X_33_1_1 p0 p1 p2 p3 p4 p5 p6 p7 p8 p9 p10)) (fun p0 p1 p2 p3 p4 p5 p6 p7 p8 p9 p10 => k Ex.normal (X_33_1_2 p0 p1 p2 p3 p4 p5 p6 p7 p8 p9 p10)) (fun p0 p1 p2 p3 p4 p5 p6 p7 p8 p9 p10 => k Ex.normal (X_33_1_3 p0 p1 p2 p3 p4 p5 p6 p7 p8 p9 p10))
def o_33_1 {R : Type} (G : (Int) → (Nat) → (Bool) → (Int) → (Int) → (Zt33_2) → (Zt33_6) → (Zt33_3) → (Zt33_6) → (Zt33_2) → (Zt33_3) → (Ex → St → Option R) → Option R) : St → (Ex → St → Option R) → Option R := fun T k => match T.sl.getD 1 .junk, T.sl.getD 2 .junk, T.sl.getD 4 .junk, T.sl.getD 5 .junk, T.sl.getD 6 .junk, T.sl.getD 22 .junk, T.sl.getD 23 .junk, T.hp with
  | CV.ptr (0 : Nat) [], CV.ptr (2 : Nat) [], CV.int IntKind.i64 p0, CV.ptr (1 : Nat) [Step.ix p1 (7 : Nat)], CV.bool p2, CV.int IntKind.i64 p3, CV.int IntKind.i64 p4, ((Blk.mem (CV.pair (CV.pure (Ty.slice (Ty.pair (Ty.int IntKind.i64) (Ty.pair (Ty.int IntKind.i64) (Ty.pair (Ty.int IntKind.i64) (Ty.pair (Ty.int IntKind.i64) (Ty.pair (Ty.int IntKind.i64) (Ty.pair (Ty.int IntKind.i64) (Ty.pair Ty.bool (Ty.pair (Ty.int IntKind.i64) Ty.unit))))))))) p5) (CV.pair (CV.whole (1 : Nat)) (CV.pure (Ty.pair (Ty.int IntKind.i64) (Ty.pair Ty.bool Ty.unit)) p6)))) :: (Blk.vec (46 : Nat) (Ty.pair (Ty.int IntKind.i64) (Ty.pair (Ty.int IntKind.i64) (Ty.pair (Ty.int IntKind.i64) (Ty.pair (Ty.int IntKind.i64) (Ty.pair (Ty.int IntKind.i64) (Ty.pair (Ty.slice (Ty.int IntKind.i64)) (Ty.pair (Ty.int IntKind.i64) Ty.unit))))))) p7) :: (Blk.mem (CV.pair (CV.whole (3 : Nat)) (CV.pair (CV.whole (4 : Nat)) (CV.pure (Ty.pair (Ty.int IntKind.i64) (Ty.pair Ty.bool Ty.unit)) p8)))) :: (Blk.vec (23 : Nat) (Ty.pair (Ty.int IntKind.i64) (Ty.pair (Ty.int IntKind.i64) (Ty.pair (Ty.int IntKind.i64) (Ty.pair (Ty.int IntKind.i64) (Ty.pair (Ty.int IntKind.i64) (Ty.pair (Ty.int IntKind.i64) (Ty.pair Ty.bool (Ty.pair (Ty.int IntKind.i64) Ty.unit)))))))) p9) :: (Blk.vec (46 : Nat) (Ty.pair (Ty.int IntKind.i64) (Ty.pair (Ty.int IntKind.i64) (Ty.pair (Ty.int IntKind.i64) (Ty.pair (Ty.int IntKind.i64) (Ty.pair (Ty.int IntKind.i64) (Ty.pair (Ty.slice (Ty.int IntKind.i64)) (Ty.pair (Ty.int IntKind.i64) Ty.unit))))))) p10) :: []) => gd (shapeOK T 108 [1, 2, 4, 5, 6, 22, 23] (0 : Nat)) (G p0 p1 p2 p3 p4 p5 p6 p7 p8 p9 p10 k)
  | _, _, _, _, _, _, _, _ => none
theorem o_33_1_inv {R : Type} {G : (Int) → (Nat) → (Bool) → (Int) → (Int) → (Zt33_2) → (Zt33_6) → (Zt33_3) → (Zt33_6) → (Zt33_2) → (Zt33_3) → (Ex → St → Option R) → Option R} {T : St} {k : Ex → St → Option R} {r : R} (h : o_33_1 G T k = some r) : ∃ p0 p1 p2 p3 p4 p5 p6 p7 p8 p9 p10, T = T_33_1 p0 p1 p2 p3 p4 p5 p6 p7 p8 p9 p10 ∧ G p0 p1 p2 p3 p4 p5 p6 p7 p8 p9 p10 k = some r := by
  unfold o_33_1 at h
  split at h
  · obtain ⟨hs, h'⟩ := gd_some h
    refine ⟨_, _, _, _, _, _, _, _, _, _, _, (st_of (asg := [(1, _), (2, _), (4, _), (5, _), (6, _), (22, _), (23, _)]) hs ⟨by assumption, by assumption, by assumption, by assumption, by assumption, by assumption, by assumption, trivial⟩ (by assumption)).trans ?_, h'⟩
    kernel_rfl
  · cases h
def T_33_0 (p0 : Int) (p1 : Int) (p2 : Zt33_2) (p3 : Zt33_6) (p4 : Zt33_3) (p5 : Zt33_6) (p6 : Zt33_2) (p7 : Zt33_3) : St := St.mk ([jk, CV.ptr (0 : Nat) [], CV.ptr (2 : Nat) []] ++ (jl 19 ++ ([CV.int IntKind.i64 p0, CV.int IntKind.i64 p1] ++ (jl 84)))) [Blk.mem (CV.pair (CV.pure Zy33_4 p2) (CV.pair (CV.whole (1 : Nat)) (CV.pure Zy33_9 p3))), Blk.vec (46 : Nat) Zy33_0 p4, Blk.mem (CV.pair (CV.whole (3 : Nat)) (CV.pair (CV.whole (4 : Nat)) (CV.pure Zy33_9 p5))), Blk.vec (23 : Nat) Zy33_1 p6, Blk.vec (46 : Nat) Zy33_0 p7] (0 : Nat)
def X_33_0_0 (p2 : Zt33_2) (p3 : Zt33_6) (p4 : Zt33_3) (p5 : Zt33_6) (p6 : Zt33_2) (p7 : Zt33_3) : St := St.mk ([jk, CV.ptr (0 : Nat) [], CV.ptr (2 : Nat) []] ++ (jl 105)) [Blk.mem (CV.pair (CV.pure Zy33_4 p2) (CV.pair (CV.whole (1 : Nat)) (CV.pure Zy33_9 p3))), Blk.vec (46 : Nat) Zy33_0 p4, Blk.mem (CV.pair (CV.whole (3 : Nat)) (CV.pair (CV.whole (4 : Nat)) (CV.pure Zy33_9 p5))), Blk.vec (23 : Nat) Zy33_1 p6, Blk.vec (46 : Nat) Zy33_0 p7] (0 : Nat)
inductive Sp.E_33_0 where
  | e0 (p2 : Zt33_2) (p3 : Zt33_6) (p4 : Zt33_3) (p5 : Zt33_6) (p6 : Zt33_2) (p7 : Zt33_3)
def Sp.B_33_0 {R : Type} (r : Option Sp.E_33_0) (k0 : (Zt33_2) → (Zt33_6) → (Zt33_3) → (Zt33_6) → (Zt33_2) → (Zt33_3) → Option R) : Option R := match r with
  | none => none
  | some (.e0 p2 p3 p4 p5 p6 p7) => k0 p2 p3 p4 p5 p6 p7
def Sp.L_33_0 : Nat → (Int) → (Int) → (List (Int × Int × Int × Int × Int × Int × Bool × Int × PUnit)) → (Int × Bool × PUnit) → (List (Int × Int × Int × Int × Int × List Int × Int × PUnit)) → (Int × Bool × PUnit) → (List (Int × Int × Int × Int × Int × Int × Bool × Int × PUnit)) → (List (Int × Int × Int × Int × Int × List Int × Int × PUnit)) → Option Sp.E_33_0
  | 0, _, _, _, _, _, _, _, _ => none
  | m + 1, p0, p1, p2, p3, p4, p5, p6, p7 => bif decide (p1 < p0) then gd (inB p1 (List.length p4)) (gd (decide (Int.toNat p1 < List.length p4) && true) (gd (Sp.p_40 (List.getD p4 (Int.toNat p1) Zd1) (8 : Int)) (bif !(Sp.v_40 (List.getD p4 (Int.toNat p1) Zd1) (8 : Int)).1 then Sp.L_33_0 m p0 (IntKind.wrap IntKind.i64 (p1 + (1 : Int))) p2 p3 p4 p5 p6 p7 else gd (decide (Int.toNat p1 < List.length p4) && true) (bif (List.getD p4 (Int.toNat p1) Zd1).2.2.2.2.2.2.1 == p3.1 then Sp.L_33_0 m p0 (IntKind.wrap IntKind.i64 (p1 + (1 : Int))) p2 p3 p4 p5 p6 p7 else gd (decide (Int.toNat p1 < List.length p4) && true) (gd (decide (Int.toNat p1 < List.length p4) && true && true) (gd (decide (Int.toNat p1 < List.length (List.set p4 (Int.toNat p1) (Sp.andnI IntKind.i64 ((List.getD p4 (Int.toNat p1) Zd1).1) (2 : Int), (List.getD p4 (Int.toNat p1) Zd1).2))) && true) (gd (Sp.p_40 (List.getD (List.set p4 (Int.toNat p1) (Sp.andnI IntKind.i64 ((List.getD p4 (Int.toNat p1) Zd1).1) (2 : Int), (List.getD p4 (Int.toNat p1) Zd1).2)) (Int.toNat p1) Zd1) (4 : Int)) (bif !!(Sp.v_40 (List.getD (List.set p4 (Int.toNat p1) (Sp.andnI IntKind.i64 ((List.getD p4 (Int.toNat p1) Zd1).1) (2 : Int), (List.getD p4 (Int.toNat p1) Zd1).2)) (Int.toNat p1) Zd1) (4 : Int)).1 then gd (decide (Int.toNat p1 < List.length (List.set p4 (Int.toNat p1) (Sp.andnI IntKind.i64 ((List.getD p4 (Int.toNat p1) Zd1).1) (2 : Int), (List.getD p4 (Int.toNat p1) Zd1).2))) && true) (gd (decide (Int.toNat p1 < List.length (List.set p4 (Int.toNat p1) (Sp.andnI IntKind.i64 ((List.getD p4 (Int.toNat p1) Zd1).1) (2 : Int), (List.getD p4 (Int.toNat p1) Zd1).2))) && true && true) (Sp.B_33_1 (Sp.J_33_1 p1 (Int.toNat p1) (!(Sp.v_40 (List.getD (List.set p4 (Int.toNat p1) (Sp.andnI IntKind.i64 ((List.getD p4 (Int.toNat p1) Zd1).1) (2 : Int), (List.getD p4 (Int.toNat p1) Zd1).2)) (Int.toNat p1) Zd1) (4 : Int)).1) p0 p1 p2 p3 (List.set (List.set p4 (Int.toNat p1) (Sp.andnI IntKind.i64 ((List.getD p4 (Int.toNat p1) Zd1).1) (2 : Int), (List.getD p4 (Int.toNat p1) Zd1).2)) (Int.toNat p1) ((List.getD (List.set p4 (Int.toNat p1) (Sp.andnI IntKind.i64 ((List.getD p4 (Int.toNat p1) Zd1).1) (2 : Int), (List.getD p4 (Int.toNat p1) Zd1).2)) (Int.toNat p1) Zd1).1, (List.getD (List.set p4 (Int.toNat p1) (Sp.andnI IntKind.i64 ((List.getD p4 (Int.toNat p1) Zd1).1) (2 : Int), (List.getD p4 (Int.toNat p1) Zd1).2)) (Int.toNat p1) Zd1).2.1, (List.getD (List.set p4 (Int.toNat p1) (Sp.andnI IntKind.i64 ((List.getD p4 (Int.toNat p1) Zd1).1) (2 : Int), (List.getD p4 (Int.toNat p1) Zd1).2)) (Int.toNat p1) Zd1).2.2.1, IntKind.wrap IntKind.i64 ((List.getD (List.set p4 (Int.toNat p1) (Sp.andnI IntKind.i64 ((List.getD p4 (Int.toNat p1) Zd1).1) (2 : Int), (List.getD p4 (Int.toNat p1) Zd1).2)) (Int.toNat p1) Zd1).2.2.2.1 + (1 : Int)), (List.getD (List.set p4 (Int.toNat p1) (Sp.andnI IntKind.i64 ((List.getD p4 (Int.toNat p1) Zd1).1) (2 : Int), (List.getD p4 (Int.toNat p1) Zd1).2)) (Int.toNat p1) Zd1).2.2.2.2)) p5 p6 p7) (fun (y88 : Int) (y89 : Nat) (y90 : Bool) (y91 y92 : Int) (y93 : List (Int × Int × Int × Int × Int × Int × Bool × Int × PUnit)) (y94 : Int × Bool × PUnit) (y95 : List (Int × Int × Int × Int × Int × List Int × Int × PUnit)) (y96 : Int × Bool × PUnit) (y97 : List (Int × Int × Int × Int × Int × Int × Bool × Int × PUnit)) (y98 : List (Int × Int × Int × Int × Int × List Int × Int × PUnit)) => Sp.L_33_0 m y91 (IntKind.wrap IntKind.i64 (y92 + (1 : Int))) y93 y94 (List.set y95 y89 ((8 : Int), (List.getD y95 y89 Zd1).2.1, (0 : Int), (0 : Int), (0 : Int), [], (0 : Int), PUnit.unit)) y96 y97 y98) (fun (y99 : Int) (y100 : Nat) (y101 : Bool) (y102 y103 : Int) (y104 : List (Int × Int × Int × Int × Int × Int × Bool × Int × PUnit)) (y105 : Int × Bool × PUnit) (y106 : List (Int × Int × Int × Int × Int × List Int × Int × PUnit)) (y107 : Int × Bool × PUnit) (y108 : List (Int × Int × Int × Int × Int × Int × Bool × Int × PUnit)) (y109 : List (Int × Int × Int × Int × Int × List Int × Int × PUnit)) => Sp.L_33_0 m y102 (IntKind.wrap IntKind.i64 (y103 + (1 : Int))) y104 y105 (List.set y106 y100 ((8 : Int), (List.getD y106 y100 Zd1).2.1, (0 : Int), (0 : Int), (0 : Int), [], (0 : Int), PUnit.unit)) y107 y108 y109) (fun (y110 : Int) (y111 : Nat) (y112 : Bool) (y113 y114 : Int) (y115 : List (Int × Int × Int × Int × Int × Int × Bool × Int × PUnit)) (y116 : Int × Bool × PUnit) (y117 : List (Int × Int × Int × Int × Int × List Int × Int × PUnit)) (y118 : Int × Bool × PUnit) (y119 : List (Int × Int × Int × Int × Int × Int × Bool × Int × PUnit)) (y120 : List (Int × Int × Int × Int × Int × List Int × Int × PUnit)) => Sp.L_33_0 m y113 (IntKind.wrap IntKind.i64 (y114 + (1 : Int))) y115 y116 (List.set y117 y111 (Sp.andnI IntKind.i64 ((List.getD y117 y111 Zd1).1) (16 : Int), (List.getD y117 y111 Zd1).2)) y118 y119 y120) fun (y121 : Int) (y122 : Nat) (y123 : Bool) (y124 y125 : Int) (y126 : List (Int × Int × Int × Int × Int × Int × Bool × Int × PUnit)) (y127 : Int × Bool × PUnit) (y128 : List (Int × Int × Int × Int × Int × List Int × Int × PUnit)) (y129 : Int × Bool × PUnit) (y130 : List (Int × Int × Int × Int × Int × Int × Bool × Int × PUnit)) (y131 : List (Int × Int × Int × Int × Int × List Int × Int × PUnit)) => Sp.L_33_0 m y124 (IntKind.wrap IntKind.i64 (y125 + (1 : Int))) y126 y127 y128 y129 y130 y131)) else Sp.B_33_1 (Sp.J_33_1 p1 (Int.toNat p1) (!(Sp.v_40 (List.getD (List.set p4 (Int.toNat p1) (Sp.andnI IntKind.i64 ((List.getD p4 (Int.toNat p1) Zd1).1) (2 : Int), (List.getD p4 (Int.toNat p1) Zd1).2)) (Int.toNat p1) Zd1) (4 : Int)).1) p0 p1 p2 p3 (List.set p4 (Int.toNat p1) (Sp.andnI IntKind.i64 ((List.getD p4 (Int.toNat p1) Zd1).1) (2 : Int), (List.getD p4 (Int.toNat p1) Zd1).2)) p5 p6 p7) (fun (y132 : Int) (y133 : Nat) (y134 : Bool) (y135 y136 : Int) (y137 : List (Int × Int × Int × Int × Int × Int × Bool × Int × PUnit)) (y138 : Int × Bool × PUnit) (y139 : List (Int × Int × Int × Int × Int × List Int × Int × PUnit)) (y140 : Int × Bool × PUnit) (y141 : List (Int × Int × Int × Int × Int × Int × Bool × Int × PUnit)) (y142 : List (Int × Int × Int × Int × Int × List Int × Int × PUnit)) => Sp.L_33_0 m y135 (IntKind.wrap IntKind.i64 (y136 + (1 : Int))) y137 y138 (List.set y139 y133 ((8 : Int), (List.getD y139 y133 Zd1).2.1, (0 : Int), (0 : Int), (0 : Int), [], (0 : Int), PUnit.unit)) y140 y141 y142) (fun (y143 : Int) (y144 : Nat) (y145 : Bool) (y146 y147 : Int) (y148 : List (Int × Int × Int × Int × Int × Int × Bool × Int × PUnit)) (y149 : Int × Bool × PUnit) (y150 : List (Int × Int × Int × Int × Int × List Int × Int × PUnit)) (y151 : Int × Bool × PUnit) (y152 : List (Int × Int × Int × Int × Int × Int × Bool × Int × PUnit)) (y153 : List (Int × Int × Int × Int × Int × List Int × Int × PUnit)) => Sp.L_33_0 m y146 (IntKind.wrap IntKind.i64 (y147 + (1 : Int))) y148 y149 (List.set y150 y144 ((8 : Int), (List.getD y150 y144 Zd1).2.1, (0 : Int), (0 : Int), (0 : Int), [], (0 : Int), PUnit.unit)) y151 y152 y153) (fun (y154 : Int) (y155 : Nat) (y156 : Bool) (y157 y158 : Int) (y159 : List (Int × Int × Int × Int × Int × Int × Bool × Int × PUnit)) (y160 : Int × Bool × PUnit) (y161 : List (Int × Int × Int × Int × Int × List Int × Int × PUnit)) (y162 : Int × Bool × PUnit) (y163 : List (Int × Int × Int × Int × Int × Int × Bool × Int × PUnit)) (y164 : List (Int × Int × Int × Int × Int × List Int × Int × PUnit)) => Sp.L_33_0 m y157 (IntKind.wrap IntKind.i64 (y158 + (1 : Int))) y159 y160 (List.set y161 y155 (Sp.andnI IntKind.i64 ((List.getD y161 y155 Zd1).1) (16 : Int), (List.getD y161 y155 Zd1).2)) y162 y163 y164) fun (y165 : Int) (y166 : Nat) (y167 : Bool) (y168 y169 : Int) (y170 : List (Int × Int × Int × Int × Int × Int × Bool × Int × PUnit)) (y171 : Int × Bool × PUnit) (y172 : List (Int × Int × Int × Int × Int × List Int × Int × PUnit)) (y173 : Int × Bool × PUnit) (y174 : List (Int × Int × Int × Int × Int × Int × Bool × Int × PUnit)) (y175 : List (Int × Int × Int × Int × Int × List Int × Int × PUnit)) => Sp.L_33_0 m y168 (IntKind.wrap IntKind.i64 (y169 + (1 : Int))) y170 y171 y172 y173 y174 y175)))))))) else some (Sp.E_33_0.e0 p2 p3 p4 p5 p6 p7)
def G_33_0 {R : Type} (p0 : Int) (p1 : Int) (p2 : Zt33_2) (p3 : Zt33_6) (p4 : Zt33_3) (p5 : Zt33_6) (p6 : Zt33_2) (p7 : Zt33_3) (k : Ex → St → Option R) : Option R := Sp.B_33_0 (Sp.L_33_0 FU p0 p1 p2 p3 p4 p5 p6 p7) (fun p2 p3 p4 p5 p6 p7 => k (Ex.exit (1 : Nat)) (X_33_0_0 p2 p3 p4 p5 p6 p7))
def o_33_0 {R : Type} (G : (Int) → (Int) → (Zt33_2) → (Zt33_6) → (Zt33_3) → (Zt33_6) → (Zt33_2) → (Zt33_3) → (Ex → St → Option R) → Option R) : St → (Ex → St → Option R) → Option R := fun T k => match T.sl.getD 1 .junk, T.sl.getD 2 .junk, T.sl.getD 22 .junk, T.sl.getD 23 .junk, T.hp with
  | CV.ptr (0 : Nat) [], CV.ptr (2 : Nat) [], CV.int IntKind.i64 p0, CV.int IntKind.i64 p1, ((Blk.mem (CV.pair (CV.pure (Ty.slice (Ty.pair (Ty.int IntKind.i64) (Ty.pair (Ty.int IntKind.i64) (Ty.pair (Ty.int IntKind.i64) (Ty.pair (Ty.int IntKind.i64) (Ty.pair (Ty.int IntKind.i64) (Ty.pair (Ty.int IntKind.i64) (Ty.pair Ty.bool (Ty.pair (Ty.int IntKind.i64) Ty.unit))))))))) p2) (CV.pair (CV.whole (1 : Nat)) (CV.pure (Ty.pair (Ty.int IntKind.i64) (Ty.pair Ty.bool Ty.unit)) p3)))) :: (Blk.vec (46 : Nat) (Ty.pair (Ty.int IntKind.i64) (Ty.pair (Ty.int IntKind.i64) (Ty.pair (Ty.int IntKind.i64) (Ty.pair (Ty.int IntKind.i64) (Ty.pair (Ty.int IntKind.i64) (Ty.pair (Ty.slice (Ty.int IntKind.i64)) (Ty.pair (Ty.int IntKind.i64) Ty.unit))))))) p4) :: (Blk.mem (CV.pair (CV.whole (3 : Nat)) (CV.pair (CV.whole (4 : Nat)) (CV.pure (Ty.pair (Ty.int IntKind.i64) (Ty.pair Ty.bool Ty.unit)) p5)))) :: (Blk.vec (23 : Nat) (Ty.pair (Ty.int IntKind.i64) (Ty.pair (Ty.int IntKind.i64) (Ty.pair (Ty.int IntKind.i64) (Ty.pair (Ty.int IntKind.i64) (Ty.pair (Ty.int IntKind.i64) (Ty.pair (Ty.int IntKind.i64) (Ty.pair Ty.bool (Ty.pair (Ty.int IntKind.i64) Ty.unit)))))))) p6) :: (Blk.vec (46 : Nat) (Ty.pair (Ty.int IntKind.i64) (Ty.pair (Ty.int IntKind.i64) (Ty.pair (Ty.int IntKind.i64) (Ty.pair (Ty.int IntKind.i64) (Ty.pair (Ty.int IntKind.i64) (Ty.pair (Ty.slice (Ty.int IntKind.i64)) (Ty.pair (Ty.int IntKind.i64) Ty.unit))))))) p7) :: []) => gd (shapeOK T 108 [1, 2, 22, 23] (0 : Nat)) (G p0 p1 p2 p3 p4 p5 p6 p7 k)
  | _, _, _, _, _ => none
theorem o_33_0_inv {R : Type} {G : (Int) → (Int) → (Zt33_2) → (Zt33_6) → (Zt33_3) → (Zt33_6) → (Zt33_2) → (Zt33_3) → (Ex → St → Option R) → Option R} {T : St} {k : Ex → St → Option R} {r : R} (h : o_33_0 G T k = some r) : ∃ p0 p1 p2 p3 p4 p5 p6 p7, T = T_33_0 p0 p1 p2 p3 p4 p5 p6 p7 ∧ G p0 p1 p2 p3 p4 p5 p6 p7 k = some r := by
  unfold o_33_0 at h
  split at h
  · obtain ⟨hs, h'⟩ := gd_some h
    refine ⟨_, _, _, _, _, _, _, _, (st_of (asg := [(1, _), (2, _), (22, _), (23, _)]) hs ⟨by assumption, by assumption, by assumption, by assumption, trivial⟩ (by assumption)).trans ?_, h'⟩
    kernel_rfl
  · cases h
def O_33_35_0 {R : Type} : St → (Ex → St → Option R) → Option R := fun T k => o_33_35_0_0 G_33_35_0_0 T k
def O_33_33_1 {R : Type} : St → (Ex → St → Option R) → Option R := fun T k => o_33_1 G_33_1 T k
def O_33_33_0 {R : Type} : St → (Ex → St → Option R) → Option R := fun T k => o_33_0 G_33_0 T k
def g_33_35 {R : Type} : List CV → List Blk → (CV → List Blk → Option R) → Option R := evFnL sm_33 FU (ovr noO (evFn sm_33 fns FU 0)) (ir35_t O_33_35_0) ir35
theorem body_33_35_0_0 {R : Type} (K0 : St → Option R) (K1 : Ex → St → Option R) (p0 : Int) (p1 : Int) (p2 : Zt33_7) (p3 : Zt33_6) (p4 : Zt33_2) (p5 : Zt33_6) (p6 : Zt33_3) (p7 : Zt33_6) (p8 : Zt33_2) (p9 : Zt33_3) : evLB (evCodeL sm_33 FU (ovr noO (evFn sm_33 fns FU 0)) .nil ir35_b0) (St.norm ir35_v0) (T_33_35_0_0 p0 p1 p2 p3 p4 p5 p6 p7 p8 p9) K0 K1 =
  bif decide (p1 < p0) then gd (inB p1 (List.length p6)) (gd (decide (Int.toNat p1 < List.length p6) && true) (gd (room (List.length ((List.getD p6 (Int.toNat p1) (Ty.dflt Zy33_0)).2.2.2.2.2.1)) (8 : Nat)) (gd (inB p1 (List.length p6)) (gd (decide (Int.toNat p1 < List.length p6) && true && true) (K0 (T_33_35_0_0 p0 (IntKind.wrap IntKind.i64 (p1 + (1 : Int))) p2 p3 p4 p5 (List.set p6 (Int.toNat p1) ((List.getD p6 (Int.toNat p1) (Ty.dflt Zy33_0)).1, (List.getD p6 (Int.toNat p1) (Ty.dflt Zy33_0)).2.1, (List.getD p6 (Int.toNat p1) (Ty.dflt Zy33_0)).2.2.1, (List.getD p6 (Int.toNat p1) (Ty.dflt Zy33_0)).2.2.2.1, (List.getD p6 (Int.toNat p1) (Ty.dflt Zy33_0)).2.2.2.2.1, (List.getD p6 (Int.toNat p1) (Ty.dflt Zy33_0)).2.2.2.2.2.1, (List.getD p6 (Int.toNat p1) (Ty.dflt Zy33_0)).2.2.2.2.2.2)) p7 p8 p9)))))) else K1 (Ex.exit (0 : Nat)) (X_33_35_0_0_0 p2 p3 p4 p5 p6 p7 p8 p9) := by kernel_rfl
theorem Bgd_33_35_0_0 {R : Type} {c : Bool} {x : Option R} {y : Option Sp.E_33_35_0_0} {k0 : (Zt33_7) → (Zt33_6) → (Zt33_2) → (Zt33_6) → (Zt33_3) → (Zt33_6) → (Zt33_2) → (Zt33_3) → Option R} (h : x = Sp.B_33_35_0_0 y k0) : gd c x = Sp.B_33_35_0_0 (gd c y) k0 := by cases c; rfl; exact h
theorem Bcond_33_35_0_0 {R : Type} {c : Bool} {x x' : Option R} {y y' : Option Sp.E_33_35_0_0} {k0 : (Zt33_7) → (Zt33_6) → (Zt33_2) → (Zt33_6) → (Zt33_3) → (Zt33_6) → (Zt33_2) → (Zt33_3) → Option R} (h : x = Sp.B_33_35_0_0 y k0) (h' : x' = Sp.B_33_35_0_0 y' k0) : (bif c then x else x') = Sp.B_33_35_0_0 (bif c then y else y') k0 := by cases c; exact h'; exact h
theorem loop_33_35_0_0 {R : Type} (k : Ex → St → Option R) : ∀ (m : Nat) (p0 : Int) (p1 : Int) (p2 : Zt33_7) (p3 : Zt33_6) (p4 : Zt33_2) (p5 : Zt33_6) (p6 : Zt33_3) (p7 : Zt33_6) (p8 : Zt33_2) (p9 : Zt33_3), evLoopN (evCodeL sm_33 FU (ovr noO (evFn sm_33 fns FU 0)) .nil ir35_b0) (St.norm ir35_v0) m (T_33_35_0_0 p0 p1 p2 p3 p4 p5 p6 p7 p8 p9) k = Sp.B_33_35_0_0 (Sp.L_33_35_0_0 m p0 p1 p2 p3 p4 p5 p6 p7 p8 p9) (fun p2 p3 p4 p5 p6 p7 p8 p9 => k (Ex.exit (0 : Nat)) (X_33_35_0_0_0 p2 p3 p4 p5 p6 p7 p8 p9))
  | 0, _, _, _, _, _, _, _, _, _, _ => rfl
  | m + 1, p0, p1, p2, p3, p4, p5, p6, p7, p8, p9 => by
    rw [evLoopN_succ, body_33_35_0_0, Sp.L_33_35_0_0]
    repeat' first | apply Bgd_33_35_0_0 | apply Bcond_33_35_0_0 | exact loop_33_35_0_0 k m _ _ _ _ _ _ _ _ _ _ | rfl
theorem ok_33_35_0_0 {R : Type} (T : St) (k : Ex → St → Option R) (r : R) (h0 : o_33_35_0_0 G_33_35_0_0 T k = some r) : evLoopN (evCode sm_33 FU (evFn sm_33 fns FU 0) ir35_b0) (St.norm ir35_v0) FU T k = some r := by
  obtain ⟨p0, p1, p2, p3, p4, p5, p6, p7, p8, p9, rfl, h⟩ := o_33_35_0_0_inv h0
  refine evLoopN_L (t := .nil) noO_ok trivial _ _ _ _ ?_
  rw [loop_33_35_0_0]
  exact h
theorem OK_33_35_0 {R : Type} (T : St) (k : Ex → St → Option R) (r : R) (h : O_33_35_0 T k = some r) : evLoopN (evCode sm_33 FU (evFn sm_33 fns FU 0) ir35_b0) (St.norm ir35_v0) FU T k = some r := ok_33_35_0_0 T k r h
theorem g_33_35_ok {R : Type} (args : List CV) (hp : List Blk) (k : CV → List Blk → Option R) (r : R) (h : g_33_35 args hp k = some r) : evFn sm_33 fns FU 1 35 args hp k = some r :=
  evFnL_sound (fn := ir35) (t := (ir35_t O_33_35_0)) (o := noO) rfl noO_ok (ir35_tok (fun T k r => OK_33_35_0 T k r)) h
theorem ov_33_33_ok {R : Type} : OvrOK (R := R) (fun f' => bif Nat.beq f' 35 then some (g_33_35) else none) (evFn sm_33 fns FU 1) := by
  intro f' g h args hp k r hg
  dsimp only at h
  by_cases h35 : f' = 35
  · subst h35
    injection h with h
    subst h
    exact evFn_le 0 (g_33_35_ok _ _ _ _ hg)
  rw [nbeq_ne h35, cond_false] at h
  cases h
theorem body_33_1 {R : Type} (K1 : Ex → St → Option R) (p0 : Int) (p1 : Nat) (p2 : Bool) (p3 : Int) (p4 : Int) (p5 : Zt33_2) (p6 : Zt33_6) (p7 : Zt33_3) (p8 : Zt33_6) (p9 : Zt33_2) (p10 : Zt33_3) : evJ (evCodeL sm_33 FU (ovr (fun f' => bif Nat.beq f' 35 then some (g_33_35) else none) (evFn sm_33 fns FU 1)) .nil ir33_b1) (T_33_1 p0 p1 p2 p3 p4 p5 p6 p7 p8 p9 p10) K1 =
  bif p2 then gd (decide (p1 < List.length p7) && true) (gd (decide (p1 < List.length p7) && true && true) (K1 Ex.normal (X_33_1_0 p0 p1 p2 p3 p4 p5 p6 p7 p8 p9 p10))) else gd (decide (p1 < List.length p7) && true) (gd (inB p0 (List.length p5)) (bif (List.getD p7 p1 (Ty.dflt Zy33_0)).2.2.2.1 == (List.getD p5 (Int.toNat p0) (Ty.dflt Zy33_1)).2.2.2.2.1 then gd (decide (p1 < List.length p7) && true) (gd (decide (p1 < List.length p7) && true && true) (K1 Ex.normal (X_33_1_1 p0 p1 p2 p3 p4 p5 p6 p7 p8 p9 p10))) else gd (decide (p1 < List.length p7) && true) (gd (inB p0 (List.length p5)) (bif decide ((List.getD p7 p1 (Ty.dflt Zy33_0)).2.2.2.1 ≥ (List.getD p5 (Int.toNat p0) (Ty.dflt Zy33_1)).2.2.2.1) then gd (decide (p1 < List.length p7) && true) (gd (decide (p1 < List.length p7) && true && true) (K1 Ex.normal (X_33_1_2 p0 p1 p2 p3 p4 p5 p6 p7 p8 p9 p10))) else K1 Ex.normal (X_33_1_3 p0 p1 p2 p3 p4 p5 p6 p7 p8 p9 p10))))) := by kernel_rfl
theorem Bgd_33_1 {R : Type} {c : Bool} {x : Option R} {y : Option Sp.E_33_1} {k0 : (Int) → (Nat) → (Bool) → (Int) → (Int) → (Zt33_2) → (Zt33_6) → (Zt33_3) → (Zt33_6) → (Zt33_2) → (Zt33_3) → Option R} {k1 : (Int) → (Nat) → (Bool) → (Int) → (Int) → (Zt33_2) → (Zt33_6) → (Zt33_3) → (Zt33_6) → (Zt33_2) → (Zt33_3) → Option R} {k2 : (Int) → (Nat) → (Bool) → (Int) → (Int) → (Zt33_2) → (Zt33_6) → (Zt33_3) → (Zt33_6) → (Zt33_2) → (Zt33_3) → Option R} {k3 : (Int) → (Nat) → (Bool) → (Int) → (Int) → (Zt33_2) → (Zt33_6) → (Zt33_3) → (Zt33_6) → (Zt33_2) → (Zt33_3) → Option R} (h : x = Sp.B_33_1 y k0 k1 k2 k3) : gd c x = Sp.B_33_1 (gd c y) k0 k1 k2 k3 := by cases c; rfl; exact h
theorem Bcond_33_1 {R : Type} {c : Bool} {x x' : Option R} {y y' : Option Sp.E_33_1} {k0 : (Int) → (Nat) → (Bool) → (Int) → (Int) → (Zt33_2) → (Zt33_6) → (Zt33_3) → (Zt33_6) → (Zt33_2) → (Zt33_3) → Option R} {k1 : (Int) → (Nat) → (Bool) → (Int) → (Int) → (Zt33_2) → (Zt33_6) → (Zt33_3) → (Zt33_6) → (Zt33_2) → (Zt33_3) → Option R} {k2 : (Int) → (Nat) → (Bool) → (Int) → (Int) → (Zt33_2) → (Zt33_6) → (Zt33_3) → (Zt33_6) → (Zt33_2) → (Zt33_3) → Option R} {k3 : (Int) → (Nat) → (Bool) → (Int) → (Int) → (Zt33_2) → (Zt33_6) → (Zt33_3) → (Zt33_6) → (Zt33_2) → (Zt33_3) → Option R} (h : x = Sp.B_33_1 y k0 k1 k2 k3) (h' : x' = Sp.B_33_1 y' k0 k1 k2 k3) : (bif c then x else x') = Sp.B_33_1 (bif c then y else y') k0 k1 k2 k3 := by cases c; exact h'; exact h
theorem loop_33_1 {R : Type} (k : Ex → St → Option R) (p0 : Int) (p1 : Nat) (p2 : Bool) (p3 : Int) (p4 : Int) (p5 : Zt33_2) (p6 : Zt33_6) (p7 : Zt33_3) (p8 : Zt33_6) (p9 : Zt33_2) (p10 : Zt33_3) : evJ (evCodeL sm_33 FU (ovr (fun f' => bif Nat.beq f' 35 then some (g_33_35) else none) (evFn sm_33 fns FU 1)) .nil ir33_b1) (T_33_1 p0 p1 p2 p3 p4 p5 p6 p7 p8 p9 p10) k = Sp.B_33_1 (Sp.J_33_1 p0 p1 p2 p3 p4 p5 p6 p7 p8 p9 p10) (fun p0 p1 p2 p3 p4 p5 p6 p7 p8 p9 p10 => k Ex.normal (X_33_1_0 p0 p1 p2 p3 p4 p5 p6 p7 p8 p9 p10)) (fun p0 p1 p2 p3 p4 p5 p6 p7 p8 p9 p10 => k Ex.normal (X_33_1_1 p0 p1 p2 p3 p4 p5 p6 p7 p8 p9 p10)) (fun p0 p1 p2 p3 p4 p5 p6 p7 p8 p9 p10 => k Ex.normal (X_33_1_2 p0 p1 p2 p3 p4 p5 p6 p7 p8 p9 p10)) (fun p0 p1 p2 p3 p4 p5 p6 p7 p8 p9 p10 => k Ex.normal (X_33_1_3 p0 p1 p2 p3 p4 p5 p6 p7 p8 p9 p10)) := by
  rw [body_33_1, Sp.J_33_1]
  repeat' first | apply Bgd_33_1 | apply Bcond_33_1 | rfl
theorem ok_33_1 {R : Type} (T : St) (k : Ex → St → Option R) (r : R) (h0 : o_33_1 G_33_1 T k = some r) : evCode sm_33 FU (evFn sm_33 fns FU 1) ir33_b1 T k = some r := by
  obtain ⟨p0, p1, p2, p3, p4, p5, p6, p7, p8, p9, p10, rfl, h⟩ := o_33_1_inv h0
  refine bodyL_sound (t := .nil) ov_33_33_ok trivial (((show ∀ (b : St → (Ex → St → Option R) → Option R) (T : St) (k : Ex → St → Option R), b T k = evJ b T k from fun _ _ _ => rfl) _ _ _).trans ((loop_33_1 k p0 p1 p2 p3 p4 p5 p6 p7 p8 p9 p10).trans h))
theorem OK_33_33_1 {R : Type} (T : St) (k : Ex → St → Option R) (r : R) (h : O_33_33_1 T k = some r) : evCode sm_33 FU (evFn sm_33 fns FU 1) ir33_b1 T k = some r := ok_33_1 T k r h
theorem body_33_0 {R : Type} (K0 : St → Option R) (K1 : Ex → St → Option R) (p0 : Int) (p1 : Int) (p2 : Zt33_2) (p3 : Zt33_6) (p4 : Zt33_3) (p5 : Zt33_6) (p6 : Zt33_2) (p7 : Zt33_3) : evLB (evCodeL sm_33 FU (ovr (fun f' => bif Nat.beq f' 35 then some (g_33_35) else none) (evFn sm_33 fns FU 1)) (ir33_bt0 O_33_33_1) ir33_b0) (St.norm ir33_v0) (T_33_0 p0 p1 p2 p3 p4 p5 p6 p7) K0 K1 =
  bif decide (p1 < p0) then gd (inB p1 (List.length p4)) (gd (decide (Int.toNat p1 < List.length p4) && true) (gd (Sp.p_40 (List.getD p4 (Int.toNat p1) (Ty.dflt Zy33_0)) (8 : Int)) (bif !(Sp.v_40 (List.getD p4 (Int.toNat p1) (Ty.dflt Zy33_0)) (8 : Int)).1 then K0 (T_33_0 p0 (IntKind.wrap IntKind.i64 (p1 + (1 : Int))) p2 p3 p4 p5 p6 p7) else gd (decide (Int.toNat p1 < List.length p4) && true) (bif (List.getD p4 (Int.toNat p1) (Ty.dflt Zy33_0)).2.2.2.2.2.2.1 == p3.1 then K0 (T_33_0 p0 (IntKind.wrap IntKind.i64 (p1 + (1 : Int))) p2 p3 p4 p5 p6 p7) else gd (decide (Int.toNat p1 < List.length p4) && true) (gd (decide (Int.toNat p1 < List.length p4) && true && true) (gd (decide (Int.toNat p1 < List.length (List.set p4 (Int.toNat p1) (Sp.andnI IntKind.i64 ((List.getD p4 (Int.toNat p1) (Ty.dflt Zy33_0)).1) (2 : Int), (List.getD p4 (Int.toNat p1) (Ty.dflt Zy33_0)).2))) && true) (gd (Sp.p_40 (List.getD (List.set p4 (Int.toNat p1) (Sp.andnI IntKind.i64 ((List.getD p4 (Int.toNat p1) (Ty.dflt Zy33_0)).1) (2 : Int), (List.getD p4 (Int.toNat p1) (Ty.dflt Zy33_0)).2)) (Int.toNat p1) (Ty.dflt Zy33_0)) (4 : Int)) (bif !!(Sp.v_40 (List.getD (List.set p4 (Int.toNat p1) (Sp.andnI IntKind.i64 ((List.getD p4 (Int.toNat p1) (Ty.dflt Zy33_0)).1) (2 : Int), (List.getD p4 (Int.toNat p1) (Ty.dflt Zy33_0)).2)) (Int.toNat p1) (Ty.dflt Zy33_0)) (4 : Int)).1 then gd (decide (Int.toNat p1 < List.length (List.set p4 (Int.toNat p1) (Sp.andnI IntKind.i64 ((List.getD p4 (Int.toNat p1) (Ty.dflt Zy33_0)).1) (2 : Int), (List.getD p4 (Int.toNat p1) (Ty.dflt Zy33_0)).2))) && true) (gd (decide (Int.toNat p1 < List.length (List.set p4 (Int.toNat p1) (Sp.andnI IntKind.i64 ((List.getD p4 (Int.toNat p1) (Ty.dflt Zy33_0)).1) (2 : Int), (List.getD p4 (Int.toNat p1) (Ty.dflt Zy33_0)).2))) && true && true) (Sp.B_33_1 (Sp.J_33_1 p1 (Int.toNat p1) (!(Sp.v_40 (List.getD (List.set p4 (Int.toNat p1) (Sp.andnI IntKind.i64 ((List.getD p4 (Int.toNat p1) (Ty.dflt Zy33_0)).1) (2 : Int), (List.getD p4 (Int.toNat p1) (Ty.dflt Zy33_0)).2)) (Int.toNat p1) (Ty.dflt Zy33_0)) (4 : Int)).1) p0 p1 p2 p3 (List.set (List.set p4 (Int.toNat p1) (Sp.andnI IntKind.i64 ((List.getD p4 (Int.toNat p1) (Ty.dflt Zy33_0)).1) (2 : Int), (List.getD p4 (Int.toNat p1) (Ty.dflt Zy33_0)).2)) (Int.toNat p1) ((List.getD (List.set p4 (Int.toNat p1) (Sp.andnI IntKind.i64 ((List.getD p4 (Int.toNat p1) (Ty.dflt Zy33_0)).1) (2 : Int), (List.getD p4 (Int.toNat p1) (Ty.dflt Zy33_0)).2)) (Int.toNat p1) (Ty.dflt Zy33_0)).1, (List.getD (List.set p4 (Int.toNat p1) (Sp.andnI IntKind.i64 ((List.getD p4 (Int.toNat p1) (Ty.dflt Zy33_0)).1) (2 : Int), (List.getD p4 (Int.toNat p1) (Ty.dflt Zy33_0)).2)) (Int.toNat p1) (Ty.dflt Zy33_0)).2.1, (List.getD (List.set p4 (Int.toNat p1) (Sp.andnI IntKind.i64 ((List.getD p4 (Int.toNat p1) (Ty.dflt Zy33_0)).1) (2 : Int), (List.getD p4 (Int.toNat p1) (Ty.dflt Zy33_0)).2)) (Int.toNat p1) (Ty.dflt Zy33_0)).2.2.1, IntKind.wrap IntKind.i64 ((List.getD (List.set p4 (Int.toNat p1) (Sp.andnI IntKind.i64 ((List.getD p4 (Int.toNat p1) (Ty.dflt Zy33_0)).1) (2 : Int), (List.getD p4 (Int.toNat p1) (Ty.dflt Zy33_0)).2)) (Int.toNat p1) (Ty.dflt Zy33_0)).2.2.2.1 + (1 : Int)), (List.getD (List.set p4 (Int.toNat p1) (Sp.andnI IntKind.i64 ((List.getD p4 (Int.toNat p1) (Ty.dflt Zy33_0)).1) (2 : Int), (List.getD p4 (Int.toNat p1) (Ty.dflt Zy33_0)).2)) (Int.toNat p1) (Ty.dflt Zy33_0)).2.2.2.2)) p5 p6 p7) (fun (y88 : Int) (y89 : Nat) (y90 : Bool) (y91 y92 : Int) (y93 : Zt33_2) (y94 : Zt33_6) (y95 : Zt33_3) (y96 : Zt33_6) (y97 : Zt33_2) (y98 : Zt33_3) => K0 (T_33_0 y91 (IntKind.wrap IntKind.i64 (y92 + (1 : Int))) y93 y94 (List.set y95 y89 ((8 : Int), (List.getD y95 y89 (Ty.dflt Zy33_0)).2.1, (0 : Int), (0 : Int), (0 : Int), [], (0 : Int), PUnit.unit)) y96 y97 y98)) (fun (y99 : Int) (y100 : Nat) (y101 : Bool) (y102 y103 : Int) (y104 : Zt33_2) (y105 : Zt33_6) (y106 : Zt33_3) (y107 : Zt33_6) (y108 : Zt33_2) (y109 : Zt33_3) => K0 (T_33_0 y102 (IntKind.wrap IntKind.i64 (y103 + (1 : Int))) y104 y105 (List.set y106 y100 ((8 : Int), (List.getD y106 y100 (Ty.dflt Zy33_0)).2.1, (0 : Int), (0 : Int), (0 : Int), [], (0 : Int), PUnit.unit)) y107 y108 y109)) (fun (y110 : Int) (y111 : Nat) (y112 : Bool) (y113 y114 : Int) (y115 : Zt33_2) (y116 : Zt33_6) (y117 : Zt33_3) (y118 : Zt33_6) (y119 : Zt33_2) (y120 : Zt33_3) => K0 (T_33_0 y113 (IntKind.wrap IntKind.i64 (y114 + (1 : Int))) y115 y116 (List.set y117 y111 (Sp.andnI IntKind.i64 ((List.getD y117 y111 (Ty.dflt Zy33_0)).1) (16 : Int), (List.getD y117 y111 (Ty.dflt Zy33_0)).2)) y118 y119 y120)) fun (y121 : Int) (y122 : Nat) (y123 : Bool) (y124 y125 : Int) (y126 : Zt33_2) (y127 : Zt33_6) (y128 : Zt33_3) (y129 : Zt33_6) (y130 : Zt33_2) (y131 : Zt33_3) => K0 (T_33_0 y124 (IntKind.wrap IntKind.i64 (y125 + (1 : Int))) y126 y127 y128 y129 y130 y131))) else Sp.B_33_1 (Sp.J_33_1 p1 (Int.toNat p1) (!(Sp.v_40 (List.getD (List.set p4 (Int.toNat p1) (Sp.andnI IntKind.i64 ((List.getD p4 (Int.toNat p1) (Ty.dflt Zy33_0)).1) (2 : Int), (List.getD p4 (Int.toNat p1) (Ty.dflt Zy33_0)).2)) (Int.toNat p1) (Ty.dflt Zy33_0)) (4 : Int)).1) p0 p1 p2 p3 (List.set p4 (Int.toNat p1) (Sp.andnI IntKind.i64 ((List.getD p4 (Int.toNat p1) (Ty.dflt Zy33_0)).1) (2 : Int), (List.getD p4 (Int.toNat p1) (Ty.dflt Zy33_0)).2)) p5 p6 p7) (fun (y132 : Int) (y133 : Nat) (y134 : Bool) (y135 y136 : Int) (y137 : Zt33_2) (y138 : Zt33_6) (y139 : Zt33_3) (y140 : Zt33_6) (y141 : Zt33_2) (y142 : Zt33_3) => K0 (T_33_0 y135 (IntKind.wrap IntKind.i64 (y136 + (1 : Int))) y137 y138 (List.set y139 y133 ((8 : Int), (List.getD y139 y133 (Ty.dflt Zy33_0)).2.1, (0 : Int), (0 : Int), (0 : Int), [], (0 : Int), PUnit.unit)) y140 y141 y142)) (fun (y143 : Int) (y144 : Nat) (y145 : Bool) (y146 y147 : Int) (y148 : Zt33_2) (y149 : Zt33_6) (y150 : Zt33_3) (y151 : Zt33_6) (y152 : Zt33_2) (y153 : Zt33_3) => K0 (T_33_0 y146 (IntKind.wrap IntKind.i64 (y147 + (1 : Int))) y148 y149 (List.set y150 y144 ((8 : Int), (List.getD y150 y144 (Ty.dflt Zy33_0)).2.1, (0 : Int), (0 : Int), (0 : Int), [], (0 : Int), PUnit.unit)) y151 y152 y153)) (fun (y154 : Int) (y155 : Nat) (y156 : Bool) (y157 y158 : Int) (y159 : Zt33_2) (y160 : Zt33_6) (y161 : Zt33_3) (y162 : Zt33_6) (y163 : Zt33_2) (y164 : Zt33_3) => K0 (T_33_0 y157 (IntKind.wrap IntKind.i64 (y158 + (1 : Int))) y159 y160 (List.set y161 y155 (Sp.andnI IntKind.i64 ((List.getD y161 y155 (Ty.dflt Zy33_0)).1) (16 : Int), (List.getD y161 y155 (Ty.dflt Zy33_0)).2)) y162 y163 y164)) fun (y165 : Int) (y166 : Nat) (y167 : Bool) (y168 y169 : Int) (y170 : Zt33_2) (y171 : Zt33_6) (y172 : Zt33_3) (y173 : Zt33_6) (y174 : Zt33_2) (y175 : Zt33_3) => K0 (T_33_0 y168 (IntKind.wrap IntKind.i64 (y169 + (1 : Int))) y170 y171 y172 y173 y174 y175))))))))) else K1 (Ex.exit (1 : Nat)) (X_33_0_0 p2 p3 p4 p5 p6 p7) := by kernel_rfl
theorem Bgd_33_0 {R : Type} {c : Bool} {x : Option R} {y : Option Sp.E_33_0} {k0 : (Zt33_2) → (Zt33_6) → (Zt33_3) → (Zt33_6) → (Zt33_2) → (Zt33_3) → Option R} (h : x = Sp.B_33_0 y k0) : gd c x = Sp.B_33_0 (gd c y) k0 := by cases c; rfl; exact h
theorem Bcond_33_0 {R : Type} {c : Bool} {x x' : Option R} {y y' : Option Sp.E_33_0} {k0 : (Zt33_2) → (Zt33_6) → (Zt33_3) → (Zt33_6) → (Zt33_2) → (Zt33_3) → Option R} (h : x = Sp.B_33_0 y k0) (h' : x' = Sp.B_33_0 y' k0) : (bif c then x else x') = Sp.B_33_0 (bif c then y else y') k0 := by cases c; exact h'; exact h
theorem Bin_33_0_33_1 {R : Type} {r : Option Sp.E_33_1} {k0 : (Zt33_2) → (Zt33_6) → (Zt33_3) → (Zt33_6) → (Zt33_2) → (Zt33_3) → Option R} {f0 : (Int) → (Nat) → (Bool) → (Int) → (Int) → (Zt33_2) → (Zt33_6) → (Zt33_3) → (Zt33_6) → (Zt33_2) → (Zt33_3) → Option R} {f1 : (Int) → (Nat) → (Bool) → (Int) → (Int) → (Zt33_2) → (Zt33_6) → (Zt33_3) → (Zt33_6) → (Zt33_2) → (Zt33_3) → Option R} {f2 : (Int) → (Nat) → (Bool) → (Int) → (Int) → (Zt33_2) → (Zt33_6) → (Zt33_3) → (Zt33_6) → (Zt33_2) → (Zt33_3) → Option R} {f3 : (Int) → (Nat) → (Bool) → (Int) → (Int) → (Zt33_2) → (Zt33_6) → (Zt33_3) → (Zt33_6) → (Zt33_2) → (Zt33_3) → Option R} {g0 : (Int) → (Nat) → (Bool) → (Int) → (Int) → (Zt33_2) → (Zt33_6) → (Zt33_3) → (Zt33_6) → (Zt33_2) → (Zt33_3) → Option Sp.E_33_0} {g1 : (Int) → (Nat) → (Bool) → (Int) → (Int) → (Zt33_2) → (Zt33_6) → (Zt33_3) → (Zt33_6) → (Zt33_2) → (Zt33_3) → Option Sp.E_33_0} {g2 : (Int) → (Nat) → (Bool) → (Int) → (Int) → (Zt33_2) → (Zt33_6) → (Zt33_3) → (Zt33_6) → (Zt33_2) → (Zt33_3) → Option Sp.E_33_0} {g3 : (Int) → (Nat) → (Bool) → (Int) → (Int) → (Zt33_2) → (Zt33_6) → (Zt33_3) → (Zt33_6) → (Zt33_2) → (Zt33_3) → Option Sp.E_33_0} (h0 : ∀ z0 z1 z2 z3 z4 z5 z6 z7 z8 z9 z10, f0 z0 z1 z2 z3 z4 z5 z6 z7 z8 z9 z10 = Sp.B_33_0 (g0 z0 z1 z2 z3 z4 z5 z6 z7 z8 z9 z10) k0) (h1 : ∀ z0 z1 z2 z3 z4 z5 z6 z7 z8 z9 z10, f1 z0 z1 z2 z3 z4 z5 z6 z7 z8 z9 z10 = Sp.B_33_0 (g1 z0 z1 z2 z3 z4 z5 z6 z7 z8 z9 z10) k0) (h2 : ∀ z0 z1 z2 z3 z4 z5 z6 z7 z8 z9 z10, f2 z0 z1 z2 z3 z4 z5 z6 z7 z8 z9 z10 = Sp.B_33_0 (g2 z0 z1 z2 z3 z4 z5 z6 z7 z8 z9 z10) k0) (h3 : ∀ z0 z1 z2 z3 z4 z5 z6 z7 z8 z9 z10, f3 z0 z1 z2 z3 z4 z5 z6 z7 z8 z9 z10 = Sp.B_33_0 (g3 z0 z1 z2 z3 z4 z5 z6 z7 z8 z9 z10) k0) : Sp.B_33_1 r f0 f1 f2 f3 = Sp.B_33_0 (Sp.B_33_1 r g0 g1 g2 g3) k0 := by
  cases r with
  | none => rfl
  | some e => cases e with
    | e0 z0 z1 z2 z3 z4 z5 z6 z7 z8 z9 z10 => exact h0 _ _ _ _ _ _ _ _ _ _ _
    | e1 z0 z1 z2 z3 z4 z5 z6 z7 z8 z9 z10 => exact h1 _ _ _ _ _ _ _ _ _ _ _
    | e2 z0 z1 z2 z3 z4 z5 z6 z7 z8 z9 z10 => exact h2 _ _ _ _ _ _ _ _ _ _ _
    | e3 z0 z1 z2 z3 z4 z5 z6 z7 z8 z9 z10 => exact h3 _ _ _ _ _ _ _ _ _ _ _
theorem loop_33_0 {R : Type} (k : Ex → St → Option R) : ∀ (m : Nat) (p0 : Int) (p1 : Int) (p2 : Zt33_2) (p3 : Zt33_6) (p4 : Zt33_3) (p5 : Zt33_6) (p6 : Zt33_2) (p7 : Zt33_3), evLoopN (evCodeL sm_33 FU (ovr (fun f' => bif Nat.beq f' 35 then some (g_33_35) else none) (evFn sm_33 fns FU 1)) (ir33_bt0 O_33_33_1) ir33_b0) (St.norm ir33_v0) m (T_33_0 p0 p1 p2 p3 p4 p5 p6 p7) k = Sp.B_33_0 (Sp.L_33_0 m p0 p1 p2 p3 p4 p5 p6 p7) (fun p2 p3 p4 p5 p6 p7 => k (Ex.exit (1 : Nat)) (X_33_0_0 p2 p3 p4 p5 p6 p7))
  | 0, _, _, _, _, _, _, _, _ => rfl
  | m + 1, p0, p1, p2, p3, p4, p5, p6, p7 => by
    rw [evLoopN_succ, body_33_0, Sp.L_33_0]
    repeat' first | apply Bgd_33_0 | apply Bcond_33_0 | (apply Bin_33_0_33_1 <;> intros) | exact loop_33_0 k m _ _ _ _ _ _ _ _ | rfl
theorem ok_33_0 {R : Type} (T : St) (k : Ex → St → Option R) (r : R) (h0 : o_33_0 G_33_0 T k = some r) : evLoopN (evCode sm_33 FU (evFn sm_33 fns FU 1) ir33_b0) (St.norm ir33_v0) FU T k = some r := by
  obtain ⟨p0, p1, p2, p3, p4, p5, p6, p7, rfl, h⟩ := o_33_0_inv h0
  refine evLoopN_L (t := (ir33_bt0 O_33_33_1)) ov_33_33_ok (ir33_bt0ok (fun T k r => OK_33_33_1 T k r)) _ _ _ _ ?_
  rw [loop_33_0]
  exact h
theorem OK_33_33_0 {R : Type} (T : St) (k : Ex → St → Option R) (r : R) (h : O_33_33_0 T k = some r) : evLoopN (evCode sm_33 FU (evFn sm_33 fns FU 1) ir33_b0) (St.norm ir33_v0) FU T k = some r := ok_33_0 T k r h
def F_33 (a0 : ((List (Int × (Int × (Int × (Int × (Int × (Int × (Bool × (Int × Unit))))))))) × ((List (Int × (Int × (Int × (Int × (Int × ((List Int) × (Int × Unit)))))))) × (Int × (Bool × Unit))))) : Option (((List (Int × (Int × (Int × (Int × (Int × (Int × (Bool × (Int × Unit))))))))) × ((List (Int × (Int × (Int × (Int × (Int × ((List Int) × (Int × Unit)))))))) × (Int × (Bool × Unit)))) × Int × Unit) :=
  gd (Sp.p_15 a0) (bif !(Sp.v_15 a0).1 then some (([], [], (0 : Int), false, PUnit.unit), (1 : Int), PUnit.unit) else bif !a0.2.2.2.1 then some (([], [], (0 : Int), false, PUnit.unit), (6 : Int), PUnit.unit) else gd (room (List.length (a0.2.1)) (72 : Nat)) (Sp.B_33_35_0_0 (Sp.L_33_35_0_0 (4611686018427387904 : Nat) (↑(List.length (a0.2.1)) : Int) (0 : Int) a0 ((0 : Int), false, PUnit.unit) (a0.1) (a0.2.2) (a0.2.1) ((0 : Int), false, PUnit.unit) [] []) fun (y14 : List (Int × Int × Int × Int × Int × Int × Bool × Int × PUnit) × List (Int × Int × Int × Int × Int × List Int × Int × PUnit) × Int × Bool × PUnit) (y15 : Int × Bool × PUnit) (y16 : List (Int × Int × Int × Int × Int × Int × Bool × Int × PUnit)) (y17 : Int × Bool × PUnit) (y18 : List (Int × Int × Int × Int × Int × List Int × Int × PUnit)) (y19 : Int × Bool × PUnit) (y20 : List (Int × Int × Int × Int × Int × Int × Bool × Int × PUnit)) (y21 : List (Int × Int × Int × Int × Int × List Int × Int × PUnit)) => Sp.B_33_0 (Sp.L_33_0 (4611686018427387904 : Nat) (↑(List.length y18) : Int) (0 : Int) y16 (y17.1, false, y17.2.2) y18 y15 [] []) fun (y22 : List (Int × Int × Int × Int × Int × Int × Bool × Int × PUnit)) (y23 : Int × Bool × PUnit) (y24 : List (Int × Int × Int × Int × Int × List Int × Int × PUnit)) (y25 : Int × Bool × PUnit) (y26 : List (Int × Int × Int × Int × Int × Int × Bool × Int × PUnit)) (y27 : List (Int × Int × Int × Int × Int × List Int × Int × PUnit)) => some ((y22, y24, y23), (0 : Int), PUnit.unit)))
theorem fn_33 (a0 : ((List (Int × (Int × (Int × (Int × (Int × (Int × (Bool × (Int × Unit))))))))) × ((List (Int × (Int × (Int × (Int × (Int × ((List Int) × (Int × Unit)))))))) × (Int × (Bool × Unit))))) : evFnL sm_33 FU (ovr (fun f' => bif Nat.beq f' 35 then some (g_33_35) else none) (evFn sm_33 fns FU 1)) (ir33_t O_33_33_0) ir33 (ofH [Zy33_5] (a0, ())) [] (pureK [Zy33_5, (.int .i64)]) = F_33 a0 := by kernel_rfl
def Sp.p_33 (a0 : ((List (Int × (Int × (Int × (Int × (Int × (Int × (Bool × (Int × Unit))))))))) × ((List (Int × (Int × (Int × (Int × (Int × ((List Int) × (Int × Unit)))))))) × (Int × (Bool × Unit))))) : Bool := (F_33 a0).isSome
def Sp.v_33 (a0 : ((List (Int × (Int × (Int × (Int × (Int × (Int × (Bool × (Int × Unit))))))))) × ((List (Int × (Int × (Int × (Int × (Int × ((List Int) × (Int × Unit)))))))) × (Int × (Bool × Unit))))) : ((List (Int × (Int × (Int × (Int × (Int × (Int × (Bool × (Int × Unit))))))))) × ((List (Int × (Int × (Int × (Int × (Int × ((List Int) × (Int × Unit)))))))) × (Int × (Bool × Unit)))) × Int × Unit := (F_33 a0).getD (dfH [Zy33_5, (.int .i64)])
def s_33 : Summ := shS [Zy33_5] [Zy33_5, (.int .i64)] (fun x => Sp.p_33 x.1) (fun x => Sp.v_33 x.1)
theorem pv_33 (a0 : ((List (Int × (Int × (Int × (Int × (Int × (Int × (Bool × (Int × Unit))))))))) × ((List (Int × (Int × (Int × (Int × (Int × ((List Int) × (Int × Unit)))))))) × (Int × (Bool × Unit))))) {y : ((List (Int × (Int × (Int × (Int × (Int × (Int × (Bool × (Int × Unit))))))))) × ((List (Int × (Int × (Int × (Int × (Int × ((List Int) × (Int × Unit)))))))) × (Int × (Bool × Unit)))) × Int × Unit} (h : F_33 a0 = some y) : Sp.p_33 a0 = true ∧ Sp.v_33 a0 = y := ⟨by rw [Sp.p_33, h]; rfl, by rw [Sp.v_33, h]; rfl⟩
theorem run_33 (x : HDen [Zy33_5]) (y : HDen [Zy33_5, (.int .i64)]) (h : F_33 x.1 = some y) : evFn sm_33 fns FU 2 33 (ofH [Zy33_5] x) [] (pureK [Zy33_5, (.int .i64)]) = some y :=
  evFnL_sound (fn := ir33) (t := (ir33_t O_33_33_0)) (o := (fun f' => bif Nat.beq f' 35 then some (g_33_35) else none)) rfl ov_33_33_ok (ir33_tok (fun T k r => OK_33_33_0 T k r)) ((fn_33 _).trans h)
end
end Go.Ev
namespace Go.Ev
open Go
set_option maxRecDepth 100000
set_option maxHeartbeats 4000000
set_option linter.unusedVariables false
noncomputable section
abbrev Zy21_0 : Ty := (Ty.pair (Ty.int IntKind.i64) (Ty.pair (Ty.int IntKind.i64) (Ty.pair (Ty.int IntKind.i64) (Ty.pair (Ty.int IntKind.i64) (Ty.pair (Ty.int IntKind.i64) (Ty.pair (Ty.int IntKind.i64) (Ty.pair Ty.bool (Ty.pair (Ty.int IntKind.i64) Ty.unit))))))))
abbrev Zy21_1 : Ty := (.pair (.slice (.pair (.int .i64) (.pair (.int .i64) (.pair (.int .i64) (.pair (.int .i64) (.pair (.int .i64) (.pair (.int .i64) (.pair .bool (.pair (.int .i64) .unit))))))))) (.pair (.slice (.pair (.int .i64) (.pair (.int .i64) (.pair (.int .i64) (.pair (.int .i64) (.pair (.int .i64) (.pair (.slice (.int .i64)) (.pair (.int .i64) .unit)))))))) (.pair (.int .i64) (.pair .bool .unit))))
abbrev Zt21_2 : Type := List (Int × Int × Int × Int × Int × Int × Bool × Int × Unit) × List (Int × Int × Int × Int × Int × List Int × Int × Unit) × Int × Bool × Unit
abbrev Zy21_3 : Ty := (Ty.pair (Ty.slice (Ty.pair (Ty.int IntKind.i64) (Ty.pair (Ty.int IntKind.i64) (Ty.pair (Ty.int IntKind.i64) (Ty.pair (Ty.int IntKind.i64) (Ty.pair (Ty.int IntKind.i64) (Ty.pair (Ty.int IntKind.i64) (Ty.pair Ty.bool (Ty.pair (Ty.int IntKind.i64) Ty.unit))))))))) (Ty.pair (Ty.slice (Ty.pair (Ty.int IntKind.i64) (Ty.pair (Ty.int IntKind.i64) (Ty.pair (Ty.int IntKind.i64) (Ty.pair (Ty.int IntKind.i64) (Ty.pair (Ty.int IntKind.i64) (Ty.pair (Ty.slice (Ty.int IntKind.i64)) (Ty.pair (Ty.int IntKind.i64) Ty.unit)))))))) (Ty.pair (Ty.int IntKind.i64) (Ty.pair Ty.bool Ty.unit))))
abbrev Zt21_4 : Type := List (Int × Int × Int × Int × Int × Int × Bool × Int × Unit)
abbrev Zt21_5 : Type := List (Int × Int × Int × Int × Int × List Int × Int × Unit)
abbrev Zy21_6 : Ty := (Ty.pair (Ty.int IntKind.i64) (Ty.pair (Ty.int IntKind.i64) (Ty.pair (Ty.int IntKind.i64) (Ty.pair (Ty.int IntKind.i64) (Ty.pair (Ty.int IntKind.i64) (Ty.pair (Ty.slice (Ty.int IntKind.i64)) (Ty.pair (Ty.int IntKind.i64) Ty.unit)))))))
abbrev Zt21_7 : Type := Int × Bool × Unit

def sm_21 : Nat → Option Summ := fun f => bif Nat.beq f 19 then some s_19 else bif Nat.beq f 20 then some s_20 else bif Nat.beq f 33 then some s_33 else none
def T_21_0 (p0 : Int) (p1 : List Bool) (p2 : Int) (p3 : Int) (p4 : Zt21_2) (p5 : Zt21_7) (p6 : Zt21_4) (p7 : Zt21_5) : St := St.mk ([jk, CV.int IntKind.i64 p0, jk, CV.ptr (0 : Nat) [], jk, jk, CV.ptr (1 : Nat) []] ++ (jl 19 ++ ([CV.pure (Ty.slice Ty.bool) p1, CV.int IntKind.i64 p2, CV.int IntKind.i64 p3] ++ (jl 44)))) [Blk.mem (CV.pure Zy21_3 p4), Blk.mem (CV.pair (CV.whole (2 : Nat)) (CV.pair (CV.whole (3 : Nat)) (CV.pure (Ty.pair (Ty.int IntKind.i64) (Ty.pair Ty.bool Ty.unit)) p5))), Blk.vec (23 : Nat) Zy21_0 p6, Blk.vec (46 : Nat) Zy21_6 p7] (0 : Nat)
def X_21_0_0 (p4 : Zt21_2) : St := St.mk (jl 6 ++ ([CV.ptr (0 : Nat) [], CV.bool false] ++ (jl 65))) [Blk.mem (CV.pure Zy21_3 p4)] (0 : Nat)
def X_21_0_1 (p0 : Int) (p1 : List Bool) (p3 : Int) (p4 : Zt21_2) : St := St.mk (jl 6 ++ ([CV.ptr (0 : Nat) [], CV.bool false] ++ (jl 65))) [Blk.mem (CV.pure Zy21_3 (((Sp.v_20 p4 p0 (List.getD p1 (Int.toNat p3) false) (List.replicate (Int.toNat (if (if (8 : Int) < (List.getD (p4.1) (Int.toNat p0) (Ty.dflt Zy21_0)).2.2.2.2.2.2.2.1 then (8 : Int) else (List.getD (p4.1) (Int.toNat p0) (Ty.dflt Zy21_0)).2.2.2.2.2.2.2.1) > (0 : Int) then if (8 : Int) < (List.getD (p4.1) (Int.toNat p0) (Ty.dflt Zy21_0)).2.2.2.2.2.2.2.1 then (8 : Int) else (List.getD (p4.1) (Int.toNat p0) (Ty.dflt Zy21_0)).2.2.2.2.2.2.2.1 else (0 : Int))) (0 : Int))).1) : ((List (Int × (Int × (Int × (Int × (Int × (Int × (Bool × (Int × Unit))))))))) × ((List (Int × (Int × (Int × (Int × (Int × ((List Int) × (Int × Unit)))))))) × (Int × (Bool × Unit))))))] (0 : Nat)
def X_21_0_2 (p0 : Int) (p4 : Zt21_2) (p5 : Zt21_7) (p6 : Zt21_4) (p7 : Zt21_5) : St := St.mk ([jk, CV.int IntKind.i64 p0, jk, CV.ptr (0 : Nat) [], jk, jk, CV.ptr (1 : Nat) []] ++ (jl 66)) [Blk.mem (CV.pure Zy21_3 p4), Blk.mem (CV.pair (CV.whole (2 : Nat)) (CV.pair (CV.whole (3 : Nat)) (CV.pure (Ty.pair (Ty.int IntKind.i64) (Ty.pair Ty.bool Ty.unit)) p5))), Blk.vec (23 : Nat) Zy21_0 p6, Blk.vec (46 : Nat) Zy21_6 p7] (0 : Nat)
inductive Sp.E_21_0 where
  | e0 (p4 : Zt21_2)
  | e1 (p0 : Int) (p1 : List Bool) (p3 : Int) (p4 : Zt21_2)
  | e2 (p0 : Int) (p4 : Zt21_2) (p5 : Zt21_7) (p6 : Zt21_4) (p7 : Zt21_5)
def Sp.B_21_0 {R : Type} (r : Option Sp.E_21_0) (k0 : (Zt21_2) → Option R) (k1 : (Int) → (List Bool) → (Int) → (Zt21_2) → Option R) (k2 : (Int) → (Zt21_2) → (Zt21_7) → (Zt21_4) → (Zt21_5) → Option R) : Option R := match r with
  | none => none
  | some (.e0 p4) => k0 p4
  | some (.e1 p0 p1 p3 p4) => k1 p0 p1 p3 p4
  | some (.e2 p0 p4 p5 p6 p7) => k2 p0 p4 p5 p6 p7
def Sp.L_21_0 : Nat → (Int) → (List Bool) → (Int) → (Int) → (List (Int × Int × Int × Int × Int × Int × Bool × Int × Unit) × List (Int × Int × Int × Int × Int × List Int × Int × Unit) × Int × Bool × Unit) → (Int × Bool × Unit) → (List (Int × Int × Int × Int × Int × Int × Bool × Int × Unit)) → (List (Int × Int × Int × Int × Int × List Int × Int × Unit)) → Option Sp.E_21_0
  | 0, _, _, _, _, _, _, _, _ => none
  | m + 1, p0, p1, p2, p3, p4, p5, p6, p7 => bif decide (p3 < p2) then gd (inB p3 (List.length p1)) (bif decide (p0 ≥ (↑(List.length (p4.1)) : Int)) then some (Sp.E_21_0.e0 p4) else gd (inB p0 (List.length (p4.1))) (gd (decide ((0 : Int) ≤ if (if (8 : Int) < (List.getD (p4.1) (Int.toNat p0) Zd0).2.2.2.2.2.2.2.1 then (8 : Int) else (List.getD (p4.1) (Int.toNat p0) Zd0).2.2.2.2.2.2.2.1) > (0 : Int) then if (8 : Int) < (List.getD (p4.1) (Int.toNat p0) Zd0).2.2.2.2.2.2.2.1 then (8 : Int) else (List.getD (p4.1) (Int.toNat p0) Zd0).2.2.2.2.2.2.2.1 else (0 : Int)) && (((if (if (8 : Int) < (List.getD (p4.1) (Int.toNat p0) Zd0).2.2.2.2.2.2.2.1 then (8 : Int) else (List.getD (p4.1) (Int.toNat p0) Zd0).2.2.2.2.2.2.2.1) > (0 : Int) then if (8 : Int) < (List.getD (p4.1) (Int.toNat p0) Zd0).2.2.2.2.2.2.2.1 then (8 : Int) else (List.getD (p4.1) (Int.toNat p0) Zd0).2.2.2.2.2.2.2.1 else (0 : Int)) == if (if (8 : Int) < (List.getD (p4.1) (Int.toNat p0) Zd0).2.2.2.2.2.2.2.1 then (8 : Int) else (List.getD (p4.1) (Int.toNat p0) Zd0).2.2.2.2.2.2.2.1) > (0 : Int) then if (8 : Int) < (List.getD (p4.1) (Int.toNat p0) Zd0).2.2.2.2.2.2.2.1 then (8 : Int) else (List.getD (p4.1) (Int.toNat p0) Zd0).2.2.2.2.2.2.2.1 else (0 : Int)) && room (Int.toNat (if (if (8 : Int) < (List.getD (p4.1) (Int.toNat p0) Zd0).2.2.2.2.2.2.2.1 then (8 : Int) else (List.getD (p4.1) (Int.toNat p0) Zd0).2.2.2.2.2.2.2.1) > (0 : Int) then if (8 : Int) < (List.getD (p4.1) (Int.toNat p0) Zd0).2.2.2.2.2.2.2.1 then (8 : Int) else (List.getD (p4.1) (Int.toNat p0) Zd0).2.2.2.2.2.2.2.1 else (0 : Int))) (8 : Nat))) (gd (Sp.p_20 p4 p0 (List.getD p1 (Int.toNat p3) false) (List.replicate (Int.toNat (if (if (8 : Int) < (List.getD (p4.1) (Int.toNat p0) Zd0).2.2.2.2.2.2.2.1 then (8 : Int) else (List.getD (p4.1) (Int.toNat p0) Zd0).2.2.2.2.2.2.2.1) > (0 : Int) then if (8 : Int) < (List.getD (p4.1) (Int.toNat p0) Zd0).2.2.2.2.2.2.2.1 then (8 : Int) else (List.getD (p4.1) (Int.toNat p0) Zd0).2.2.2.2.2.2.2.1 else (0 : Int))) (0 : Int))) (bif (Sp.v_20 p4 p0 (List.getD p1 (Int.toNat p3) false) (List.replicate (Int.toNat (if (if (8 : Int) < (List.getD (p4.1) (Int.toNat p0) Zd0).2.2.2.2.2.2.2.1 then (8 : Int) else (List.getD (p4.1) (Int.toNat p0) Zd0).2.2.2.2.2.2.2.1) > (0 : Int) then if (8 : Int) < (List.getD (p4.1) (Int.toNat p0) Zd0).2.2.2.2.2.2.2.1 then (8 : Int) else (List.getD (p4.1) (Int.toNat p0) Zd0).2.2.2.2.2.2.2.1 else (0 : Int))) (0 : Int))).2.1 != (0 : Int) then some (Sp.E_21_0.e1 p0 p1 p3 p4) else Sp.L_21_0 m p0 p1 p2 (IntKind.wrap IntKind.i64 (p3 + (1 : Int))) ((Sp.v_20 p4 p0 (List.getD p1 (Int.toNat p3) false) (List.replicate (Int.toNat (if (if (8 : Int) < (List.getD (p4.1) (Int.toNat p0) Zd0).2.2.2.2.2.2.2.1 then (8 : Int) else (List.getD (p4.1) (Int.toNat p0) Zd0).2.2.2.2.2.2.2.1) > (0 : Int) then if (8 : Int) < (List.getD (p4.1) (Int.toNat p0) Zd0).2.2.2.2.2.2.2.1 then (8 : Int) else (List.getD (p4.1) (Int.toNat p0) Zd0).2.2.2.2.2.2.2.1 else (0 : Int))) (0 : Int))).1) p5 p6 p7)))) else some (Sp.E_21_0.e2 p0 p4 p5 p6 p7)
def G_21_0 {R : Type} (p0 : Int) (p1 : List Bool) (p2 : Int) (p3 : Int) (p4 : Zt21_2) (p5 : Zt21_7) (p6 : Zt21_4) (p7 : Zt21_5) (k : Ex → St → Option R) : Option R := Sp.B_21_0 (Sp.L_21_0 FU p0 p1 p2 p3 p4 p5 p6 p7) (fun p4 => k Ex.ret (X_21_0_0 p4)) (fun p0 p1 p3 p4 => k Ex.ret (X_21_0_1 p0 p1 p3 p4)) (fun p0 p4 p5 p6 p7 => k (Ex.exit (0 : Nat)) (X_21_0_2 p0 p4 p5 p6 p7))
def o_21_0 {R : Type} (G : (Int) → (List Bool) → (Int) → (Int) → (Zt21_2) → (Zt21_7) → (Zt21_4) → (Zt21_5) → (Ex → St → Option R) → Option R) : St → (Ex → St → Option R) → Option R := fun T k => match T.sl.getD 1 .junk, T.sl.getD 3 .junk, T.sl.getD 6 .junk, T.sl.getD 26 .junk, T.sl.getD 27 .junk, T.sl.getD 28 .junk, T.hp with
  | CV.int IntKind.i64 p0, CV.ptr (0 : Nat) [], CV.ptr (1 : Nat) [], CV.pure (Ty.slice Ty.bool) p1, CV.int IntKind.i64 p2, CV.int IntKind.i64 p3, ((Blk.mem (CV.pure (Ty.pair (Ty.slice (Ty.pair (Ty.int IntKind.i64) (Ty.pair (Ty.int IntKind.i64) (Ty.pair (Ty.int IntKind.i64) (Ty.pair (Ty.int IntKind.i64) (Ty.pair (Ty.int IntKind.i64) (Ty.pair (Ty.int IntKind.i64) (Ty.pair Ty.bool (Ty.pair (Ty.int IntKind.i64) Ty.unit))))))))) (Ty.pair (Ty.slice (Ty.pair (Ty.int IntKind.i64) (Ty.pair (Ty.int IntKind.i64) (Ty.pair (Ty.int IntKind.i64) (Ty.pair (Ty.int IntKind.i64) (Ty.pair (Ty.int IntKind.i64) (Ty.pair (Ty.slice (Ty.int IntKind.i64)) (Ty.pair (Ty.int IntKind.i64) Ty.unit)))))))) (Ty.pair (Ty.int IntKind.i64) (Ty.pair Ty.bool Ty.unit)))) p4)) :: (Blk.mem (CV.pair (CV.whole (2 : Nat)) (CV.pair (CV.whole (3 : Nat)) (CV.pure (Ty.pair (Ty.int IntKind.i64) (Ty.pair Ty.bool Ty.unit)) p5)))) :: (Blk.vec (23 : Nat) (Ty.pair (Ty.int IntKind.i64) (Ty.pair (Ty.int IntKind.i64) (Ty.pair (Ty.int IntKind.i64) (Ty.pair (Ty.int IntKind.i64) (Ty.pair (Ty.int IntKind.i64) (Ty.pair (Ty.int IntKind.i64) (Ty.pair Ty.bool (Ty.pair (Ty.int IntKind.i64) Ty.unit)))))))) p6) :: (Blk.vec (46 : Nat) (Ty.pair (Ty.int IntKind.i64) (Ty.pair (Ty.int IntKind.i64) (Ty.pair (Ty.int IntKind.i64) (Ty.pair (Ty.int IntKind.i64) (Ty.pair (Ty.int IntKind.i64) (Ty.pair (Ty.slice (Ty.int IntKind.i64)) (Ty.pair (Ty.int IntKind.i64) Ty.unit))))))) p7) :: []) => gd (shapeOK T 73 [1, 3, 6, 26, 27, 28] (0 : Nat)) (G p0 p1 p2 p3 p4 p5 p6 p7 k)
  | _, _, _, _, _, _, _ => none
theorem o_21_0_inv {R : Type} {G : (Int) → (List Bool) → (Int) → (Int) → (Zt21_2) → (Zt21_7) → (Zt21_4) → (Zt21_5) → (Ex → St → Option R) → Option R} {T : St} {k : Ex → St → Option R} {r : R} (h : o_21_0 G T k = some r) : ∃ p0 p1 p2 p3 p4 p5 p6 p7, T = T_21_0 p0 p1 p2 p3 p4 p5 p6 p7 ∧ G p0 p1 p2 p3 p4 p5 p6 p7 k = some r := by
  unfold o_21_0 at h
  split at h
  · obtain ⟨hs, h'⟩ := gd_some h
    refine ⟨_, _, _, _, _, _, _, _, (st_of (asg := [(1, _), (3, _), (6, _), (26, _), (27, _), (28, _)]) hs ⟨by assumption, by assumption, by assumption, by assumption, by assumption, by assumption, trivial⟩ (by assumption)).trans ?_, h'⟩
    kernel_rfl
  · cases h
def O_21_21_0 {R : Type} : St → (Ex → St → Option R) → Option R := fun T k => o_21_0 G_21_0 T k
theorem body_21_0 {R : Type} (K0 : St → Option R) (K1 : Ex → St → Option R) (p0 : Int) (p1 : List Bool) (p2 : Int) (p3 : Int) (p4 : Zt21_2) (p5 : Zt21_7) (p6 : Zt21_4) (p7 : Zt21_5) : evLB (evCodeL sm_21 FU (ovr noO (evFn sm_21 fns FU 0)) .nil ir21_b0) (St.norm ir21_v0) (T_21_0 p0 p1 p2 p3 p4 p5 p6 p7) K0 K1 =
  bif decide (p3 < p2) then gd (inB p3 (List.length p1)) (bif decide (p0 ≥ (↑(List.length (p4.1)) : Int)) then K1 Ex.ret (X_21_0_0 p4) else gd (inB p0 (List.length (p4.1))) (gd (decide ((0 : Int) ≤ if (if (8 : Int) < (List.getD (p4.1) (Int.toNat p0) (Ty.dflt Zy21_0)).2.2.2.2.2.2.2.1 then (8 : Int) else (List.getD (p4.1) (Int.toNat p0) (Ty.dflt Zy21_0)).2.2.2.2.2.2.2.1) > (0 : Int) then if (8 : Int) < (List.getD (p4.1) (Int.toNat p0) (Ty.dflt Zy21_0)).2.2.2.2.2.2.2.1 then (8 : Int) else (List.getD (p4.1) (Int.toNat p0) (Ty.dflt Zy21_0)).2.2.2.2.2.2.2.1 else (0 : Int)) && (((if (if (8 : Int) < (List.getD (p4.1) (Int.toNat p0) (Ty.dflt Zy21_0)).2.2.2.2.2.2.2.1 then (8 : Int) else (List.getD (p4.1) (Int.toNat p0) (Ty.dflt Zy21_0)).2.2.2.2.2.2.2.1) > (0 : Int) then if (8 : Int) < (List.getD (p4.1) (Int.toNat p0) (Ty.dflt Zy21_0)).2.2.2.2.2.2.2.1 then (8 : Int) else (List.getD (p4.1) (Int.toNat p0) (Ty.dflt Zy21_0)).2.2.2.2.2.2.2.1 else (0 : Int)) == if (if (8 : Int) < (List.getD (p4.1) (Int.toNat p0) (Ty.dflt Zy21_0)).2.2.2.2.2.2.2.1 then (8 : Int) else (List.getD (p4.1) (Int.toNat p0) (Ty.dflt Zy21_0)).2.2.2.2.2.2.2.1) > (0 : Int) then if (8 : Int) < (List.getD (p4.1) (Int.toNat p0) (Ty.dflt Zy21_0)).2.2.2.2.2.2.2.1 then (8 : Int) else (List.getD (p4.1) (Int.toNat p0) (Ty.dflt Zy21_0)).2.2.2.2.2.2.2.1 else (0 : Int)) && room (Int.toNat (if (if (8 : Int) < (List.getD (p4.1) (Int.toNat p0) (Ty.dflt Zy21_0)).2.2.2.2.2.2.2.1 then (8 : Int) else (List.getD (p4.1) (Int.toNat p0) (Ty.dflt Zy21_0)).2.2.2.2.2.2.2.1) > (0 : Int) then if (8 : Int) < (List.getD (p4.1) (Int.toNat p0) (Ty.dflt Zy21_0)).2.2.2.2.2.2.2.1 then (8 : Int) else (List.getD (p4.1) (Int.toNat p0) (Ty.dflt Zy21_0)).2.2.2.2.2.2.2.1 else (0 : Int))) (8 : Nat))) (gd (Sp.p_20 p4 p0 (List.getD p1 (Int.toNat p3) false) (List.replicate (Int.toNat (if (if (8 : Int) < (List.getD (p4.1) (Int.toNat p0) (Ty.dflt Zy21_0)).2.2.2.2.2.2.2.1 then (8 : Int) else (List.getD (p4.1) (Int.toNat p0) (Ty.dflt Zy21_0)).2.2.2.2.2.2.2.1) > (0 : Int) then if (8 : Int) < (List.getD (p4.1) (Int.toNat p0) (Ty.dflt Zy21_0)).2.2.2.2.2.2.2.1 then (8 : Int) else (List.getD (p4.1) (Int.toNat p0) (Ty.dflt Zy21_0)).2.2.2.2.2.2.2.1 else (0 : Int))) (0 : Int))) (bif (Sp.v_20 p4 p0 (List.getD p1 (Int.toNat p3) false) (List.replicate (Int.toNat (if (if (8 : Int) < (List.getD (p4.1) (Int.toNat p0) (Ty.dflt Zy21_0)).2.2.2.2.2.2.2.1 then (8 : Int) else (List.getD (p4.1) (Int.toNat p0) (Ty.dflt Zy21_0)).2.2.2.2.2.2.2.1) > (0 : Int) then if (8 : Int) < (List.getD (p4.1) (Int.toNat p0) (Ty.dflt Zy21_0)).2.2.2.2.2.2.2.1 then (8 : Int) else (List.getD (p4.1) (Int.toNat p0) (Ty.dflt Zy21_0)).2.2.2.2.2.2.2.1 else (0 : Int))) (0 : Int))).2.1 != (0 : Int) then K1 Ex.ret (X_21_0_1 p0 p1 p3 p4) else K0 (T_21_0 p0 p1 p2 (IntKind.wrap IntKind.i64 (p3 + (1 : Int))) ((Sp.v_20 p4 p0 (List.getD p1 (Int.toNat p3) false) (List.replicate (Int.toNat (if (if (8 : Int) < (List.getD (p4.1) (Int.toNat p0) (Ty.dflt Zy21_0)).2.2.2.2.2.2.2.1 then (8 : Int) else (List.getD (p4.1) (Int.toNat p0) (Ty.dflt Zy21_0)).2.2.2.2.2.2.2.1) > (0 : Int) then if (8 : Int) < (List.getD (p4.1) (Int.toNat p0) (Ty.dflt Zy21_0)).2.2.2.2.2.2.2.1 then (8 : Int) else (List.getD (p4.1) (Int.toNat p0) (Ty.dflt Zy21_0)).2.2.2.2.2.2.2.1 else (0 : Int))) (0 : Int))).1) p5 p6 p7))))) else K1 (Ex.exit (0 : Nat)) (X_21_0_2 p0 p4 p5 p6 p7) := by kernel_rfl
theorem Bgd_21_0 {R : Type} {c : Bool} {x : Option R} {y : Option Sp.E_21_0} {k0 : (Zt21_2) → Option R} {k1 : (Int) → (List Bool) → (Int) → (Zt21_2) → Option R} {k2 : (Int) → (Zt21_2) → (Zt21_7) → (Zt21_4) → (Zt21_5) → Option R} (h : x = Sp.B_21_0 y k0 k1 k2) : gd c x = Sp.B_21_0 (gd c y) k0 k1 k2 := by cases c; rfl; exact h
theorem Bcond_21_0 {R : Type} {c : Bool} {x x' : Option R} {y y' : Option Sp.E_21_0} {k0 : (Zt21_2) → Option R} {k1 : (Int) → (List Bool) → (Int) → (Zt21_2) → Option R} {k2 : (Int) → (Zt21_2) → (Zt21_7) → (Zt21_4) → (Zt21_5) → Option R} (h : x = Sp.B_21_0 y k0 k1 k2) (h' : x' = Sp.B_21_0 y' k0 k1 k2) : (bif c then x else x') = Sp.B_21_0 (bif c then y else y') k0 k1 k2 := by cases c; exact h'; exact h
theorem loop_21_0 {R : Type} (k : Ex → St → Option R) : ∀ (m : Nat) (p0 : Int) (p1 : List Bool) (p2 : Int) (p3 : Int) (p4 : Zt21_2) (p5 : Zt21_7) (p6 : Zt21_4) (p7 : Zt21_5), evLoopN (evCodeL sm_21 FU (ovr noO (evFn sm_21 fns FU 0)) .nil ir21_b0) (St.norm ir21_v0) m (T_21_0 p0 p1 p2 p3 p4 p5 p6 p7) k = Sp.B_21_0 (Sp.L_21_0 m p0 p1 p2 p3 p4 p5 p6 p7) (fun p4 => k Ex.ret (X_21_0_0 p4)) (fun p0 p1 p3 p4 => k Ex.ret (X_21_0_1 p0 p1 p3 p4)) (fun p0 p4 p5 p6 p7 => k (Ex.exit (0 : Nat)) (X_21_0_2 p0 p4 p5 p6 p7))
  | 0, _, _, _, _, _, _, _, _ => rfl
  | m + 1, p0, p1, p2, p3, p4, p5, p6, p7 => by
    rw [evLoopN_succ, body_21_0, Sp.L_21_0]
    repeat' first | apply Bgd_21_0 | apply Bcond_21_0 | exact loop_21_0 k m _ _ _ _ _ _ _ _ | rfl
theorem ok_21_0 {R : Type} (T : St) (k : Ex → St → Option R) (r : R) (h0 : o_21_0 G_21_0 T k = some r) : evLoopN (evCode sm_21 FU (evFn sm_21 fns FU 0) ir21_b0) (St.norm ir21_v0) FU T k = some r := by
  obtain ⟨p0, p1, p2, p3, p4, p5, p6, p7, rfl, h⟩ := o_21_0_inv h0
  refine evLoopN_L (t := .nil) noO_ok trivial _ _ _ _ ?_
  rw [loop_21_0]
  exact h
theorem OK_21_21_0 {R : Type} (T : St) (k : Ex → St → Option R) (r : R) (h : O_21_21_0 T k = some r) : evLoopN (evCode sm_21 FU (evFn sm_21 fns FU 0) ir21_b0) (St.norm ir21_v0) FU T k = some r := ok_21_0 T k r h
def F_21 (a0 : ((List (Int × (Int × (Int × (Int × (Int × (Int × (Bool × (Int × Unit))))))))) × ((List (Int × (Int × (Int × (Int × (Int × ((List Int) × (Int × Unit)))))))) × (Int × (Bool × Unit))))) (a1 : Int) (a2 : (List Bool)) : Option (((List (Int × (Int × (Int × (Int × (Int × (Int × (Bool × (Int × Unit))))))))) × ((List (Int × (Int × (Int × (Int × (Int × ((List Int) × (Int × Unit)))))))) × (Int × (Bool × Unit)))) × Bool × Unit) :=
  gd (Sp.p_19 a0) (bif (Sp.v_19 a0).2.1 != (0 : Int) then some ((Sp.v_19 a0).1, false, PUnit.unit) else bif decide (a1 ≥ (↑(List.length ((Sp.v_19 a0).1.1)) : Int)) then some ((Sp.v_19 a0).1, false, PUnit.unit) else Sp.B_21_0 (Sp.L_21_0 (4611686018427387904 : Nat) a1 a2 (↑(List.length a2) : Int) (0 : Int) ((Sp.v_19 a0).1) ((0 : Int), false, PUnit.unit) [] []) (fun (y18 : List (Int × Int × Int × Int × Int × Int × Bool × Int × Unit) × List (Int × Int × Int × Int × Int × List Int × Int × Unit) × Int × Bool × Unit) => some (y18, false, PUnit.unit)) (fun (y19 : Int) (y20 : List Bool) (y21 : Int) (y22 : List (Int × Int × Int × Int × Int × Int × Bool × Int × Unit) × List (Int × Int × Int × Int × Int × List Int × Int × Unit) × Int × Bool × Unit) => some ((Sp.v_20 y22 y19 (List.getD y20 (Int.toNat y21) false) (List.replicate (Int.toNat (if (if (8 : Int) < (List.getD (y22.1) (Int.toNat y19) Zd0).2.2.2.2.2.2.2.1 then (8 : Int) else (List.getD (y22.1) (Int.toNat y19) Zd0).2.2.2.2.2.2.2.1) > (0 : Int) then if (8 : Int) < (List.getD (y22.1) (Int.toNat y19) Zd0).2.2.2.2.2.2.2.1 then (8 : Int) else (List.getD (y22.1) (Int.toNat y19) Zd0).2.2.2.2.2.2.2.1 else (0 : Int))) (0 : Int))).1, false, PUnit.unit)) fun (y23 : Int) (y24 : List (Int × Int × Int × Int × Int × Int × Bool × Int × Unit) × List (Int × Int × Int × Int × Int × List Int × Int × Unit) × Int × Bool × Unit) (y25 : Int × Bool × Unit) (y26 : List (Int × Int × Int × Int × Int × Int × Bool × Int × Unit)) (y27 : List (Int × Int × Int × Int × Int × List Int × Int × Unit)) => gd (Sp.p_33 y24) (bif (Sp.v_33 y24).2.1 == (0 : Int) then some ((Sp.v_33 y24).1, decide (y23 < (↑(List.length ((Sp.v_33 y24).1.2.1)) : Int)), PUnit.unit) else some ((Sp.v_33 y24).1, false, PUnit.unit)))
theorem fn_21 (a0 : ((List (Int × (Int × (Int × (Int × (Int × (Int × (Bool × (Int × Unit))))))))) × ((List (Int × (Int × (Int × (Int × (Int × ((List Int) × (Int × Unit)))))))) × (Int × (Bool × Unit))))) (a1 : Int) (a2 : (List Bool)) : evFnL sm_21 FU (ovr noO (evFn sm_21 fns FU 0)) (ir21_t O_21_21_0) ir21 (ofH [Zy21_1, (.int .i64), (.slice .bool)] (a0, a1, a2, ())) [] (pureK [Zy21_1, .bool]) = F_21 a0 a1 a2 := by kernel_rfl
def Sp.p_21 (a0 : ((List (Int × (Int × (Int × (Int × (Int × (Int × (Bool × (Int × Unit))))))))) × ((List (Int × (Int × (Int × (Int × (Int × ((List Int) × (Int × Unit)))))))) × (Int × (Bool × Unit))))) (a1 : Int) (a2 : (List Bool)) : Bool := (F_21 a0 a1 a2).isSome
def Sp.v_21 (a0 : ((List (Int × (Int × (Int × (Int × (Int × (Int × (Bool × (Int × Unit))))))))) × ((List (Int × (Int × (Int × (Int × (Int × ((List Int) × (Int × Unit)))))))) × (Int × (Bool × Unit))))) (a1 : Int) (a2 : (List Bool)) : ((List (Int × (Int × (Int × (Int × (Int × (Int × (Bool × (Int × Unit))))))))) × ((List (Int × (Int × (Int × (Int × (Int × ((List Int) × (Int × Unit)))))))) × (Int × (Bool × Unit)))) × Bool × Unit := (F_21 a0 a1 a2).getD (dfH [Zy21_1, .bool])
def s_21 : Summ := shS [Zy21_1, (.int .i64), (.slice .bool)] [Zy21_1, .bool] (fun x => Sp.p_21 x.1 x.2.1 x.2.2.1) (fun x => Sp.v_21 x.1 x.2.1 x.2.2.1)
theorem run_21 (x : HDen [Zy21_1, (.int .i64), (.slice .bool)]) (y : HDen [Zy21_1, .bool]) (h : F_21 x.1 x.2.1 x.2.2.1 = some y) : evFn sm_21 fns FU 1 21 (ofH [Zy21_1, (.int .i64), (.slice .bool)] x) [] (pureK [Zy21_1, .bool]) = some y :=
  evFnL_sound (fn := ir21) (t := (ir21_t O_21_21_0)) (o := noO) rfl noO_ok (ir21_tok (fun T k r => OK_21_21_0 T k r)) ((fn_21 _ _ _).trans h)
end
end Go.Ev
namespace Go.Ev
open Go
set_option maxRecDepth 100000
set_option maxHeartbeats 4000000
set_option linter.unusedVariables false
noncomputable section
abbrev Zt22_0 : Type := List (Int × Int × Int × Int × Int × Int × Bool × Int × PUnit) × List (Int × Int × Int × Int × Int × List Int × Int × PUnit) × Int × Bool × PUnit
abbrev Zy22_1 : Ty := (Ty.pair (Ty.slice (Ty.pair (Ty.int IntKind.i64) (Ty.pair (Ty.int IntKind.i64) (Ty.pair (Ty.int IntKind.i64) (Ty.pair (Ty.int IntKind.i64) (Ty.pair (Ty.int IntKind.i64) (Ty.pair (Ty.int IntKind.i64) (Ty.pair Ty.bool (Ty.pair (Ty.int IntKind.i64) Ty.unit))))))))) (Ty.pair (Ty.slice (Ty.pair (Ty.int IntKind.i64) (Ty.pair (Ty.int IntKind.i64) (Ty.pair (Ty.int IntKind.i64) (Ty.pair (Ty.int IntKind.i64) (Ty.pair (Ty.int IntKind.i64) (Ty.pair (Ty.slice (Ty.int IntKind.i64)) (Ty.pair (Ty.int IntKind.i64) Ty.unit)))))))) (Ty.pair (Ty.int IntKind.i64) (Ty.pair Ty.bool Ty.unit))))
abbrev Zy22_2 : Ty := (.pair (.slice (.pair (.int .i64) (.pair (.int .i64) (.pair (.int .i64) (.pair (.int .i64) (.pair (.int .i64) (.pair (.int .i64) (.pair .bool (.pair (.int .i64) .unit))))))))) (.pair (.slice (.pair (.int .i64) (.pair (.int .i64) (.pair (.int .i64) (.pair (.int .i64) (.pair (.int .i64) (.pair (.slice (.int .i64)) (.pair (.int .i64) .unit)))))))) (.pair (.int .i64) (.pair .bool .unit))))
abbrev Zy22_3 : Ty := (Ty.pair (Ty.int IntKind.i64) (Ty.pair (Ty.int IntKind.i64) (Ty.pair (Ty.int IntKind.i64) (Ty.pair (Ty.int IntKind.i64) (Ty.pair (Ty.int IntKind.i64) (Ty.pair (Ty.slice (Ty.int IntKind.i64)) (Ty.pair (Ty.int IntKind.i64) Ty.unit)))))))
abbrev Zt22_4 : Type := List (Int × Int × Int × Int × Int × List Int × Int × PUnit)

def sm_22 : Nat → Option Summ := fun f => bif Nat.beq f 15 then some s_15 else bif Nat.beq f 40 then some s_40 else none
def T_22_51_0_0 (p0 : Zt22_4) (p1 : Int) (p2 : Int) (p3 : Zt22_0) : St := St.mk ([CV.pure (Ty.slice (Ty.pair (Ty.int IntKind.i64) (Ty.pair (Ty.int IntKind.i64) (Ty.pair (Ty.int IntKind.i64) (Ty.pair (Ty.int IntKind.i64) (Ty.pair (Ty.int IntKind.i64) (Ty.pair (Ty.slice (Ty.int IntKind.i64)) (Ty.pair (Ty.int IntKind.i64) Ty.unit)))))))) p0, CV.clo (39 : Nat) (CV.pure Ty.unit PUnit.unit), jk, jk, jk, jk, jk, CV.int IntKind.i64 p1, CV.int IntKind.i64 p2] ++ (jl 10)) [Blk.mem (CV.pure Zy22_1 p3)] (1 : Nat)
def X_22_51_0_0_0 (p2 : Int) (p3 : Zt22_0) : St := St.mk ([jk, jk, jk, jk, CV.int IntKind.i64 p2] ++ (jl 14)) [Blk.mem (CV.pure Zy22_1 p3)] (1 : Nat)
def X_22_51_0_0_1 (p3 : Zt22_0) : St := St.mk (jl 19) [Blk.mem (CV.pure Zy22_1 p3)] (1 : Nat)
inductive Sp.E_22_51_0_0 where
  | e0 (p2 : Int) (p3 : Zt22_0)
  | e1 (p3 : Zt22_0)
def Sp.B_22_51_0_0 {R : Type} (r : Option Sp.E_22_51_0_0) (k0 : (Int) → (Zt22_0) → Option R) (k1 : (Zt22_0) → Option R) : Option R := match r with
  | none => none
  | some (.e0 p2 p3) => k0 p2 p3
  | some (.e1 p3) => k1 p3
def Sp.L_22_51_0_0 : Nat → (List (Int × Int × Int × Int × Int × List Int × Int × PUnit)) → (Int) → (Int) → (List (Int × Int × Int × Int × Int × Int × Bool × Int × PUnit) × List (Int × Int × Int × Int × Int × List Int × Int × PUnit) × Int × Bool × PUnit) → Option Sp.E_22_51_0_0
  | 0, _, _, _, _ => none
  | m + 1, p0, p1, p2, p3 => bif decide (p2 < p1) then gd (inB p2 (List.length p0)) (gd (Sp.p_40 (List.getD p0 (Int.toNat p2) Zd1) (16 : Int)) (bif (Sp.v_40 (List.getD p0 (Int.toNat p2) Zd1) (16 : Int)).1 then some (Sp.E_22_51_0_0.e0 p2 p3) else Sp.L_22_51_0_0 m p0 p1 (IntKind.wrap IntKind.i64 (p2 + (1 : Int))) p3)) else some (Sp.E_22_51_0_0.e1 p3)
def G_22_51_0_0 {R : Type} (p0 : Zt22_4) (p1 : Int) (p2 : Int) (p3 : Zt22_0) (k : Ex → St → Option R) : Option R := Sp.B_22_51_0_0 (Sp.L_22_51_0_0 FU p0 p1 p2 p3) (fun p2 p3 => k Ex.ret (X_22_51_0_0_0 p2 p3)) (fun p3 => k (Ex.exit (0 : Nat)) (X_22_51_0_0_1 p3))
def o_22_51_0_0 {R : Type} (G : (Zt22_4) → (Int) → (Int) → (Zt22_0) → (Ex → St → Option R) → Option R) : St → (Ex → St → Option R) → Option R := fun T k => match T.sl.getD 0 .junk, T.sl.getD 1 .junk, T.sl.getD 7 .junk, T.sl.getD 8 .junk, T.hp with
  | CV.pure (Ty.slice (Ty.pair (Ty.int IntKind.i64) (Ty.pair (Ty.int IntKind.i64) (Ty.pair (Ty.int IntKind.i64) (Ty.pair (Ty.int IntKind.i64) (Ty.pair (Ty.int IntKind.i64) (Ty.pair (Ty.slice (Ty.int IntKind.i64)) (Ty.pair (Ty.int IntKind.i64) Ty.unit)))))))) p0, CV.clo (39 : Nat) (CV.pure Ty.unit PUnit.unit), CV.int IntKind.i64 p1, CV.int IntKind.i64 p2, ((Blk.mem (CV.pure (Ty.pair (Ty.slice (Ty.pair (Ty.int IntKind.i64) (Ty.pair (Ty.int IntKind.i64) (Ty.pair (Ty.int IntKind.i64) (Ty.pair (Ty.int IntKind.i64) (Ty.pair (Ty.int IntKind.i64) (Ty.pair (Ty.int IntKind.i64) (Ty.pair Ty.bool (Ty.pair (Ty.int IntKind.i64) Ty.unit))))))))) (Ty.pair (Ty.slice (Ty.pair (Ty.int IntKind.i64) (Ty.pair (Ty.int IntKind.i64) (Ty.pair (Ty.int IntKind.i64) (Ty.pair (Ty.int IntKind.i64) (Ty.pair (Ty.int IntKind.i64) (Ty.pair (Ty.slice (Ty.int IntKind.i64)) (Ty.pair (Ty.int IntKind.i64) Ty.unit)))))))) (Ty.pair (Ty.int IntKind.i64) (Ty.pair Ty.bool Ty.unit)))) p3)) :: []) => gd (shapeOK T 19 [0, 1, 7, 8] (1 : Nat)) (G p0 p1 p2 p3 k)
  | _, _, _, _, _ => none
theorem o_22_51_0_0_inv {R : Type} {G : (Zt22_4) → (Int) → (Int) → (Zt22_0) → (Ex → St → Option R) → Option R} {T : St} {k : Ex → St → Option R} {r : R} (h : o_22_51_0_0 G T k = some r) : ∃ p0 p1 p2 p3, T = T_22_51_0_0 p0 p1 p2 p3 ∧ G p0 p1 p2 p3 k = some r := by
  unfold o_22_51_0_0 at h
  split at h
  · obtain ⟨hs, h'⟩ := gd_some h
    refine ⟨_, _, _, _, (st_of (asg := [(0, _), (1, _), (7, _), (8, _)]) hs ⟨by assumption, by assumption, by assumption, by assumption, trivial⟩ (by assumption)).trans ?_, h'⟩
    kernel_rfl
  · cases h
def O_22_51_0 {R : Type} : St → (Ex → St → Option R) → Option R := fun T k => o_22_51_0_0 G_22_51_0_0 T k
def g_22_51 {R : Type} : List CV → List Blk → (CV → List Blk → Option R) → Option R := evFnL sm_22 FU (ovr noO (evFn sm_22 fns FU 1)) (ir51_t O_22_51_0) ir51
def g_22_38 {R : Type} : List CV → List Blk → (CV → List Blk → Option R) → Option R := evFnL sm_22 FU (ovr (fun f' => bif Nat.beq f' 51 then some (g_22_51) else none) (evFn sm_22 fns FU 2)) .nil ir38
theorem body_22_51_0_0 {R : Type} (K0 : St → Option R) (K1 : Ex → St → Option R) (p0 : Zt22_4) (p1 : Int) (p2 : Int) (p3 : Zt22_0) : evLB (evCodeL sm_22 FU (ovr noO (evFn sm_22 fns FU 1)) .nil ir51_b0) (St.norm ir51_v0) (T_22_51_0_0 p0 p1 p2 p3) K0 K1 =
  bif decide (p2 < p1) then gd (inB p2 (List.length p0)) (gd (Sp.p_40 (List.getD p0 (Int.toNat p2) (Ty.dflt Zy22_3)) (16 : Int)) (bif (Sp.v_40 (List.getD p0 (Int.toNat p2) (Ty.dflt Zy22_3)) (16 : Int)).1 then K1 Ex.ret (X_22_51_0_0_0 p2 p3) else K0 (T_22_51_0_0 p0 p1 (IntKind.wrap IntKind.i64 (p2 + (1 : Int))) p3))) else K1 (Ex.exit (0 : Nat)) (X_22_51_0_0_1 p3) := by kernel_rfl
theorem Bgd_22_51_0_0 {R : Type} {c : Bool} {x : Option R} {y : Option Sp.E_22_51_0_0} {k0 : (Int) → (Zt22_0) → Option R} {k1 : (Zt22_0) → Option R} (h : x = Sp.B_22_51_0_0 y k0 k1) : gd c x = Sp.B_22_51_0_0 (gd c y) k0 k1 := by cases c; rfl; exact h
theorem Bcond_22_51_0_0 {R : Type} {c : Bool} {x x' : Option R} {y y' : Option Sp.E_22_51_0_0} {k0 : (Int) → (Zt22_0) → Option R} {k1 : (Zt22_0) → Option R} (h : x = Sp.B_22_51_0_0 y k0 k1) (h' : x' = Sp.B_22_51_0_0 y' k0 k1) : (bif c then x else x') = Sp.B_22_51_0_0 (bif c then y else y') k0 k1 := by cases c; exact h'; exact h
theorem loop_22_51_0_0 {R : Type} (k : Ex → St → Option R) : ∀ (m : Nat) (p0 : Zt22_4) (p1 : Int) (p2 : Int) (p3 : Zt22_0), evLoopN (evCodeL sm_22 FU (ovr noO (evFn sm_22 fns FU 1)) .nil ir51_b0) (St.norm ir51_v0) m (T_22_51_0_0 p0 p1 p2 p3) k = Sp.B_22_51_0_0 (Sp.L_22_51_0_0 m p0 p1 p2 p3) (fun p2 p3 => k Ex.ret (X_22_51_0_0_0 p2 p3)) (fun p3 => k (Ex.exit (0 : Nat)) (X_22_51_0_0_1 p3))
  | 0, _, _, _, _ => rfl
  | m + 1, p0, p1, p2, p3 => by
    rw [evLoopN_succ, body_22_51_0_0, Sp.L_22_51_0_0]
    repeat' first | apply Bgd_22_51_0_0 | apply Bcond_22_51_0_0 | exact loop_22_51_0_0 k m _ _ _ _ | rfl
theorem ok_22_51_0_0 {R : Type} (T : St) (k : Ex → St → Option R) (r : R) (h0 : o_22_51_0_0 G_22_51_0_0 T k = some r) : evLoopN (evCode sm_22 FU (evFn sm_22 fns FU 1) ir51_b0) (St.norm ir51_v0) FU T k = some r := by
  obtain ⟨p0, p1, p2, p3, rfl, h⟩ := o_22_51_0_0_inv h0
  refine evLoopN_L (t := .nil) noO_ok trivial _ _ _ _ ?_
  rw [loop_22_51_0_0]
  exact h
theorem OK_22_51_0 {R : Type} (T : St) (k : Ex → St → Option R) (r : R) (h : O_22_51_0 T k = some r) : evLoopN (evCode sm_22 FU (evFn sm_22 fns FU 1) ir51_b0) (St.norm ir51_v0) FU T k = some r := ok_22_51_0_0 T k r h
theorem g_22_51_ok {R : Type} (args : List CV) (hp : List Blk) (k : CV → List Blk → Option R) (r : R) (h : g_22_51 args hp k = some r) : evFn sm_22 fns FU 2 51 args hp k = some r :=
  evFnL_sound (fn := ir51) (t := (ir51_t O_22_51_0)) (o := noO) rfl noO_ok (ir51_tok (fun T k r => OK_22_51_0 T k r)) h
theorem ov_22_38_ok {R : Type} : OvrOK (R := R) (fun f' => bif Nat.beq f' 51 then some (g_22_51) else none) (evFn sm_22 fns FU 2) := by
  intro f' g h args hp k r hg
  dsimp only at h
  by_cases h51 : f' = 51
  · subst h51
    injection h with h
    subst h
    exact evFn_le 0 (g_22_51_ok _ _ _ _ hg)
  rw [nbeq_ne h51, cond_false] at h
  cases h
theorem g_22_38_ok {R : Type} (args : List CV) (hp : List Blk) (k : CV → List Blk → Option R) (r : R) (h : g_22_38 args hp k = some r) : evFn sm_22 fns FU 3 38 args hp k = some r :=
  evFnL_sound (fn := ir38) (t := .nil) (o := (fun f' => bif Nat.beq f' 51 then some (g_22_51) else none)) rfl ov_22_38_ok trivial h
theorem ov_22_22_ok {R : Type} : OvrOK (R := R) (fun f' => bif Nat.beq f' 38 then some (g_22_38) else none) (evFn sm_22 fns FU 3) := by
  intro f' g h args hp k r hg
  dsimp only at h
  by_cases h38 : f' = 38
  · subst h38
    injection h with h
    subst h
    exact evFn_le 0 (g_22_38_ok _ _ _ _ hg)
  rw [nbeq_ne h38, cond_false] at h
  cases h
def F_22 (a0 : ((List (Int × (Int × (Int × (Int × (Int × (Int × (Bool × (Int × Unit))))))))) × ((List (Int × (Int × (Int × (Int × (Int × ((List Int) × (Int × Unit)))))))) × (Int × (Bool × Unit))))) : Option (Bool × Unit) :=
  gd (Sp.p_15 a0) (bif (Sp.v_15 a0).1 then Sp.B_22_51_0_0 (Sp.L_22_51_0_0 (4611686018427387904 : Nat) (a0.2.1) (↑(List.length (a0.2.1)) : Int) (0 : Int) a0) (fun (y3 : Int) (y4 : List (Int × Int × Int × Int × Int × Int × Bool × Int × PUnit) × List (Int × Int × Int × Int × Int × List Int × Int × PUnit) × Int × Bool × PUnit) => some (decide (y3 ≥ (0 : Int)), PUnit.unit)) fun (y5 : List (Int × Int × Int × Int × Int × Int × Bool × Int × PUnit) × List (Int × Int × Int × Int × Int × List Int × Int × PUnit) × Int × Bool × PUnit) => some (false, PUnit.unit) else some (false, PUnit.unit))
theorem fn_22 (a0 : ((List (Int × (Int × (Int × (Int × (Int × (Int × (Bool × (Int × Unit))))))))) × ((List (Int × (Int × (Int × (Int × (Int × ((List Int) × (Int × Unit)))))))) × (Int × (Bool × Unit))))) : evFnL sm_22 FU (ovr (fun f' => bif Nat.beq f' 38 then some (g_22_38) else none) (evFn sm_22 fns FU 3)) .nil ir22 (ofH [Zy22_2] (a0, ())) [] (pureK [.bool]) = F_22 a0 := by kernel_rfl
def Sp.p_22 (a0 : ((List (Int × (Int × (Int × (Int × (Int × (Int × (Bool × (Int × Unit))))))))) × ((List (Int × (Int × (Int × (Int × (Int × ((List Int) × (Int × Unit)))))))) × (Int × (Bool × Unit))))) : Bool := (F_22 a0).isSome
def Sp.v_22 (a0 : ((List (Int × (Int × (Int × (Int × (Int × (Int × (Bool × (Int × Unit))))))))) × ((List (Int × (Int × (Int × (Int × (Int × ((List Int) × (Int × Unit)))))))) × (Int × (Bool × Unit))))) : Bool × Unit := (F_22 a0).getD (dfH [.bool])
def s_22 : Summ := shN [Zy22_2] [.bool] (fun x => Sp.p_22 x.1) (fun x => Sp.v_22 x.1)
theorem run_22 (x : HDen [Zy22_2]) (y : HDen [.bool]) (h : F_22 x.1 = some y) : evFn sm_22 fns FU 4 22 (ofH [Zy22_2] x) [] (pureK [.bool]) = some y :=
  evFnL_sound (fn := ir22) (t := .nil) (o := (fun f' => bif Nat.beq f' 38 then some (g_22_38) else none)) rfl ov_22_22_ok trivial ((fn_22 _).trans h)
end
end Go.Ev
namespace Go.Ev
open Go
set_option maxRecDepth 100000
set_option maxHeartbeats 4000000
set_option linter.unusedVariables false
noncomputable section

def sm_23 : Nat → Option Summ := fun f => none


def F_23  : Option ((Int × (Int × (Int × (Int × (Int × (Int × (Bool × (Int × Unit)))))))) × Unit) :=
  some (((1 : Int), (2 : Int), (1 : Int), (1 : Int), (2 : Int), (0 : Int), true, (0 : Int), PUnit.unit), PUnit.unit)
theorem fn_23  : evFnL sm_23 FU (ovr noO (evFn sm_23 fns FU 0)) .nil ir23 (ofH [] (())) [] (pureK [(.pair (.int .i64) (.pair (.int .i64) (.pair (.int .i64) (.pair (.int .i64) (.pair (.int .i64) (.pair (.int .i64) (.pair .bool (.pair (.int .i64) .unit))))))))]) = F_23 := by kernel_rfl
def Sp.p_23  : Bool := (F_23).isSome
def Sp.v_23  : (Int × (Int × (Int × (Int × (Int × (Int × (Bool × (Int × Unit)))))))) × Unit := (F_23).getD (dfH [(.pair (.int .i64) (.pair (.int .i64) (.pair (.int .i64) (.pair (.int .i64) (.pair (.int .i64) (.pair (.int .i64) (.pair .bool (.pair (.int .i64) .unit))))))))])
def s_23 : Summ := shN [] [(.pair (.int .i64) (.pair (.int .i64) (.pair (.int .i64) (.pair (.int .i64) (.pair (.int .i64) (.pair (.int .i64) (.pair .bool (.pair (.int .i64) .unit))))))))] (fun x => Sp.p_23 ) (fun x => Sp.v_23 )
theorem run_23 (x : HDen []) (y : HDen [(.pair (.int .i64) (.pair (.int .i64) (.pair (.int .i64) (.pair (.int .i64) (.pair (.int .i64) (.pair (.int .i64) (.pair .bool (.pair (.int .i64) .unit))))))))]) (h : F_23  = some y) : evFn sm_23 fns FU 1 23 (ofH [] x) [] (pureK [(.pair (.int .i64) (.pair (.int .i64) (.pair (.int .i64) (.pair (.int .i64) (.pair (.int .i64) (.pair (.int .i64) (.pair .bool (.pair (.int .i64) .unit))))))))]) = some y :=
  evFnL_sound (fn := ir23) (t := .nil) (o := noO) rfl noO_ok trivial ((fn_23).trans h)
end
end Go.Ev
namespace Go.Ev
open Go
set_option maxRecDepth 100000
set_option maxHeartbeats 4000000
set_option linter.unusedVariables false
noncomputable section

def sm_24 : Nat → Option Summ := fun f => none


def F_24 (a0 : ((List (Int × (Int × (Int × (Int × (Int × (Int × (Bool × (Int × Unit))))))))) × ((List (Int × (Int × (Int × (Int × (Int × ((List Int) × (Int × Unit)))))))) × (Int × (Bool × Unit))))) : Option (Int × Unit) :=
  bif (↑(List.length (a0.2.1)) : Int) != (1 : Int) then some ((-1 : Int), PUnit.unit) else gd (inB (0 : Int) (List.length (a0.2.1))) (some ((List.getD (a0.2.1) (0 : Nat) Zd1).1, PUnit.unit))
theorem fn_24 (a0 : ((List (Int × (Int × (Int × (Int × (Int × (Int × (Bool × (Int × Unit))))))))) × ((List (Int × (Int × (Int × (Int × (Int × ((List Int) × (Int × Unit)))))))) × (Int × (Bool × Unit))))) : evFnL sm_24 FU (ovr noO (evFn sm_24 fns FU 0)) .nil ir24 (ofH [(.pair (.slice (.pair (.int .i64) (.pair (.int .i64) (.pair (.int .i64) (.pair (.int .i64) (.pair (.int .i64) (.pair (.int .i64) (.pair .bool (.pair (.int .i64) .unit))))))))) (.pair (.slice (.pair (.int .i64) (.pair (.int .i64) (.pair (.int .i64) (.pair (.int .i64) (.pair (.int .i64) (.pair (.slice (.int .i64)) (.pair (.int .i64) .unit)))))))) (.pair (.int .i64) (.pair .bool .unit))))] (a0, ())) [] (pureK [(.int .i64)]) = F_24 a0 := by kernel_rfl
def Sp.p_24 (a0 : ((List (Int × (Int × (Int × (Int × (Int × (Int × (Bool × (Int × Unit))))))))) × ((List (Int × (Int × (Int × (Int × (Int × ((List Int) × (Int × Unit)))))))) × (Int × (Bool × Unit))))) : Bool := (F_24 a0).isSome
def Sp.v_24 (a0 : ((List (Int × (Int × (Int × (Int × (Int × (Int × (Bool × (Int × Unit))))))))) × ((List (Int × (Int × (Int × (Int × (Int × ((List Int) × (Int × Unit)))))))) × (Int × (Bool × Unit))))) : Int × Unit := (F_24 a0).getD (dfH [(.int .i64)])
def s_24 : Summ := shN [(.pair (.slice (.pair (.int .i64) (.pair (.int .i64) (.pair (.int .i64) (.pair (.int .i64) (.pair (.int .i64) (.pair (.int .i64) (.pair .bool (.pair (.int .i64) .unit))))))))) (.pair (.slice (.pair (.int .i64) (.pair (.int .i64) (.pair (.int .i64) (.pair (.int .i64) (.pair (.int .i64) (.pair (.slice (.int .i64)) (.pair (.int .i64) .unit)))))))) (.pair (.int .i64) (.pair .bool .unit))))] [(.int .i64)] (fun x => Sp.p_24 x.1) (fun x => Sp.v_24 x.1)
theorem run_24 (x : HDen [(.pair (.slice (.pair (.int .i64) (.pair (.int .i64) (.pair (.int .i64) (.pair (.int .i64) (.pair (.int .i64) (.pair (.int .i64) (.pair .bool (.pair (.int .i64) .unit))))))))) (.pair (.slice (.pair (.int .i64) (.pair (.int .i64) (.pair (.int .i64) (.pair (.int .i64) (.pair (.int .i64) (.pair (.slice (.int .i64)) (.pair (.int .i64) .unit)))))))) (.pair (.int .i64) (.pair .bool .unit))))]) (y : HDen [(.int .i64)]) (h : F_24 x.1 = some y) : evFn sm_24 fns FU 1 24 (ofH [(.pair (.slice (.pair (.int .i64) (.pair (.int .i64) (.pair (.int .i64) (.pair (.int .i64) (.pair (.int .i64) (.pair (.int .i64) (.pair .bool (.pair (.int .i64) .unit))))))))) (.pair (.slice (.pair (.int .i64) (.pair (.int .i64) (.pair (.int .i64) (.pair (.int .i64) (.pair (.int .i64) (.pair (.slice (.int .i64)) (.pair (.int .i64) .unit)))))))) (.pair (.int .i64) (.pair .bool .unit))))] x) [] (pureK [(.int .i64)]) = some y :=
  evFnL_sound (fn := ir24) (t := .nil) (o := noO) rfl noO_ok trivial ((fn_24 _).trans h)
end
end Go.Ev
namespace Go.Ev
open Go
set_option maxRecDepth 100000
set_option maxHeartbeats 4000000
set_option linter.unusedVariables false
noncomputable section

def sm_8 : Nat → Option Summ := fun f => bif Nat.beq f 11 then some s_11 else bif Nat.beq f 21 then some s_21 else bif Nat.beq f 22 then some s_22 else bif Nat.beq f 23 then some s_23 else bif Nat.beq f 24 then some s_24 else none


def F_8  : Option (Bool × Unit) :=
  gd Sp.p_23 (gd (Sp.p_11 [Sp.v_23.1]) (gd (Sp.p_21 ((Sp.v_11 [Sp.v_23.1]).1) (0 : Int) [true, true]) (gd (Sp.p_21 ((Sp.v_21 ((Sp.v_11 [Sp.v_23.1]).1) (0 : Int) [true, true]).1) (0 : Int) [true, true]) (gd (Sp.p_21 ((Sp.v_21 ((Sp.v_21 ((Sp.v_11 [Sp.v_23.1]).1) (0 : Int) [true, true]).1) (0 : Int) [true, true]).1) (0 : Int) [false]) (gd (Sp.p_21 ((Sp.v_21 ((Sp.v_21 ((Sp.v_21 ((Sp.v_11 [Sp.v_23.1]).1) (0 : Int) [true, true]).1) (0 : Int) [true, true]).1) (0 : Int) [false]).1) (0 : Int) [false]) (bif (Sp.v_11 [Sp.v_23.1]).2.1 == (0 : Int) then bif (Sp.v_21 ((Sp.v_11 [Sp.v_23.1]).1) (0 : Int) [true, true]).2.1 then bif (Sp.v_21 ((Sp.v_21 ((Sp.v_11 [Sp.v_23.1]).1) (0 : Int) [true, true]).1) (0 : Int) [true, true]).2.1 then bif (Sp.v_21 ((Sp.v_21 ((Sp.v_21 ((Sp.v_11 [Sp.v_23.1]).1) (0 : Int) [true, true]).1) (0 : Int) [true, true]).1) (0 : Int) [false]).2.1 then bif (Sp.v_21 ((Sp.v_21 ((Sp.v_21 ((Sp.v_21 ((Sp.v_11 [Sp.v_23.1]).1) (0 : Int) [true, true]).1) (0 : Int) [true, true]).1) (0 : Int) [false]).1) (0 : Int) [false]).2.1 then gd (Sp.p_24 ((Sp.v_21 ((Sp.v_11 [Sp.v_23.1]).1) (0 : Int) [true, true]).1)) (bif (Sp.v_24 ((Sp.v_21 ((Sp.v_11 [Sp.v_23.1]).1) (0 : Int) [true, true]).1)).1 == (11 : Int) then gd (Sp.p_22 ((Sp.v_21 ((Sp.v_21 ((Sp.v_11 [Sp.v_23.1]).1) (0 : Int) [true, true]).1) (0 : Int) [true, true]).1)) (bif (Sp.v_22 ((Sp.v_21 ((Sp.v_21 ((Sp.v_11 [Sp.v_23.1]).1) (0 : Int) [true, true]).1) (0 : Int) [true, true]).1)).1 then gd (Sp.p_22 ((Sp.v_21 ((Sp.v_21 ((Sp.v_21 ((Sp.v_11 [Sp.v_23.1]).1) (0 : Int) [true, true]).1) (0 : Int) [true, true]).1) (0 : Int) [false]).1)) (bif !(Sp.v_22 ((Sp.v_21 ((Sp.v_21 ((Sp.v_21 ((Sp.v_11 [Sp.v_23.1]).1) (0 : Int) [true, true]).1) (0 : Int) [true, true]).1) (0 : Int) [false]).1)).1 then gd (Sp.p_24 ((Sp.v_21 ((Sp.v_21 ((Sp.v_21 ((Sp.v_11 [Sp.v_23.1]).1) (0 : Int) [true, true]).1) (0 : Int) [true, true]).1) (0 : Int) [false]).1)) (bif Sp.andI IntKind.i64 ((Sp.v_24 ((Sp.v_21 ((Sp.v_21 ((Sp.v_21 ((Sp.v_11 [Sp.v_23.1]).1) (0 : Int) [true, true]).1) (0 : Int) [true, true]).1) (0 : Int) [false]).1)).1) (4 : Int) != (0 : Int) then gd (Sp.p_24 ((Sp.v_21 ((Sp.v_21 ((Sp.v_21 ((Sp.v_21 ((Sp.v_11 [Sp.v_23.1]).1) (0 : Int) [true, true]).1) (0 : Int) [true, true]).1) (0 : Int) [false]).1) (0 : Int) [false]).1)) (some ((Sp.v_24 ((Sp.v_21 ((Sp.v_21 ((Sp.v_21 ((Sp.v_21 ((Sp.v_11 [Sp.v_23.1]).1) (0 : Int) [true, true]).1) (0 : Int) [true, true]).1) (0 : Int) [false]).1) (0 : Int) [false]).1)).1 == (8 : Int), PUnit.unit)) else some (false, PUnit.unit)) else some (false, PUnit.unit)) else some (false, PUnit.unit)) else some (false, PUnit.unit)) else some (false, PUnit.unit) else some (false, PUnit.unit) else some (false, PUnit.unit) else some (false, PUnit.unit) else some (false, PUnit.unit)))))))
theorem fn_8  : evFnL sm_8 FU (ovr noO (evFn sm_8 fns FU 0)) .nil ir8 (ofH [] (())) [] (pureK [.bool]) = F_8 := by kernel_rfl
def Sp.p_8  : Bool := (F_8).isSome
def Sp.v_8  : Bool × Unit := (F_8).getD (dfH [.bool])
def s_8 : Summ := shN [] [.bool] (fun x => Sp.p_8 ) (fun x => Sp.v_8 )
theorem pv_8  {y : Bool × Unit} (h : F_8 = some y) : Sp.p_8 = true ∧ Sp.v_8 = y := ⟨by rw [Sp.p_8, h]; rfl, by rw [Sp.v_8, h]; rfl⟩
theorem run_8 (x : HDen []) (y : HDen [.bool]) (h : F_8  = some y) : evFn sm_8 fns FU 1 8 (ofH [] x) [] (pureK [.bool]) = some y :=
  evFnL_sound (fn := ir8) (t := .nil) (o := noO) rfl noO_ok trivial ((fn_8).trans h)
end
end Go.Ev
namespace Go.Ev
open Go
set_option maxRecDepth 100000
set_option maxHeartbeats 4000000
set_option linter.unusedVariables false
noncomputable section
abbrev Zy16_0 : Ty := (.pair (.slice (.pair (.int .i64) (.pair (.int .i64) (.pair (.int .i64) (.pair (.int .i64) (.pair (.int .i64) (.pair (.int .i64) (.pair .bool (.pair (.int .i64) .unit))))))))) (.pair (.slice (.pair (.int .i64) (.pair (.int .i64) (.pair (.int .i64) (.pair (.int .i64) (.pair (.int .i64) (.pair (.slice (.int .i64)) (.pair (.int .i64) .unit)))))))) (.pair (.int .i64) (.pair .bool .unit))))
abbrev Zt16_1 : Type := List (Int × Int × Int × Int × Int × Int × Bool × Int × PUnit) × List (Int × Int × Int × Int × Int × List Int × Int × PUnit) × Int × Bool × PUnit
abbrev Zt16_2 : Type := List (Int × Int × Int × Int × Int × List Int × Int × PUnit)

def sm_16 : Nat → Option Summ := fun f => none
def T_16_1 (p0 : Zt16_2) (p1 : Int) (p2 : Int) : St := St.mk (jl 22 ++ ([CV.pure (Ty.slice (Ty.pair (Ty.int IntKind.i64) (Ty.pair (Ty.int IntKind.i64) (Ty.pair (Ty.int IntKind.i64) (Ty.pair (Ty.int IntKind.i64) (Ty.pair (Ty.int IntKind.i64) (Ty.pair (Ty.slice (Ty.int IntKind.i64)) (Ty.pair (Ty.int IntKind.i64) Ty.unit)))))))) p0, CV.int IntKind.i64 p1, CV.int IntKind.i64 p2] ++ (jl 8))) [] (0 : Nat)
def X_16_1_0 : St := St.mk ([jk, jk, CV.bool true] ++ (jl 30)) [] (0 : Nat)
def X_16_1_1 : St := St.mk (jl 33) [] (0 : Nat)
inductive Sp.E_16_1 where
  | e0
  | e1
def Sp.B_16_1 {R : Type} (r : Option Sp.E_16_1) (k0 : Option R) (k1 : Option R) : Option R := match r with
  | none => none
  | some (.e0) => k0
  | some (.e1) => k1
def Sp.L_16_1 : Nat → (List (Int × Int × Int × Int × Int × List Int × Int × PUnit)) → (Int) → (Int) → Option Sp.E_16_1
  | 0, _, _, _ => none
  | m + 1, p0, p1, p2 => bif decide (p2 < p1) then gd (inB p2 (List.length p0)) (bif decide ((↑(List.length ((List.getD p0 (Int.toNat p2) Zd1).2.2.2.2.2.1)) : Int) > (20 : Int)) then some (Sp.E_16_1.e0) else Sp.L_16_1 m p0 p1 (IntKind.wrap IntKind.i64 (p2 + (1 : Int)))) else some (Sp.E_16_1.e1)
def G_16_1 {R : Type} (p0 : Zt16_2) (p1 : Int) (p2 : Int) (k : Ex → St → Option R) : Option R := Sp.B_16_1 (Sp.L_16_1 FU p0 p1 p2) (k Ex.ret (X_16_1_0)) (k (Ex.exit (0 : Nat)) (X_16_1_1))
def o_16_1 {R : Type} (G : (Zt16_2) → (Int) → (Int) → (Ex → St → Option R) → Option R) : St → (Ex → St → Option R) → Option R := fun T k => match T.sl.getD 22 .junk, T.sl.getD 23 .junk, T.sl.getD 24 .junk, T.hp with
  | CV.pure (Ty.slice (Ty.pair (Ty.int IntKind.i64) (Ty.pair (Ty.int IntKind.i64) (Ty.pair (Ty.int IntKind.i64) (Ty.pair (Ty.int IntKind.i64) (Ty.pair (Ty.int IntKind.i64) (Ty.pair (Ty.slice (Ty.int IntKind.i64)) (Ty.pair (Ty.int IntKind.i64) Ty.unit)))))))) p0, CV.int IntKind.i64 p1, CV.int IntKind.i64 p2, [] => gd (shapeOK T 33 [22, 23, 24] (0 : Nat)) (G p0 p1 p2 k)
  | _, _, _, _ => none
theorem o_16_1_inv {R : Type} {G : (Zt16_2) → (Int) → (Int) → (Ex → St → Option R) → Option R} {T : St} {k : Ex → St → Option R} {r : R} (h : o_16_1 G T k = some r) : ∃ p0 p1 p2, T = T_16_1 p0 p1 p2 ∧ G p0 p1 p2 k = some r := by
  unfold o_16_1 at h
  split at h
  · obtain ⟨hs, h'⟩ := gd_some h
    refine ⟨_, _, _, (st_of (asg := [(22, _), (23, _), (24, _)]) hs ⟨by assumption, by assumption, by assumption, trivial⟩ (by assumption)).trans ?_, h'⟩
    kernel_rfl
  · cases h
def T_16_0 (p0 : Zt16_1) : St := St.mk ([jk, CV.ptr (0 : Nat) []] ++ (jl 31)) [Blk.mem (CV.pure (Ty.pair (Ty.slice (Ty.pair (Ty.int IntKind.i64) (Ty.pair (Ty.int IntKind.i64) (Ty.pair (Ty.int IntKind.i64) (Ty.pair (Ty.int IntKind.i64) (Ty.pair (Ty.int IntKind.i64) (Ty.pair (Ty.int IntKind.i64) (Ty.pair Ty.bool (Ty.pair (Ty.int IntKind.i64) Ty.unit))))))))) (Ty.pair (Ty.slice (Ty.pair (Ty.int IntKind.i64) (Ty.pair (Ty.int IntKind.i64) (Ty.pair (Ty.int IntKind.i64) (Ty.pair (Ty.int IntKind.i64) (Ty.pair (Ty.int IntKind.i64) (Ty.pair (Ty.slice (Ty.int IntKind.i64)) (Ty.pair (Ty.int IntKind.i64) Ty.unit)))))))) (Ty.pair (Ty.int IntKind.i64) (Ty.pair Ty.bool Ty.unit)))) p0)] (0 : Nat)
def X_16_0_0 : St := St.mk ([jk, jk, CV.bool true] ++ (jl 30)) [] (0 : Nat)
def X_16_0_1 : St := St.mk ([jk, jk, CV.bool false] ++ (jl 30)) [] (0 : Nat)
inductive Sp.E_16_0 where
  | e0
  | e1
def Sp.B_16_0 {R : Type} (r : Option Sp.E_16_0) (k0 : Option R) (k1 : Option R) : Option R := match r with
  | none => none
  | some (.e0) => k0
  | some (.e1) => k1
def Sp.J_16_0 (p0 : List (Int × Int × Int × Int × Int × Int × Bool × Int × PUnit) × List (Int × Int × Int × Int × Int × List Int × Int × PUnit) × Int × Bool × PUnit) : Option Sp.E_16_0 :=
  Sp.B_16_1 (Sp.L_16_1 (4611686018427387904 : Nat) (p0.2.1) (↑(List.length (p0.2.1)) : Int) (0 : Int)) (some (Sp.E_16_0.e0)) (some (Sp.E_16_0.e1))
def G_16_0 {R : Type} (p0 : Zt16_1) (k : Ex → St → Option R) : Option R := Sp.B_16_0 (Sp.J_16_0 p0) (k Ex.ret (X_16_0_0)) (k Ex.ret (X_16_0_1))
def o_16_0 {R : Type} (G : (Zt16_1) → (Ex → St → Option R) → Option R) : St → (Ex → St → Option R) → Option R := fun T k => match T.sl.getD 1 .junk, T.hp with
  | CV.ptr (0 : Nat) [], ((Blk.mem (CV.pure (Ty.pair (Ty.slice (Ty.pair (Ty.int IntKind.i64) (Ty.pair (Ty.int IntKind.i64) (Ty.pair (Ty.int IntKind.i64) (Ty.pair (Ty.int IntKind.i64) (Ty.pair (Ty.int IntKind.i64) (Ty.pair (Ty.int IntKind.i64) (Ty.pair Ty.bool (Ty.pair (Ty.int IntKind.i64) Ty.unit))))))))) (Ty.pair (Ty.slice (Ty.pair (Ty.int IntKind.i64) (Ty.pair (Ty.int IntKind.i64) (Ty.pair (Ty.int IntKind.i64) (Ty.pair (Ty.int IntKind.i64) (Ty.pair (Ty.int IntKind.i64) (Ty.pair (Ty.slice (Ty.int IntKind.i64)) (Ty.pair (Ty.int IntKind.i64) Ty.unit)))))))) (Ty.pair (Ty.int IntKind.i64) (Ty.pair Ty.bool Ty.unit)))) p0)) :: []) => gd (shapeOK T 33 [1] (0 : Nat)) (G p0 k)
  | _, _ => none
theorem o_16_0_inv {R : Type} {G : (Zt16_1) → (Ex → St → Option R) → Option R} {T : St} {k : Ex → St → Option R} {r : R} (h : o_16_0 G T k = some r) : ∃ p0, T = T_16_0 p0 ∧ G p0 k = some r := by
  unfold o_16_0 at h
  split at h
  · obtain ⟨hs, h'⟩ := gd_some h
    refine ⟨_, (st_of (asg := [(1, _)]) hs ⟨by assumption, trivial⟩ (by assumption)).trans ?_, h'⟩
    kernel_rfl
  · cases h
def O_16_16_1 {R : Type} : St → (Ex → St → Option R) → Option R := fun T k => o_16_1 G_16_1 T k
def O_16_16_0 {R : Type} : St → (Ex → St → Option R) → Option R := fun T k => o_16_0 G_16_0 T k
theorem body_16_1 {R : Type} (K0 : St → Option R) (K1 : Ex → St → Option R) (p0 : Zt16_2) (p1 : Int) (p2 : Int) : evLB (evCodeL sm_16 FU (ovr noO (evFn sm_16 fns FU 0)) .nil ir16_b1) (St.norm ir16_v1) (T_16_1 p0 p1 p2) K0 K1 =
  bif decide (p2 < p1) then gd (inB p2 (List.length p0)) (bif decide ((↑(List.length ((List.getD p0 (Int.toNat p2) Zd1).2.2.2.2.2.1)) : Int) > (20 : Int)) then K1 Ex.ret X_16_1_0 else K0 (T_16_1 p0 p1 (IntKind.wrap IntKind.i64 (p2 + (1 : Int))))) else K1 (Ex.exit (0 : Nat)) X_16_1_1 := by kernel_rfl
theorem Bgd_16_1 {R : Type} {c : Bool} {x : Option R} {y : Option Sp.E_16_1} {k0 : Option R} {k1 : Option R} (h : x = Sp.B_16_1 y k0 k1) : gd c x = Sp.B_16_1 (gd c y) k0 k1 := by cases c; rfl; exact h
theorem Bcond_16_1 {R : Type} {c : Bool} {x x' : Option R} {y y' : Option Sp.E_16_1} {k0 : Option R} {k1 : Option R} (h : x = Sp.B_16_1 y k0 k1) (h' : x' = Sp.B_16_1 y' k0 k1) : (bif c then x else x') = Sp.B_16_1 (bif c then y else y') k0 k1 := by cases c; exact h'; exact h
theorem loop_16_1 {R : Type} (k : Ex → St → Option R) : ∀ (m : Nat) (p0 : Zt16_2) (p1 : Int) (p2 : Int), evLoopN (evCodeL sm_16 FU (ovr noO (evFn sm_16 fns FU 0)) .nil ir16_b1) (St.norm ir16_v1) m (T_16_1 p0 p1 p2) k = Sp.B_16_1 (Sp.L_16_1 m p0 p1 p2) (k Ex.ret (X_16_1_0)) (k (Ex.exit (0 : Nat)) (X_16_1_1))
  | 0, _, _, _ => rfl
  | m + 1, p0, p1, p2 => by
    rw [evLoopN_succ, body_16_1, Sp.L_16_1]
    repeat' first | apply Bgd_16_1 | apply Bcond_16_1 | exact loop_16_1 k m _ _ _ | rfl
theorem ok_16_1 {R : Type} (T : St) (k : Ex → St → Option R) (r : R) (h0 : o_16_1 G_16_1 T k = some r) : evLoopN (evCode sm_16 FU (evFn sm_16 fns FU 0) ir16_b1) (St.norm ir16_v1) FU T k = some r := by
  obtain ⟨p0, p1, p2, rfl, h⟩ := o_16_1_inv h0
  refine evLoopN_L (t := .nil) noO_ok trivial _ _ _ _ ?_
  rw [loop_16_1]
  exact h
theorem OK_16_16_1 {R : Type} (T : St) (k : Ex → St → Option R) (r : R) (h : O_16_16_1 T k = some r) : evLoopN (evCode sm_16 FU (evFn sm_16 fns FU 0) ir16_b1) (St.norm ir16_v1) FU T k = some r := ok_16_1 T k r h
theorem body_16_0 {R : Type} (K1 : Ex → St → Option R) (p0 : Zt16_1) : evJ (evCodeL sm_16 FU (ovr noO (evFn sm_16 fns FU 0)) (ir16_bt0 O_16_16_1) ir16_b0) (T_16_0 p0) K1 =
  Sp.B_16_1 (Sp.L_16_1 (4611686018427387904 : Nat) (p0.2.1) (↑(List.length (p0.2.1)) : Int) (0 : Int)) (K1 Ex.ret X_16_0_0) (K1 Ex.ret X_16_0_1) := by kernel_rfl
theorem Bgd_16_0 {R : Type} {c : Bool} {x : Option R} {y : Option Sp.E_16_0} {k0 : Option R} {k1 : Option R} (h : x = Sp.B_16_0 y k0 k1) : gd c x = Sp.B_16_0 (gd c y) k0 k1 := by cases c; rfl; exact h
theorem Bcond_16_0 {R : Type} {c : Bool} {x x' : Option R} {y y' : Option Sp.E_16_0} {k0 : Option R} {k1 : Option R} (h : x = Sp.B_16_0 y k0 k1) (h' : x' = Sp.B_16_0 y' k0 k1) : (bif c then x else x') = Sp.B_16_0 (bif c then y else y') k0 k1 := by cases c; exact h'; exact h
theorem Bin_16_0_16_1 {R : Type} {r : Option Sp.E_16_1} {k0 : Option R} {k1 : Option R} {f0 : Option R} {f1 : Option R} {g0 : Option Sp.E_16_0} {g1 : Option Sp.E_16_0} (h0 : f0 = Sp.B_16_0 g0 k0 k1) (h1 : f1 = Sp.B_16_0 g1 k0 k1) : Sp.B_16_1 r f0 f1 = Sp.B_16_0 (Sp.B_16_1 r g0 g1) k0 k1 := by
  cases r with
  | none => rfl
  | some e => cases e with
    | e0 => exact h0
    | e1 => exact h1
theorem loop_16_0 {R : Type} (k : Ex → St → Option R) (p0 : Zt16_1) : evJ (evCodeL sm_16 FU (ovr noO (evFn sm_16 fns FU 0)) (ir16_bt0 O_16_16_1) ir16_b0) (T_16_0 p0) k = Sp.B_16_0 (Sp.J_16_0 p0) (k Ex.ret (X_16_0_0)) (k Ex.ret (X_16_0_1)) := by
  rw [body_16_0, Sp.J_16_0]
  repeat' first | apply Bgd_16_0 | apply Bcond_16_0 | (apply Bin_16_0_16_1 <;> intros) | rfl
theorem ok_16_0 {R : Type} (T : St) (k : Ex → St → Option R) (r : R) (h0 : o_16_0 G_16_0 T k = some r) : evCode sm_16 FU (evFn sm_16 fns FU 0) ir16_b0 T k = some r := by
  obtain ⟨p0, rfl, h⟩ := o_16_0_inv h0
  refine bodyL_sound (t := (ir16_bt0 O_16_16_1)) noO_ok (ir16_bt0ok (fun T k r => OK_16_16_1 T k r)) (((show ∀ (b : St → (Ex → St → Option R) → Option R) (T : St) (k : Ex → St → Option R), b T k = evJ b T k from fun _ _ _ => rfl) _ _ _).trans ((loop_16_0 k p0).trans h))
theorem OK_16_16_0 {R : Type} (T : St) (k : Ex → St → Option R) (r : R) (h : O_16_16_0 T k = some r) : evCode sm_16 FU (evFn sm_16 fns FU 0) ir16_b0 T k = some r := ok_16_0 T k r h
def F_16 (a0 : ((List (Int × (Int × (Int × (Int × (Int × (Int × (Bool × (Int × Unit))))))))) × ((List (Int × (Int × (Int × (Int × (Int × ((List Int) × (Int × Unit)))))))) × (Int × (Bool × Unit))))) : Option (Bool × Unit) :=
  bif decide ((↑(List.length (a0.1)) : Int) > (12 : Int)) then bif decide ((↑(List.length (a0.1)) : Int) ≤ (64 : Int)) then some (true, PUnit.unit) else bif decide ((↑(List.length (a0.2.1)) : Int) > (80 : Int)) then some (true, PUnit.unit) else Sp.B_16_0 (Sp.J_16_0 a0) (some (true, PUnit.unit)) (some (false, PUnit.unit)) else bif decide ((↑(List.length (a0.2.1)) : Int) > (80 : Int)) then some (true, PUnit.unit) else Sp.B_16_0 (Sp.J_16_0 a0) (some (true, PUnit.unit)) (some (false, PUnit.unit))
theorem fn_16 (a0 : ((List (Int × (Int × (Int × (Int × (Int × (Int × (Bool × (Int × Unit))))))))) × ((List (Int × (Int × (Int × (Int × (Int × ((List Int) × (Int × Unit)))))))) × (Int × (Bool × Unit))))) : evFnL sm_16 FU (ovr noO (evFn sm_16 fns FU 0)) (ir16_t O_16_16_0) ir16 (ofH [Zy16_0] (a0, ())) [] (pureK [.bool]) = F_16 a0 := by kernel_rfl
def Sp.p_16 (a0 : ((List (Int × (Int × (Int × (Int × (Int × (Int × (Bool × (Int × Unit))))))))) × ((List (Int × (Int × (Int × (Int × (Int × ((List Int) × (Int × Unit)))))))) × (Int × (Bool × Unit))))) : Bool := (F_16 a0).isSome
def Sp.v_16 (a0 : ((List (Int × (Int × (Int × (Int × (Int × (Int × (Bool × (Int × Unit))))))))) × ((List (Int × (Int × (Int × (Int × (Int × ((List Int) × (Int × Unit)))))))) × (Int × (Bool × Unit))))) : Bool × Unit := (F_16 a0).getD (dfH [.bool])
def s_16 : Summ := shN [Zy16_0] [.bool] (fun x => Sp.p_16 x.1) (fun x => Sp.v_16 x.1)
theorem pv_16 (a0 : ((List (Int × (Int × (Int × (Int × (Int × (Int × (Bool × (Int × Unit))))))))) × ((List (Int × (Int × (Int × (Int × (Int × ((List Int) × (Int × Unit)))))))) × (Int × (Bool × Unit))))) {y : Bool × Unit} (h : F_16 a0 = some y) : Sp.p_16 a0 = true ∧ Sp.v_16 a0 = y := ⟨by rw [Sp.p_16, h]; rfl, by rw [Sp.v_16, h]; rfl⟩
theorem run_16 (x : HDen [Zy16_0]) (y : HDen [.bool]) (h : F_16 x.1 = some y) : evFn sm_16 fns FU 1 16 (ofH [Zy16_0] x) [] (pureK [.bool]) = some y :=
  evFnL_sound (fn := ir16) (t := (ir16_t O_16_16_0)) (o := noO) rfl noO_ok (ir16_tok (fun T k r => OK_16_16_0 T k r)) ((fn_16 _).trans h)
end
end Go.Ev
namespace Go.Ev
open Go
set_option maxRecDepth 100000
set_option maxHeartbeats 4000000
set_option linter.unusedVariables false
noncomputable section
abbrev Zy17_0 : Ty := (Ty.pair (Ty.slice (Ty.pair (Ty.int IntKind.i64) (Ty.pair (Ty.int IntKind.i64) (Ty.pair (Ty.int IntKind.i64) (Ty.pair (Ty.int IntKind.i64) (Ty.pair (Ty.int IntKind.i64) (Ty.pair (Ty.int IntKind.i64) (Ty.pair Ty.bool (Ty.pair (Ty.int IntKind.i64) Ty.unit))))))))) (Ty.pair (Ty.slice (Ty.pair (Ty.int IntKind.i64) (Ty.pair (Ty.int IntKind.i64) (Ty.pair (Ty.int IntKind.i64) (Ty.pair (Ty.int IntKind.i64) (Ty.pair (Ty.int IntKind.i64) (Ty.pair (Ty.slice (Ty.int IntKind.i64)) (Ty.pair (Ty.int IntKind.i64) Ty.unit)))))))) (Ty.pair (Ty.int IntKind.i64) (Ty.pair Ty.bool Ty.unit))))
abbrev Zy17_1 : Ty := (Ty.pair (Ty.int IntKind.i64) (Ty.pair (Ty.int IntKind.i64) (Ty.pair (Ty.int IntKind.i64) (Ty.pair (Ty.int IntKind.i64) (Ty.pair (Ty.int IntKind.i64) (Ty.pair (Ty.int IntKind.i64) (Ty.pair Ty.bool (Ty.pair (Ty.int IntKind.i64) Ty.unit))))))))
abbrev Zt17_2 : Type := List (List (Int × Int × Int × Int × Int × Int × Bool × Int × Unit) × List (Int × Int × Int × Int × Int × List Int × Int × Unit) × Int × Bool × Unit)
abbrev Zt17_3 : Type := List (Int × Int × Int × Int × Int × Int × Bool × Int × Unit) × List (Int × Int × Int × Int × Int × List Int × Int × Unit) × Int × Bool × Unit
abbrev Zy17_4 : Ty := (Ty.pair (Ty.int IntKind.i8) (Ty.pair Ty.bool Ty.unit))
abbrev Zy17_5 : Ty := (.slice (.pair (.slice (.pair (.int .i64) (.pair (.int .i64) (.pair (.int .i64) (.pair (.int .i64) (.pair (.int .i64) (.pair (.int .i64) (.pair .bool (.pair (.int .i64) .unit))))))))) (.pair (.slice (.pair (.int .i64) (.pair (.int .i64) (.pair (.int .i64) (.pair (.int .i64) (.pair (.int .i64) (.pair (.slice (.int .i64)) (.pair (.int .i64) .unit)))))))) (.pair (.int .i64) (.pair .bool .unit)))))
abbrev Zy17_6 : Ty := (.pair (.slice (.pair (.int .i64) (.pair (.int .i64) (.pair (.int .i64) (.pair (.int .i64) (.pair (.int .i64) (.pair (.int .i64) (.pair .bool (.pair (.int .i64) .unit))))))))) (.pair (.slice (.pair (.int .i64) (.pair (.int .i64) (.pair (.int .i64) (.pair (.int .i64) (.pair (.int .i64) (.pair (.slice (.int .i64)) (.pair (.int .i64) .unit)))))))) (.pair (.int .i64) (.pair .bool .unit))))
abbrev Zt17_7 : Type := ((List (Int × (Int × (Int × (Int × (Int × (Int × (Bool × (Int × Unit))))))))) × ((List (Int × (Int × (Int × (Int × (Int × ((List Int) × (Int × Unit)))))))) × (Int × (Bool × Unit))))
abbrev Zt17_8 : Type := List (Int × Int × Int × Int × Int × Int × Bool × Int × Unit)
abbrev Zt17_9 : Type := List (Int × Int × Int × Int × Int × List Int × Int × Unit)
abbrev Zt17_10 : Type := List (Int × Bool × Unit)
abbrev Zy17_11 : Ty := (Ty.pair (Ty.int IntKind.i64) (Ty.pair (Ty.int IntKind.i64) (Ty.pair (Ty.int IntKind.i64) (Ty.pair (Ty.int IntKind.i64) (Ty.pair (Ty.int IntKind.i64) (Ty.pair (Ty.slice (Ty.int IntKind.i64)) (Ty.pair (Ty.int IntKind.i64) Ty.unit)))))))
abbrev Zy17_12 : Ty := (Ty.slice (Ty.pair (Ty.int IntKind.i8) (Ty.pair Ty.bool Ty.unit)))
abbrev Zy17_13 : Ty := (.slice (.pair (.int .i8) (.pair .bool .unit)))

def sm_17 : Nat → Option Summ := fun f => bif Nat.beq f 19 then some s_19 else bif Nat.beq f 20 then some s_20 else bif Nat.beq f 33 then some s_33 else none
def T_17_1 (p0 : Zt17_10) (p1 : Int) (p2 : Int) (p3 : Zt17_3) (p4 : Zt17_2) (p5 : Int × Bool × Unit) (p6 : Zt17_8) (p7 : Zt17_9) : St := St.mk ([jk, jk, CV.ptr (0 : Nat) [], jk, jk, CV.whole (1 : Nat), jk, jk, CV.ptr (2 : Nat) [], jk, jk, jk, jk, CV.pure Zy17_12 p0, CV.int IntKind.i64 p1, CV.int IntKind.i64 p2] ++ (jl 55)) [Blk.mem (CV.pure Zy17_0 p3), Blk.vec (29 : Nat) Zy17_0 p4, Blk.mem (CV.pair (CV.whole (3 : Nat)) (CV.pair (CV.whole (4 : Nat)) (CV.pure (Ty.pair (Ty.int IntKind.i64) (Ty.pair Ty.bool Ty.unit)) p5))), Blk.vec (23 : Nat) Zy17_1 p6, Blk.vec (46 : Nat) Zy17_11 p7] (0 : Nat)
def X_17_1_0 (p0 : Zt17_10) (p1 : Int) (p2 : Int) (p3 : Zt17_3) (p4 : Zt17_2) (p6 : Zt17_8) (p7 : Zt17_9) : St := St.mk ([jk, jk, CV.ptr (0 : Nat) [], jk, jk, CV.whole (1 : Nat), jk, jk, CV.ptr (2 : Nat) [], CV.int IntKind.i64 ((Sp.v_33 p3).2.1), jk, jk, jk, CV.pure Zy17_12 p0, CV.int IntKind.i64 p1, CV.int IntKind.i64 p2] ++ (jl 38 ++ ([CV.bool true, CV.ptr (0 : Nat) [Step.f (3 : Nat) (3 : Nat)], CV.bool (p3.2.2.2.1), CV.tup (CV.pair (CV.pure Zy17_0 (((Sp.v_33 p3).1) : Zt17_7)) (CV.pair (CV.int IntKind.i64 ((Sp.v_33 p3).2.1)) (CV.pure Ty.unit PUnit.unit))), CV.pure Zy17_0 p3, CV.tup (CV.pair (CV.pure Zy17_0 (((Sp.v_33 p3).1) : Zt17_7)) (CV.pair (CV.int IntKind.i64 ((Sp.v_33 p3).2.1)) (CV.pure Ty.unit PUnit.unit))), CV.pure Zy17_0 (((Sp.v_33 p3).1) : Zt17_7), CV.int IntKind.i64 ((Sp.v_33 p3).2.1)] ++ (jl 9)))) [Blk.mem (CV.pure Zy17_0 p3), Blk.vec (29 : Nat) Zy17_0 p4, Blk.mem (CV.pure Zy17_0 (((Sp.v_33 p3).1) : Zt17_7)), Blk.vec (23 : Nat) Zy17_1 p6, Blk.vec (46 : Nat) Zy17_11 p7] (0 : Nat)
def X_17_1_1 (p0 : Zt17_10) (p1 : Int) (p2 : Int) (p3 : Zt17_3) (p4 : Zt17_2) (p6 : Zt17_8) (p7 : Zt17_9) : St := St.mk ([jk, jk, CV.ptr (0 : Nat) [], jk, jk, CV.whole (1 : Nat), jk, jk, CV.ptr (2 : Nat) [], CV.int IntKind.i64 ((Sp.v_19 p3).2.1), jk, jk, jk, CV.pure Zy17_12 p0, CV.int IntKind.i64 p1, CV.int IntKind.i64 p2] ++ (jl 6 ++ ([CV.tup (CV.pair (CV.pure Zy17_0 (((Sp.v_19 p3).1) : Zt17_7)) (CV.pair (CV.int IntKind.i64 ((Sp.v_19 p3).2.1)) (CV.pure Ty.unit PUnit.unit))), CV.pure Zy17_0 p3, CV.tup (CV.pair (CV.pure Zy17_0 (((Sp.v_19 p3).1) : Zt17_7)) (CV.pair (CV.int IntKind.i64 ((Sp.v_19 p3).2.1)) (CV.pure Ty.unit PUnit.unit))), CV.pure Zy17_0 (((Sp.v_19 p3).1) : Zt17_7), CV.int IntKind.i64 ((Sp.v_19 p3).2.1)] ++ (jl 27 ++ ([CV.bool false, CV.ptr (0 : Nat) [Step.f (3 : Nat) (3 : Nat)], CV.bool (p3.2.2.2.1)] ++ (jl 14)))))) [Blk.mem (CV.pure Zy17_0 p3), Blk.vec (29 : Nat) Zy17_0 p4, Blk.mem (CV.pure Zy17_0 (((Sp.v_19 p3).1) : Zt17_7)), Blk.vec (23 : Nat) Zy17_1 p6, Blk.vec (46 : Nat) Zy17_11 p7] (0 : Nat)
inductive Sp.E_17_1 where
  | e0 (p0 : Zt17_10) (p1 : Int) (p2 : Int) (p3 : Zt17_3) (p4 : Zt17_2) (p6 : Zt17_8) (p7 : Zt17_9)
  | e1 (p0 : Zt17_10) (p1 : Int) (p2 : Int) (p3 : Zt17_3) (p4 : Zt17_2) (p6 : Zt17_8) (p7 : Zt17_9)
def Sp.B_17_1 {R : Type} (r : Option Sp.E_17_1) (k0 : (Zt17_10) → (Int) → (Int) → (Zt17_3) → (Zt17_2) → (Zt17_8) → (Zt17_9) → Option R) (k1 : (Zt17_10) → (Int) → (Int) → (Zt17_3) → (Zt17_2) → (Zt17_8) → (Zt17_9) → Option R) : Option R := match r with
  | none => none
  | some (.e0 p0 p1 p2 p3 p4 p6 p7) => k0 p0 p1 p2 p3 p4 p6 p7
  | some (.e1 p0 p1 p2 p3 p4 p6 p7) => k1 p0 p1 p2 p3 p4 p6 p7
def Sp.J_17_1 (p0 : List (Int × Bool × Unit)) (p1 : Int) (p2 : Int) (p3 : List (Int × Int × Int × Int × Int × Int × Bool × Int × Unit) × List (Int × Int × Int × Int × Int × List Int × Int × Unit) × Int × Bool × Unit) (p4 : List (List (Int × Int × Int × Int × Int × Int × Bool × Int × Unit) × List (Int × Int × Int × Int × Int × List Int × Int × Unit) × Int × Bool × Unit)) (p5 : Int × Bool × Unit) (p6 : List (Int × Int × Int × Int × Int × Int × Bool × Int × Unit)) (p7 : List (Int × Int × Int × Int × Int × List Int × Int × Unit)) : Option Sp.E_17_1 :=
  bif p3.2.2.2.1 then gd (Sp.p_33 p3) (some (Sp.E_17_1.e0 p0 p1 p2 p3 p4 p6 p7)) else gd (Sp.p_19 p3) (some (Sp.E_17_1.e1 p0 p1 p2 p3 p4 p6 p7))
def G_17_1 {R : Type} (p0 : Zt17_10) (p1 : Int) (p2 : Int) (p3 : Zt17_3) (p4 : Zt17_2) (p5 : Int × Bool × Unit) (p6 : Zt17_8) (p7 : Zt17_9) (k : Ex → St → Option R) : Option R := Sp.B_17_1 (Sp.J_17_1 p0 p1 p2 p3 p4 p5 p6 p7) (fun p0 p1 p2 p3 p4 p6 p7 => k Ex.normal (X_17_1_0 p0 p1 p2 p3 p4 p6 p7)) (fun p0 p1 p2 p3 p4 p6 p7 => k Ex.normal (X_17_1_1 p0 p1 p2 p3 p4 p6 p7))
def o_17_1 {R : Type} (G : (Zt17_10) → (Int) → (Int) → (Zt17_3) → (Zt17_2) → (Int × Bool × Unit) → (Zt17_8) → (Zt17_9) → (Ex → St → Option R) → Option R) : St → (Ex → St → Option R) → Option R := fun T k => match T.sl.getD 2 .junk, T.sl.getD 5 .junk, T.sl.getD 8 .junk, T.sl.getD 13 .junk, T.sl.getD 14 .junk, T.sl.getD 15 .junk, T.hp with
  | CV.ptr (0 : Nat) [], CV.whole (1 : Nat), CV.ptr (2 : Nat) [], CV.pure (Ty.slice (Ty.pair (Ty.int IntKind.i8) (Ty.pair Ty.bool Ty.unit))) p0, CV.int IntKind.i64 p1, CV.int IntKind.i64 p2, ((Blk.mem (CV.pure (Ty.pair (Ty.slice (Ty.pair (Ty.int IntKind.i64) (Ty.pair (Ty.int IntKind.i64) (Ty.pair (Ty.int IntKind.i64) (Ty.pair (Ty.int IntKind.i64) (Ty.pair (Ty.int IntKind.i64) (Ty.pair (Ty.int IntKind.i64) (Ty.pair Ty.bool (Ty.pair (Ty.int IntKind.i64) Ty.unit))))))))) (Ty.pair (Ty.slice (Ty.pair (Ty.int IntKind.i64) (Ty.pair (Ty.int IntKind.i64) (Ty.pair (Ty.int IntKind.i64) (Ty.pair (Ty.int IntKind.i64) (Ty.pair (Ty.int IntKind.i64) (Ty.pair (Ty.slice (Ty.int IntKind.i64)) (Ty.pair (Ty.int IntKind.i64) Ty.unit)))))))) (Ty.pair (Ty.int IntKind.i64) (Ty.pair Ty.bool Ty.unit)))) p3)) :: (Blk.vec (29 : Nat) (Ty.pair (Ty.slice (Ty.pair (Ty.int IntKind.i64) (Ty.pair (Ty.int IntKind.i64) (Ty.pair (Ty.int IntKind.i64) (Ty.pair (Ty.int IntKind.i64) (Ty.pair (Ty.int IntKind.i64) (Ty.pair (Ty.int IntKind.i64) (Ty.pair Ty.bool (Ty.pair (Ty.int IntKind.i64) Ty.unit))))))))) (Ty.pair (Ty.slice (Ty.pair (Ty.int IntKind.i64) (Ty.pair (Ty.int IntKind.i64) (Ty.pair (Ty.int IntKind.i64) (Ty.pair (Ty.int IntKind.i64) (Ty.pair (Ty.int IntKind.i64) (Ty.pair (Ty.slice (Ty.int IntKind.i64)) (Ty.pair (Ty.int IntKind.i64) Ty.unit)))))))) (Ty.pair (Ty.int IntKind.i64) (Ty.pair Ty.bool Ty.unit)))) p4) :: (Blk.mem (CV.pair (CV.whole (3 : Nat)) (CV.pair (CV.whole (4 : Nat)) (CV.pure (Ty.pair (Ty.int IntKind.i64) (Ty.pair Ty.bool Ty.unit)) p5)))) :: (Blk.vec (23 : Nat) (Ty.pair (Ty.int IntKind.i64) (Ty.pair (Ty.int IntKind.i64) (Ty.pair (Ty.int IntKind.i64) (Ty.pair (Ty.int IntKind.i64) (Ty.pair (Ty.int IntKind.i64) (Ty.pair (Ty.int IntKind.i64) (Ty.pair Ty.bool (Ty.pair (Ty.int IntKind.i64) Ty.unit)))))))) p6) :: (Blk.vec (46 : Nat) (Ty.pair (Ty.int IntKind.i64) (Ty.pair (Ty.int IntKind.i64) (Ty.pair (Ty.int IntKind.i64) (Ty.pair (Ty.int IntKind.i64) (Ty.pair (Ty.int IntKind.i64) (Ty.pair (Ty.slice (Ty.int IntKind.i64)) (Ty.pair (Ty.int IntKind.i64) Ty.unit))))))) p7) :: []) => gd (shapeOK T 71 [2, 5, 8, 13, 14, 15] (0 : Nat)) (G p0 p1 p2 p3 p4 p5 p6 p7 k)
  | _, _, _, _, _, _, _ => none
theorem o_17_1_inv {R : Type} {G : (Zt17_10) → (Int) → (Int) → (Zt17_3) → (Zt17_2) → (Int × Bool × Unit) → (Zt17_8) → (Zt17_9) → (Ex → St → Option R) → Option R} {T : St} {k : Ex → St → Option R} {r : R} (h : o_17_1 G T k = some r) : ∃ p0 p1 p2 p3 p4 p5 p6 p7, T = T_17_1 p0 p1 p2 p3 p4 p5 p6 p7 ∧ G p0 p1 p2 p3 p4 p5 p6 p7 k = some r := by
  unfold o_17_1 at h
  split at h
  · obtain ⟨hs, h'⟩ := gd_some h
    refine ⟨_, _, _, _, _, _, _, _, (st_of (asg := [(2, _), (5, _), (8, _), (13, _), (14, _), (15, _)]) hs ⟨by assumption, by assumption, by assumption, by assumption, by assumption, by assumption, trivial⟩ (by assumption)).trans ?_, h'⟩
    kernel_rfl
  · cases h
def T_17_0 (p0 : Zt17_10) (p1 : Int) (p2 : Int) (p3 : Zt17_3) (p4 : Zt17_2) : St := St.mk ([jk, jk, CV.ptr (0 : Nat) [], jk, jk, CV.whole (1 : Nat)] ++ (jl 7 ++ ([CV.pure Zy17_12 p0, CV.int IntKind.i64 p1, CV.int IntKind.i64 p2] ++ (jl 55)))) [Blk.mem (CV.pure Zy17_0 p3), Blk.vec (29 : Nat) Zy17_0 p4] (0 : Nat)
def X_17_0_0 (p4 : Zt17_2) : St := St.mk ([jk, jk, jk, jk, jk, CV.whole (0 : Nat)] ++ (jl 65)) [Blk.vec (29 : Nat) Zy17_0 p4] (0 : Nat)
inductive Sp.E_17_0 where
  | e0 (p4 : Zt17_2)
def Sp.B_17_0 {R : Type} (r : Option Sp.E_17_0) (k0 : (Zt17_2) → Option R) : Option R := match r with
  | none => none
  | some (.e0 p4) => k0 p4
def Sp.L_17_0 : Nat → (List (Int × Bool × Unit)) → (Int) → (Int) → (List (Int × Int × Int × Int × Int × Int × Bool × Int × Unit) × List (Int × Int × Int × Int × Int × List Int × Int × Unit) × Int × Bool × Unit) → (List (List (Int × Int × Int × Int × Int × Int × Bool × Int × Unit) × List (Int × Int × Int × Int × Int × List Int × Int × Unit) × Int × Bool × Unit)) → Option Sp.E_17_0
  | 0, _, _, _, _, _ => none
  | m + 1, p0, p1, p2, p3, p4 => bif decide (p2 < p1) then gd (inB p2 (List.length p0)) (bif decide (IntKind.wrap IntKind.i64 ((List.getD p0 (Int.toNat p2) Zd2).1) ≥ (0 : Int)) then bif decide (IntKind.wrap IntKind.i64 ((List.getD p0 (Int.toNat p2) Zd2).1) < (↑(List.length (p3.1)) : Int)) then gd (inB (IntKind.wrap IntKind.i64 ((List.getD p0 (Int.toNat p2) Zd2).1)) (List.length (p3.1))) (gd (decide ((0 : Int) ≤ if (if (8 : Int) < (List.getD (p3.1) (Int.toNat (IntKind.wrap IntKind.i64 ((List.getD p0 (Int.toNat p2) Zd2).1))) Zd0).2.2.2.2.2.2.2.1 then (8 : Int) else (List.getD (p3.1) (Int.toNat (IntKind.wrap IntKind.i64 ((List.getD p0 (Int.toNat p2) Zd2).1))) Zd0).2.2.2.2.2.2.2.1) > (0 : Int) then if (8 : Int) < (List.getD (p3.1) (Int.toNat (IntKind.wrap IntKind.i64 ((List.getD p0 (Int.toNat p2) Zd2).1))) Zd0).2.2.2.2.2.2.2.1 then (8 : Int) else (List.getD (p3.1) (Int.toNat (IntKind.wrap IntKind.i64 ((List.getD p0 (Int.toNat p2) Zd2).1))) Zd0).2.2.2.2.2.2.2.1 else (0 : Int)) && (((if (if (8 : Int) < (List.getD (p3.1) (Int.toNat (IntKind.wrap IntKind.i64 ((List.getD p0 (Int.toNat p2) Zd2).1))) Zd0).2.2.2.2.2.2.2.1 then (8 : Int) else (List.getD (p3.1) (Int.toNat (IntKind.wrap IntKind.i64 ((List.getD p0 (Int.toNat p2) Zd2).1))) Zd0).2.2.2.2.2.2.2.1) > (0 : Int) then if (8 : Int) < (List.getD (p3.1) (Int.toNat (IntKind.wrap IntKind.i64 ((List.getD p0 (Int.toNat p2) Zd2).1))) Zd0).2.2.2.2.2.2.2.1 then (8 : Int) else (List.getD (p3.1) (Int.toNat (IntKind.wrap IntKind.i64 ((List.getD p0 (Int.toNat p2) Zd2).1))) Zd0).2.2.2.2.2.2.2.1 else (0 : Int)) == if (if (8 : Int) < (List.getD (p3.1) (Int.toNat (IntKind.wrap IntKind.i64 ((List.getD p0 (Int.toNat p2) Zd2).1))) Zd0).2.2.2.2.2.2.2.1 then (8 : Int) else (List.getD (p3.1) (Int.toNat (IntKind.wrap IntKind.i64 ((List.getD p0 (Int.toNat p2) Zd2).1))) Zd0).2.2.2.2.2.2.2.1) > (0 : Int) then if (8 : Int) < (List.getD (p3.1) (Int.toNat (IntKind.wrap IntKind.i64 ((List.getD p0 (Int.toNat p2) Zd2).1))) Zd0).2.2.2.2.2.2.2.1 then (8 : Int) else (List.getD (p3.1) (Int.toNat (IntKind.wrap IntKind.i64 ((List.getD p0 (Int.toNat p2) Zd2).1))) Zd0).2.2.2.2.2.2.2.1 else (0 : Int)) && room (Int.toNat (if (if (8 : Int) < (List.getD (p3.1) (Int.toNat (IntKind.wrap IntKind.i64 ((List.getD p0 (Int.toNat p2) Zd2).1))) Zd0).2.2.2.2.2.2.2.1 then (8 : Int) else (List.getD (p3.1) (Int.toNat (IntKind.wrap IntKind.i64 ((List.getD p0 (Int.toNat p2) Zd2).1))) Zd0).2.2.2.2.2.2.2.1) > (0 : Int) then if (8 : Int) < (List.getD (p3.1) (Int.toNat (IntKind.wrap IntKind.i64 ((List.getD p0 (Int.toNat p2) Zd2).1))) Zd0).2.2.2.2.2.2.2.1 then (8 : Int) else (List.getD (p3.1) (Int.toNat (IntKind.wrap IntKind.i64 ((List.getD p0 (Int.toNat p2) Zd2).1))) Zd0).2.2.2.2.2.2.2.1 else (0 : Int))) (8 : Nat))) (gd (Sp.p_20 p3 (IntKind.wrap IntKind.i64 ((List.getD p0 (Int.toNat p2) Zd2).1)) ((List.getD p0 (Int.toNat p2) Zd2).2.1) (List.replicate (Int.toNat (if (if (8 : Int) < (List.getD (p3.1) (Int.toNat (IntKind.wrap IntKind.i64 ((List.getD p0 (Int.toNat p2) Zd2).1))) Zd0).2.2.2.2.2.2.2.1 then (8 : Int) else (List.getD (p3.1) (Int.toNat (IntKind.wrap IntKind.i64 ((List.getD p0 (Int.toNat p2) Zd2).1))) Zd0).2.2.2.2.2.2.2.1) > (0 : Int) then if (8 : Int) < (List.getD (p3.1) (Int.toNat (IntKind.wrap IntKind.i64 ((List.getD p0 (Int.toNat p2) Zd2).1))) Zd0).2.2.2.2.2.2.2.1 then (8 : Int) else (List.getD (p3.1) (Int.toNat (IntKind.wrap IntKind.i64 ((List.getD p0 (Int.toNat p2) Zd2).1))) Zd0).2.2.2.2.2.2.2.1 else (0 : Int))) (0 : Int))) (bif (Sp.v_20 p3 (IntKind.wrap IntKind.i64 ((List.getD p0 (Int.toNat p2) Zd2).1)) ((List.getD p0 (Int.toNat p2) Zd2).2.1) (List.replicate (Int.toNat (if (if (8 : Int) < (List.getD (p3.1) (Int.toNat (IntKind.wrap IntKind.i64 ((List.getD p0 (Int.toNat p2) Zd2).1))) Zd0).2.2.2.2.2.2.2.1 then (8 : Int) else (List.getD (p3.1) (Int.toNat (IntKind.wrap IntKind.i64 ((List.getD p0 (Int.toNat p2) Zd2).1))) Zd0).2.2.2.2.2.2.2.1) > (0 : Int) then if (8 : Int) < (List.getD (p3.1) (Int.toNat (IntKind.wrap IntKind.i64 ((List.getD p0 (Int.toNat p2) Zd2).1))) Zd0).2.2.2.2.2.2.2.1 then (8 : Int) else (List.getD (p3.1) (Int.toNat (IntKind.wrap IntKind.i64 ((List.getD p0 (Int.toNat p2) Zd2).1))) Zd0).2.2.2.2.2.2.2.1 else (0 : Int))) (0 : Int))).2.1 == (0 : Int) then gd (room (List.length p4 + (1 : Nat)) (64 : Nat)) (Sp.L_17_0 m p0 p1 (IntKind.wrap IntKind.i64 (p2 + (1 : Int))) ((Sp.v_20 p3 (IntKind.wrap IntKind.i64 ((List.getD p0 (Int.toNat p2) Zd2).1)) ((List.getD p0 (Int.toNat p2) Zd2).2.1) (List.replicate (Int.toNat (if (if (8 : Int) < (List.getD (p3.1) (Int.toNat (IntKind.wrap IntKind.i64 ((List.getD p0 (Int.toNat p2) Zd2).1))) Zd0).2.2.2.2.2.2.2.1 then (8 : Int) else (List.getD (p3.1) (Int.toNat (IntKind.wrap IntKind.i64 ((List.getD p0 (Int.toNat p2) Zd2).1))) Zd0).2.2.2.2.2.2.2.1) > (0 : Int) then if (8 : Int) < (List.getD (p3.1) (Int.toNat (IntKind.wrap IntKind.i64 ((List.getD p0 (Int.toNat p2) Zd2).1))) Zd0).2.2.2.2.2.2.2.1 then (8 : Int) else (List.getD (p3.1) (Int.toNat (IntKind.wrap IntKind.i64 ((List.getD p0 (Int.toNat p2) Zd2).1))) Zd0).2.2.2.2.2.2.2.1 else (0 : Int))) (0 : Int))).1) (p4 ++ [(Sp.v_20 p3 (IntKind.wrap IntKind.i64 ((List.getD p0 (Int.toNat p2) Zd2).1)) ((List.getD p0 (Int.toNat p2) Zd2).2.1) (List.replicate (Int.toNat (if (if (8 : Int) < (List.getD (p3.1) (Int.toNat (IntKind.wrap IntKind.i64 ((List.getD p0 (Int.toNat p2) Zd2).1))) Zd0).2.2.2.2.2.2.2.1 then (8 : Int) else (List.getD (p3.1) (Int.toNat (IntKind.wrap IntKind.i64 ((List.getD p0 (Int.toNat p2) Zd2).1))) Zd0).2.2.2.2.2.2.2.1) > (0 : Int) then if (8 : Int) < (List.getD (p3.1) (Int.toNat (IntKind.wrap IntKind.i64 ((List.getD p0 (Int.toNat p2) Zd2).1))) Zd0).2.2.2.2.2.2.2.1 then (8 : Int) else (List.getD (p3.1) (Int.toNat (IntKind.wrap IntKind.i64 ((List.getD p0 (Int.toNat p2) Zd2).1))) Zd0).2.2.2.2.2.2.2.1 else (0 : Int))) (0 : Int))).1])) else Sp.L_17_0 m p0 p1 (IntKind.wrap IntKind.i64 (p2 + (1 : Int))) p3 p4))) else Sp.B_17_1 (Sp.J_17_1 p0 p1 p2 p3 p4 ((0 : Int), false, PUnit.unit) [] []) (fun (y118 : List (Int × Bool × Unit)) (y119 y120 : Int) (y121 : List (Int × Int × Int × Int × Int × Int × Bool × Int × Unit) × List (Int × Int × Int × Int × Int × List Int × Int × Unit) × Int × Bool × Unit) (y122 : List (List (Int × Int × Int × Int × Int × Int × Bool × Int × Unit) × List (Int × Int × Int × Int × Int × List Int × Int × Unit) × Int × Bool × Unit)) (y123 : List (Int × Int × Int × Int × Int × Int × Bool × Int × Unit)) (y124 : List (Int × Int × Int × Int × Int × List Int × Int × Unit)) => bif (Sp.v_33 y121).2.1 == (0 : Int) then gd (room (List.length y122 + (1 : Nat)) (64 : Nat)) (Sp.L_17_0 m y118 y119 (IntKind.wrap IntKind.i64 (y120 + (1 : Int))) ((Sp.v_33 y121).1) (y122 ++ [(Sp.v_33 y121).1])) else Sp.L_17_0 m y118 y119 (IntKind.wrap IntKind.i64 (y120 + (1 : Int))) y121 y122) fun (y125 : List (Int × Bool × Unit)) (y126 y127 : Int) (y128 : List (Int × Int × Int × Int × Int × Int × Bool × Int × Unit) × List (Int × Int × Int × Int × Int × List Int × Int × Unit) × Int × Bool × Unit) (y129 : List (List (Int × Int × Int × Int × Int × Int × Bool × Int × Unit) × List (Int × Int × Int × Int × Int × List Int × Int × Unit) × Int × Bool × Unit)) (y130 : List (Int × Int × Int × Int × Int × Int × Bool × Int × Unit)) (y131 : List (Int × Int × Int × Int × Int × List Int × Int × Unit)) => bif (Sp.v_19 y128).2.1 == (0 : Int) then gd (room (List.length y129 + (1 : Nat)) (64 : Nat)) (Sp.L_17_0 m y125 y126 (IntKind.wrap IntKind.i64 (y127 + (1 : Int))) ((Sp.v_19 y128).1) (y129 ++ [(Sp.v_19 y128).1])) else Sp.L_17_0 m y125 y126 (IntKind.wrap IntKind.i64 (y127 + (1 : Int))) y128 y129 else Sp.B_17_1 (Sp.J_17_1 p0 p1 p2 p3 p4 ((0 : Int), false, PUnit.unit) [] []) (fun (y132 : List (Int × Bool × Unit)) (y133 y134 : Int) (y135 : List (Int × Int × Int × Int × Int × Int × Bool × Int × Unit) × List (Int × Int × Int × Int × Int × List Int × Int × Unit) × Int × Bool × Unit) (y136 : List (List (Int × Int × Int × Int × Int × Int × Bool × Int × Unit) × List (Int × Int × Int × Int × Int × List Int × Int × Unit) × Int × Bool × Unit)) (y137 : List (Int × Int × Int × Int × Int × Int × Bool × Int × Unit)) (y138 : List (Int × Int × Int × Int × Int × List Int × Int × Unit)) => bif (Sp.v_33 y135).2.1 == (0 : Int) then gd (room (List.length y136 + (1 : Nat)) (64 : Nat)) (Sp.L_17_0 m y132 y133 (IntKind.wrap IntKind.i64 (y134 + (1 : Int))) ((Sp.v_33 y135).1) (y136 ++ [(Sp.v_33 y135).1])) else Sp.L_17_0 m y132 y133 (IntKind.wrap IntKind.i64 (y134 + (1 : Int))) y135 y136) fun (y139 : List (Int × Bool × Unit)) (y140 y141 : Int) (y142 : List (Int × Int × Int × Int × Int × Int × Bool × Int × Unit) × List (Int × Int × Int × Int × Int × List Int × Int × Unit) × Int × Bool × Unit) (y143 : List (List (Int × Int × Int × Int × Int × Int × Bool × Int × Unit) × List (Int × Int × Int × Int × Int × List Int × Int × Unit) × Int × Bool × Unit)) (y144 : List (Int × Int × Int × Int × Int × Int × Bool × Int × Unit)) (y145 : List (Int × Int × Int × Int × Int × List Int × Int × Unit)) => bif (Sp.v_19 y142).2.1 == (0 : Int) then gd (room (List.length y143 + (1 : Nat)) (64 : Nat)) (Sp.L_17_0 m y139 y140 (IntKind.wrap IntKind.i64 (y141 + (1 : Int))) ((Sp.v_19 y142).1) (y143 ++ [(Sp.v_19 y142).1])) else Sp.L_17_0 m y139 y140 (IntKind.wrap IntKind.i64 (y141 + (1 : Int))) y142 y143) else some (Sp.E_17_0.e0 p4)
def G_17_0 {R : Type} (p0 : Zt17_10) (p1 : Int) (p2 : Int) (p3 : Zt17_3) (p4 : Zt17_2) (k : Ex → St → Option R) : Option R := Sp.B_17_0 (Sp.L_17_0 FU p0 p1 p2 p3 p4) (fun p4 => k (Ex.exit (0 : Nat)) (X_17_0_0 p4))
def o_17_0 {R : Type} (G : (Zt17_10) → (Int) → (Int) → (Zt17_3) → (Zt17_2) → (Ex → St → Option R) → Option R) : St → (Ex → St → Option R) → Option R := fun T k => match T.sl.getD 2 .junk, T.sl.getD 5 .junk, T.sl.getD 13 .junk, T.sl.getD 14 .junk, T.sl.getD 15 .junk, T.hp with
  | CV.ptr (0 : Nat) [], CV.whole (1 : Nat), CV.pure (Ty.slice (Ty.pair (Ty.int IntKind.i8) (Ty.pair Ty.bool Ty.unit))) p0, CV.int IntKind.i64 p1, CV.int IntKind.i64 p2, ((Blk.mem (CV.pure (Ty.pair (Ty.slice (Ty.pair (Ty.int IntKind.i64) (Ty.pair (Ty.int IntKind.i64) (Ty.pair (Ty.int IntKind.i64) (Ty.pair (Ty.int IntKind.i64) (Ty.pair (Ty.int IntKind.i64) (Ty.pair (Ty.int IntKind.i64) (Ty.pair Ty.bool (Ty.pair (Ty.int IntKind.i64) Ty.unit))))))))) (Ty.pair (Ty.slice (Ty.pair (Ty.int IntKind.i64) (Ty.pair (Ty.int IntKind.i64) (Ty.pair (Ty.int IntKind.i64) (Ty.pair (Ty.int IntKind.i64) (Ty.pair (Ty.int IntKind.i64) (Ty.pair (Ty.slice (Ty.int IntKind.i64)) (Ty.pair (Ty.int IntKind.i64) Ty.unit)))))))) (Ty.pair (Ty.int IntKind.i64) (Ty.pair Ty.bool Ty.unit)))) p3)) :: (Blk.vec (29 : Nat) (Ty.pair (Ty.slice (Ty.pair (Ty.int IntKind.i64) (Ty.pair (Ty.int IntKind.i64) (Ty.pair (Ty.int IntKind.i64) (Ty.pair (Ty.int IntKind.i64) (Ty.pair (Ty.int IntKind.i64) (Ty.pair (Ty.int IntKind.i64) (Ty.pair Ty.bool (Ty.pair (Ty.int IntKind.i64) Ty.unit))))))))) (Ty.pair (Ty.slice (Ty.pair (Ty.int IntKind.i64) (Ty.pair (Ty.int IntKind.i64) (Ty.pair (Ty.int IntKind.i64) (Ty.pair (Ty.int IntKind.i64) (Ty.pair (Ty.int IntKind.i64) (Ty.pair (Ty.slice (Ty.int IntKind.i64)) (Ty.pair (Ty.int IntKind.i64) Ty.unit)))))))) (Ty.pair (Ty.int IntKind.i64) (Ty.pair Ty.bool Ty.unit)))) p4) :: []) => gd (shapeOK T 71 [2, 5, 13, 14, 15] (0 : Nat)) (G p0 p1 p2 p3 p4 k)
  | _, _, _, _, _, _ => none
theorem o_17_0_inv {R : Type} {G : (Zt17_10) → (Int) → (Int) → (Zt17_3) → (Zt17_2) → (Ex → St → Option R) → Option R} {T : St} {k : Ex → St → Option R} {r : R} (h : o_17_0 G T k = some r) : ∃ p0 p1 p2 p3 p4, T = T_17_0 p0 p1 p2 p3 p4 ∧ G p0 p1 p2 p3 p4 k = some r := by
  unfold o_17_0 at h
  split at h
  · obtain ⟨hs, h'⟩ := gd_some h
    refine ⟨_, _, _, _, _, (st_of (asg := [(2, _), (5, _), (13, _), (14, _), (15, _)]) hs ⟨by assumption, by assumption, by assumption, by assumption, by assumption, trivial⟩ (by assumption)).trans ?_, h'⟩
    kernel_rfl
  · cases h
def O_17_17_1 {R : Type} : St → (Ex → St → Option R) → Option R := fun T k => o_17_1 G_17_1 T k
def O_17_17_0 {R : Type} : St → (Ex → St → Option R) → Option R := fun T k => o_17_0 G_17_0 T k
theorem body_17_1 {R : Type} (K1 : Ex → St → Option R) (p0 : Zt17_10) (p1 : Int) (p2 : Int) (p3 : Zt17_3) (p4 : Zt17_2) (p5 : Int × Bool × Unit) (p6 : Zt17_8) (p7 : Zt17_9) : evJ (evCodeL sm_17 FU (ovr noO (evFn sm_17 fns FU 0)) .nil ir17_b1) (T_17_1 p0 p1 p2 p3 p4 p5 p6 p7) K1 =
  bif p3.2.2.2.1 then gd (Sp.p_33 p3) (K1 Ex.normal (X_17_1_0 p0 p1 p2 p3 p4 p6 p7)) else gd (Sp.p_19 p3) (K1 Ex.normal (X_17_1_1 p0 p1 p2 p3 p4 p6 p7)) := by kernel_rfl
theorem Bgd_17_1 {R : Type} {c : Bool} {x : Option R} {y : Option Sp.E_17_1} {k0 : (Zt17_10) → (Int) → (Int) → (Zt17_3) → (Zt17_2) → (Zt17_8) → (Zt17_9) → Option R} {k1 : (Zt17_10) → (Int) → (Int) → (Zt17_3) → (Zt17_2) → (Zt17_8) → (Zt17_9) → Option R} (h : x = Sp.B_17_1 y k0 k1) : gd c x = Sp.B_17_1 (gd c y) k0 k1 := by cases c; rfl; exact h
theorem Bcond_17_1 {R : Type} {c : Bool} {x x' : Option R} {y y' : Option Sp.E_17_1} {k0 : (Zt17_10) → (Int) → (Int) → (Zt17_3) → (Zt17_2) → (Zt17_8) → (Zt17_9) → Option R} {k1 : (Zt17_10) → (Int) → (Int) → (Zt17_3) → (Zt17_2) → (Zt17_8) → (Zt17_9) → Option R} (h : x = Sp.B_17_1 y k0 k1) (h' : x' = Sp.B_17_1 y' k0 k1) : (bif c then x else x') = Sp.B_17_1 (bif c then y else y') k0 k1 := by cases c; exact h'; exact h
theorem loop_17_1 {R : Type} (k : Ex → St → Option R) (p0 : Zt17_10) (p1 : Int) (p2 : Int) (p3 : Zt17_3) (p4 : Zt17_2) (p5 : Int × Bool × Unit) (p6 : Zt17_8) (p7 : Zt17_9) : evJ (evCodeL sm_17 FU (ovr noO (evFn sm_17 fns FU 0)) .nil ir17_b1) (T_17_1 p0 p1 p2 p3 p4 p5 p6 p7) k = Sp.B_17_1 (Sp.J_17_1 p0 p1 p2 p3 p4 p5 p6 p7) (fun p0 p1 p2 p3 p4 p6 p7 => k Ex.normal (X_17_1_0 p0 p1 p2 p3 p4 p6 p7)) (fun p0 p1 p2 p3 p4 p6 p7 => k Ex.normal (X_17_1_1 p0 p1 p2 p3 p4 p6 p7)) := by
  rw [body_17_1, Sp.J_17_1]
  repeat' first | apply Bgd_17_1 | apply Bcond_17_1 | rfl
theorem ok_17_1 {R : Type} (T : St) (k : Ex → St → Option R) (r : R) (h0 : o_17_1 G_17_1 T k = some r) : evCode sm_17 FU (evFn sm_17 fns FU 0) ir17_b1 T k = some r := by
  obtain ⟨p0, p1, p2, p3, p4, p5, p6, p7, rfl, h⟩ := o_17_1_inv h0
  refine bodyL_sound (t := .nil) noO_ok trivial (((show ∀ (b : St → (Ex → St → Option R) → Option R) (T : St) (k : Ex → St → Option R), b T k = evJ b T k from fun _ _ _ => rfl) _ _ _).trans ((loop_17_1 k p0 p1 p2 p3 p4 p5 p6 p7).trans h))
theorem OK_17_17_1 {R : Type} (T : St) (k : Ex → St → Option R) (r : R) (h : O_17_17_1 T k = some r) : evCode sm_17 FU (evFn sm_17 fns FU 0) ir17_b1 T k = some r := ok_17_1 T k r h
theorem body_17_0 {R : Type} (K0 : St → Option R) (K1 : Ex → St → Option R) (p0 : Zt17_10) (p1 : Int) (p2 : Int) (p3 : Zt17_3) (p4 : Zt17_2) : evLB (evCodeL sm_17 FU (ovr noO (evFn sm_17 fns FU 0)) (ir17_bt0 O_17_17_1) ir17_b0) (St.norm ir17_v0) (T_17_0 p0 p1 p2 p3 p4) K0 K1 =
  bif decide (p2 < p1) then gd (inB p2 (List.length p0)) (bif decide (IntKind.wrap IntKind.i64 ((List.getD p0 (Int.toNat p2) (Ty.dflt Zy17_4)).1) ≥ (0 : Int)) then bif decide (IntKind.wrap IntKind.i64 ((List.getD p0 (Int.toNat p2) (Ty.dflt Zy17_4)).1) < (↑(List.length (p3.1)) : Int)) then gd (inB (IntKind.wrap IntKind.i64 ((List.getD p0 (Int.toNat p2) (Ty.dflt Zy17_4)).1)) (List.length (p3.1))) (gd (decide ((0 : Int) ≤ if (if (8 : Int) < (List.getD (p3.1) (Int.toNat (IntKind.wrap IntKind.i64 ((List.getD p0 (Int.toNat p2) (Ty.dflt Zy17_4)).1))) (Ty.dflt Zy17_1)).2.2.2.2.2.2.2.1 then (8 : Int) else (List.getD (p3.1) (Int.toNat (IntKind.wrap IntKind.i64 ((List.getD p0 (Int.toNat p2) (Ty.dflt Zy17_4)).1))) (Ty.dflt Zy17_1)).2.2.2.2.2.2.2.1) > (0 : Int) then if (8 : Int) < (List.getD (p3.1) (Int.toNat (IntKind.wrap IntKind.i64 ((List.getD p0 (Int.toNat p2) (Ty.dflt Zy17_4)).1))) (Ty.dflt Zy17_1)).2.2.2.2.2.2.2.1 then (8 : Int) else (List.getD (p3.1) (Int.toNat (IntKind.wrap IntKind.i64 ((List.getD p0 (Int.toNat p2) (Ty.dflt Zy17_4)).1))) (Ty.dflt Zy17_1)).2.2.2.2.2.2.2.1 else (0 : Int)) && (((if (if (8 : Int) < (List.getD (p3.1) (Int.toNat (IntKind.wrap IntKind.i64 ((List.getD p0 (Int.toNat p2) (Ty.dflt Zy17_4)).1))) (Ty.dflt Zy17_1)).2.2.2.2.2.2.2.1 then (8 : Int) else (List.getD (p3.1) (Int.toNat (IntKind.wrap IntKind.i64 ((List.getD p0 (Int.toNat p2) (Ty.dflt Zy17_4)).1))) (Ty.dflt Zy17_1)).2.2.2.2.2.2.2.1) > (0 : Int) then if (8 : Int) < (List.getD (p3.1) (Int.toNat (IntKind.wrap IntKind.i64 ((List.getD p0 (Int.toNat p2) (Ty.dflt Zy17_4)).1))) (Ty.dflt Zy17_1)).2.2.2.2.2.2.2.1 then (8 : Int) else (List.getD (p3.1) (Int.toNat (IntKind.wrap IntKind.i64 ((List.getD p0 (Int.toNat p2) (Ty.dflt Zy17_4)).1))) (Ty.dflt Zy17_1)).2.2.2.2.2.2.2.1 else (0 : Int)) == if (if (8 : Int) < (List.getD (p3.1) (Int.toNat (IntKind.wrap IntKind.i64 ((List.getD p0 (Int.toNat p2) (Ty.dflt Zy17_4)).1))) (Ty.dflt Zy17_1)).2.2.2.2.2.2.2.1 then (8 : Int) else (List.getD (p3.1) (Int.toNat (IntKind.wrap IntKind.i64 ((List.getD p0 (Int.toNat p2) (Ty.dflt Zy17_4)).1))) (Ty.dflt Zy17_1)).2.2.2.2.2.2.2.1) > (0 : Int) then if (8 : Int) < (List.getD (p3.1) (Int.toNat (IntKind.wrap IntKind.i64 ((List.getD p0 (Int.toNat p2) (Ty.dflt Zy17_4)).1))) (Ty.dflt Zy17_1)).2.2.2.2.2.2.2.1 then (8 : Int) else (List.getD (p3.1) (Int.toNat (IntKind.wrap IntKind.i64 ((List.getD p0 (Int.toNat p2) (Ty.dflt Zy17_4)).1))) (Ty.dflt Zy17_1)).2.2.2.2.2.2.2.1 else (0 : Int)) && room (Int.toNat (if (if (8 : Int) < (List.getD (p3.1) (Int.toNat (IntKind.wrap IntKind.i64 ((List.getD p0 (Int.toNat p2) (Ty.dflt Zy17_4)).1))) (Ty.dflt Zy17_1)).2.2.2.2.2.2.2.1 then (8 : Int) else (List.getD (p3.1) (Int.toNat (IntKind.wrap IntKind.i64 ((List.getD p0 (Int.toNat p2) (Ty.dflt Zy17_4)).1))) (Ty.dflt Zy17_1)).2.2.2.2.2.2.2.1) > (0 : Int) then if (8 : Int) < (List.getD (p3.1) (Int.toNat (IntKind.wrap IntKind.i64 ((List.getD p0 (Int.toNat p2) (Ty.dflt Zy17_4)).1))) (Ty.dflt Zy17_1)).2.2.2.2.2.2.2.1 then (8 : Int) else (List.getD (p3.1) (Int.toNat (IntKind.wrap IntKind.i64 ((List.getD p0 (Int.toNat p2) (Ty.dflt Zy17_4)).1))) (Ty.dflt Zy17_1)).2.2.2.2.2.2.2.1 else (0 : Int))) (8 : Nat))) (gd (Sp.p_20 p3 (IntKind.wrap IntKind.i64 ((List.getD p0 (Int.toNat p2) (Ty.dflt Zy17_4)).1)) ((List.getD p0 (Int.toNat p2) (Ty.dflt Zy17_4)).2.1) (List.replicate (Int.toNat (if (if (8 : Int) < (List.getD (p3.1) (Int.toNat (IntKind.wrap IntKind.i64 ((List.getD p0 (Int.toNat p2) (Ty.dflt Zy17_4)).1))) (Ty.dflt Zy17_1)).2.2.2.2.2.2.2.1 then (8 : Int) else (List.getD (p3.1) (Int.toNat (IntKind.wrap IntKind.i64 ((List.getD p0 (Int.toNat p2) (Ty.dflt Zy17_4)).1))) (Ty.dflt Zy17_1)).2.2.2.2.2.2.2.1) > (0 : Int) then if (8 : Int) < (List.getD (p3.1) (Int.toNat (IntKind.wrap IntKind.i64 ((List.getD p0 (Int.toNat p2) (Ty.dflt Zy17_4)).1))) (Ty.dflt Zy17_1)).2.2.2.2.2.2.2.1 then (8 : Int) else (List.getD (p3.1) (Int.toNat (IntKind.wrap IntKind.i64 ((List.getD p0 (Int.toNat p2) (Ty.dflt Zy17_4)).1))) (Ty.dflt Zy17_1)).2.2.2.2.2.2.2.1 else (0 : Int))) (0 : Int))) (bif (Sp.v_20 p3 (IntKind.wrap IntKind.i64 ((List.getD p0 (Int.toNat p2) (Ty.dflt Zy17_4)).1)) ((List.getD p0 (Int.toNat p2) (Ty.dflt Zy17_4)).2.1) (List.replicate (Int.toNat (if (if (8 : Int) < (List.getD (p3.1) (Int.toNat (IntKind.wrap IntKind.i64 ((List.getD p0 (Int.toNat p2) (Ty.dflt Zy17_4)).1))) (Ty.dflt Zy17_1)).2.2.2.2.2.2.2.1 then (8 : Int) else (List.getD (p3.1) (Int.toNat (IntKind.wrap IntKind.i64 ((List.getD p0 (Int.toNat p2) (Ty.dflt Zy17_4)).1))) (Ty.dflt Zy17_1)).2.2.2.2.2.2.2.1) > (0 : Int) then if (8 : Int) < (List.getD (p3.1) (Int.toNat (IntKind.wrap IntKind.i64 ((List.getD p0 (Int.toNat p2) (Ty.dflt Zy17_4)).1))) (Ty.dflt Zy17_1)).2.2.2.2.2.2.2.1 then (8 : Int) else (List.getD (p3.1) (Int.toNat (IntKind.wrap IntKind.i64 ((List.getD p0 (Int.toNat p2) (Ty.dflt Zy17_4)).1))) (Ty.dflt Zy17_1)).2.2.2.2.2.2.2.1 else (0 : Int))) (0 : Int))).2.1 == (0 : Int) then gd (room (List.length p4 + (1 : Nat)) (64 : Nat)) (K0 (T_17_0 p0 p1 (IntKind.wrap IntKind.i64 (p2 + (1 : Int))) ((Sp.v_20 p3 (IntKind.wrap IntKind.i64 ((List.getD p0 (Int.toNat p2) (Ty.dflt Zy17_4)).1)) ((List.getD p0 (Int.toNat p2) (Ty.dflt Zy17_4)).2.1) (List.replicate (Int.toNat (if (if (8 : Int) < (List.getD (p3.1) (Int.toNat (IntKind.wrap IntKind.i64 ((List.getD p0 (Int.toNat p2) (Ty.dflt Zy17_4)).1))) (Ty.dflt Zy17_1)).2.2.2.2.2.2.2.1 then (8 : Int) else (List.getD (p3.1) (Int.toNat (IntKind.wrap IntKind.i64 ((List.getD p0 (Int.toNat p2) (Ty.dflt Zy17_4)).1))) (Ty.dflt Zy17_1)).2.2.2.2.2.2.2.1) > (0 : Int) then if (8 : Int) < (List.getD (p3.1) (Int.toNat (IntKind.wrap IntKind.i64 ((List.getD p0 (Int.toNat p2) (Ty.dflt Zy17_4)).1))) (Ty.dflt Zy17_1)).2.2.2.2.2.2.2.1 then (8 : Int) else (List.getD (p3.1) (Int.toNat (IntKind.wrap IntKind.i64 ((List.getD p0 (Int.toNat p2) (Ty.dflt Zy17_4)).1))) (Ty.dflt Zy17_1)).2.2.2.2.2.2.2.1 else (0 : Int))) (0 : Int))).1) (p4 ++ [(Sp.v_20 p3 (IntKind.wrap IntKind.i64 ((List.getD p0 (Int.toNat p2) (Ty.dflt Zy17_4)).1)) ((List.getD p0 (Int.toNat p2) (Ty.dflt Zy17_4)).2.1) (List.replicate (Int.toNat (if (if (8 : Int) < (List.getD (p3.1) (Int.toNat (IntKind.wrap IntKind.i64 ((List.getD p0 (Int.toNat p2) (Ty.dflt Zy17_4)).1))) (Ty.dflt Zy17_1)).2.2.2.2.2.2.2.1 then (8 : Int) else (List.getD (p3.1) (Int.toNat (IntKind.wrap IntKind.i64 ((List.getD p0 (Int.toNat p2) (Ty.dflt Zy17_4)).1))) (Ty.dflt Zy17_1)).2.2.2.2.2.2.2.1) > (0 : Int) then if (8 : Int) < (List.getD (p3.1) (Int.toNat (IntKind.wrap IntKind.i64 ((List.getD p0 (Int.toNat p2) (Ty.dflt Zy17_4)).1))) (Ty.dflt Zy17_1)).2.2.2.2.2.2.2.1 then (8 : Int) else (List.getD (p3.1) (Int.toNat (IntKind.wrap IntKind.i64 ((List.getD p0 (Int.toNat p2) (Ty.dflt Zy17_4)).1))) (Ty.dflt Zy17_1)).2.2.2.2.2.2.2.1 else (0 : Int))) (0 : Int))).1]))) else K0 (T_17_0 p0 p1 (IntKind.wrap IntKind.i64 (p2 + (1 : Int))) p3 p4)))) else Sp.B_17_1 (Sp.J_17_1 p0 p1 p2 p3 p4 ((0 : Int), false, PUnit.unit) [] []) (fun (y118 : Zt17_10) (y119 y120 : Int) (y121 : Zt17_3) (y122 : Zt17_2) (y123 : Zt17_8) (y124 : Zt17_9) => bif (Sp.v_33 y121).2.1 == (0 : Int) then gd (room (List.length y122 + (1 : Nat)) (64 : Nat)) (K0 (T_17_0 y118 y119 (IntKind.wrap IntKind.i64 (y120 + (1 : Int))) ((Sp.v_33 y121).1) (y122 ++ [(Sp.v_33 y121).1]))) else K0 (T_17_0 y118 y119 (IntKind.wrap IntKind.i64 (y120 + (1 : Int))) y121 y122)) fun (y125 : Zt17_10) (y126 y127 : Int) (y128 : Zt17_3) (y129 : Zt17_2) (y130 : Zt17_8) (y131 : Zt17_9) => bif (Sp.v_19 y128).2.1 == (0 : Int) then gd (room (List.length y129 + (1 : Nat)) (64 : Nat)) (K0 (T_17_0 y125 y126 (IntKind.wrap IntKind.i64 (y127 + (1 : Int))) ((Sp.v_19 y128).1) (y129 ++ [(Sp.v_19 y128).1]))) else K0 (T_17_0 y125 y126 (IntKind.wrap IntKind.i64 (y127 + (1 : Int))) y128 y129) else Sp.B_17_1 (Sp.J_17_1 p0 p1 p2 p3 p4 ((0 : Int), false, PUnit.unit) [] []) (fun (y132 : Zt17_10) (y133 y134 : Int) (y135 : Zt17_3) (y136 : Zt17_2) (y137 : Zt17_8) (y138 : Zt17_9) => bif (Sp.v_33 y135).2.1 == (0 : Int) then gd (room (List.length y136 + (1 : Nat)) (64 : Nat)) (K0 (T_17_0 y132 y133 (IntKind.wrap IntKind.i64 (y134 + (1 : Int))) ((Sp.v_33 y135).1) (y136 ++ [(Sp.v_33 y135).1]))) else K0 (T_17_0 y132 y133 (IntKind.wrap IntKind.i64 (y134 + (1 : Int))) y135 y136)) fun (y139 : Zt17_10) (y140 y141 : Int) (y142 : Zt17_3) (y143 : Zt17_2) (y144 : Zt17_8) (y145 : Zt17_9) => bif (Sp.v_19 y142).2.1 == (0 : Int) then gd (room (List.length y143 + (1 : Nat)) (64 : Nat)) (K0 (T_17_0 y139 y140 (IntKind.wrap IntKind.i64 (y141 + (1 : Int))) ((Sp.v_19 y142).1) (y143 ++ [(Sp.v_19 y142).1]))) else K0 (T_17_0 y139 y140 (IntKind.wrap IntKind.i64 (y141 + (1 : Int))) y142 y143)) else K1 (Ex.exit (0 : Nat)) (X_17_0_0 p4) := by kernel_rfl
theorem Bgd_17_0 {R : Type} {c : Bool} {x : Option R} {y : Option Sp.E_17_0} {k0 : (Zt17_2) → Option R} (h : x = Sp.B_17_0 y k0) : gd c x = Sp.B_17_0 (gd c y) k0 := by cases c; rfl; exact h
theorem Bcond_17_0 {R : Type} {c : Bool} {x x' : Option R} {y y' : Option Sp.E_17_0} {k0 : (Zt17_2) → Option R} (h : x = Sp.B_17_0 y k0) (h' : x' = Sp.B_17_0 y' k0) : (bif c then x else x') = Sp.B_17_0 (bif c then y else y') k0 := by cases c; exact h'; exact h
theorem Bin_17_0_17_1 {R : Type} {r : Option Sp.E_17_1} {k0 : (Zt17_2) → Option R} {f0 : (Zt17_10) → (Int) → (Int) → (Zt17_3) → (Zt17_2) → (Zt17_8) → (Zt17_9) → Option R} {f1 : (Zt17_10) → (Int) → (Int) → (Zt17_3) → (Zt17_2) → (Zt17_8) → (Zt17_9) → Option R} {g0 : (Zt17_10) → (Int) → (Int) → (Zt17_3) → (Zt17_2) → (Zt17_8) → (Zt17_9) → Option Sp.E_17_0} {g1 : (Zt17_10) → (Int) → (Int) → (Zt17_3) → (Zt17_2) → (Zt17_8) → (Zt17_9) → Option Sp.E_17_0} (h0 : ∀ z0 z1 z2 z3 z4 z5 z6, f0 z0 z1 z2 z3 z4 z5 z6 = Sp.B_17_0 (g0 z0 z1 z2 z3 z4 z5 z6) k0) (h1 : ∀ z0 z1 z2 z3 z4 z5 z6, f1 z0 z1 z2 z3 z4 z5 z6 = Sp.B_17_0 (g1 z0 z1 z2 z3 z4 z5 z6) k0) : Sp.B_17_1 r f0 f1 = Sp.B_17_0 (Sp.B_17_1 r g0 g1) k0 := by
  cases r with
  | none => rfl
  | some e => cases e with
    | e0 z0 z1 z2 z3 z4 z5 z6 => exact h0 _ _ _ _ _ _ _
    | e1 z0 z1 z2 z3 z4 z5 z6 => exact h1 _ _ _ _ _ _ _
theorem loop_17_0 {R : Type} (k : Ex → St → Option R) : ∀ (m : Nat) (p0 : Zt17_10) (p1 : Int) (p2 : Int) (p3 : Zt17_3) (p4 : Zt17_2), evLoopN (evCodeL sm_17 FU (ovr noO (evFn sm_17 fns FU 0)) (ir17_bt0 O_17_17_1) ir17_b0) (St.norm ir17_v0) m (T_17_0 p0 p1 p2 p3 p4) k = Sp.B_17_0 (Sp.L_17_0 m p0 p1 p2 p3 p4) (fun p4 => k (Ex.exit (0 : Nat)) (X_17_0_0 p4))
  | 0, _, _, _, _, _ => rfl
  | m + 1, p0, p1, p2, p3, p4 => by
    rw [evLoopN_succ, body_17_0, Sp.L_17_0]
    repeat' first | apply Bgd_17_0 | apply Bcond_17_0 | (apply Bin_17_0_17_1 <;> intros) | exact loop_17_0 k m _ _ _ _ _ | rfl
theorem ok_17_0 {R : Type} (T : St) (k : Ex → St → Option R) (r : R) (h0 : o_17_0 G_17_0 T k = some r) : evLoopN (evCode sm_17 FU (evFn sm_17 fns FU 0) ir17_b0) (St.norm ir17_v0) FU T k = some r := by
  obtain ⟨p0, p1, p2, p3, p4, rfl, h⟩ := o_17_0_inv h0
  refine evLoopN_L (t := (ir17_bt0 O_17_17_1)) noO_ok (ir17_bt0ok (fun T k r => OK_17_17_1 T k r)) _ _ _ _ ?_
  rw [loop_17_0]
  exact h
theorem OK_17_17_0 {R : Type} (T : St) (k : Ex → St → Option R) (r : R) (h : O_17_17_0 T k = some r) : evLoopN (evCode sm_17 FU (evFn sm_17 fns FU 0) ir17_b0) (St.norm ir17_v0) FU T k = some r := ok_17_0 T k r h
def F_17 (a0 : ((List (Int × (Int × (Int × (Int × (Int × (Int × (Bool × (Int × Unit))))))))) × ((List (Int × (Int × (Int × (Int × (Int × ((List Int) × (Int × Unit)))))))) × (Int × (Bool × Unit))))) (a1 : (List (Int × (Bool × Unit)))) : Option ((List ((List (Int × (Int × (Int × (Int × (Int × (Int × (Bool × (Int × Unit))))))))) × ((List (Int × (Int × (Int × (Int × (Int × ((List Int) × (Int × Unit)))))))) × (Int × (Bool × Unit))))) × Unit) :=
  Sp.B_17_0 (Sp.L_17_0 (4611686018427387904 : Nat) a1 (↑(List.length a1) : Int) (0 : Int) a0 [a0]) fun (y1 : List (List (Int × Int × Int × Int × Int × Int × Bool × Int × Unit) × List (Int × Int × Int × Int × Int × List Int × Int × Unit) × Int × Bool × Unit)) => some (y1, PUnit.unit)
theorem fn_17 (a0 : ((List (Int × (Int × (Int × (Int × (Int × (Int × (Bool × (Int × Unit))))))))) × ((List (Int × (Int × (Int × (Int × (Int × ((List Int) × (Int × Unit)))))))) × (Int × (Bool × Unit))))) (a1 : (List (Int × (Bool × Unit)))) : evFnL sm_17 FU (ovr noO (evFn sm_17 fns FU 0)) (ir17_t O_17_17_0) ir17 (ofH [Zy17_6, Zy17_13] (a0, a1, ())) [] (pureK [Zy17_5]) = F_17 a0 a1 := by kernel_rfl
def Sp.p_17 (a0 : ((List (Int × (Int × (Int × (Int × (Int × (Int × (Bool × (Int × Unit))))))))) × ((List (Int × (Int × (Int × (Int × (Int × ((List Int) × (Int × Unit)))))))) × (Int × (Bool × Unit))))) (a1 : (List (Int × (Bool × Unit)))) : Bool := (F_17 a0 a1).isSome
def Sp.v_17 (a0 : ((List (Int × (Int × (Int × (Int × (Int × (Int × (Bool × (Int × Unit))))))))) × ((List (Int × (Int × (Int × (Int × (Int × ((List Int) × (Int × Unit)))))))) × (Int × (Bool × Unit))))) (a1 : (List (Int × (Bool × Unit)))) : (List ((List (Int × (Int × (Int × (Int × (Int × (Int × (Bool × (Int × Unit))))))))) × ((List (Int × (Int × (Int × (Int × (Int × ((List Int) × (Int × Unit)))))))) × (Int × (Bool × Unit))))) × Unit := (F_17 a0 a1).getD (dfH [Zy17_5])
def s_17 : Summ := shS [Zy17_6, Zy17_13] [Zy17_5] (fun x => Sp.p_17 x.1 x.2.1) (fun x => Sp.v_17 x.1 x.2.1)
theorem pv_17 (a0 : ((List (Int × (Int × (Int × (Int × (Int × (Int × (Bool × (Int × Unit))))))))) × ((List (Int × (Int × (Int × (Int × (Int × ((List Int) × (Int × Unit)))))))) × (Int × (Bool × Unit))))) (a1 : (List (Int × (Bool × Unit)))) {y : (List ((List (Int × (Int × (Int × (Int × (Int × (Int × (Bool × (Int × Unit))))))))) × ((List (Int × (Int × (Int × (Int × (Int × ((List Int) × (Int × Unit)))))))) × (Int × (Bool × Unit))))) × Unit} (h : F_17 a0 a1 = some y) : Sp.p_17 a0 a1 = true ∧ Sp.v_17 a0 a1 = y := ⟨by rw [Sp.p_17, h]; rfl, by rw [Sp.v_17, h]; rfl⟩
theorem run_17 (x : HDen [Zy17_6, Zy17_13]) (y : HDen [Zy17_5]) (h : F_17 x.1 x.2.1 = some y) : evFn sm_17 fns FU 1 17 (ofH [Zy17_6, Zy17_13] x) [] (pureK [Zy17_5]) = some y :=
  evFnL_sound (fn := ir17) (t := (ir17_t O_17_17_0)) (o := noO) rfl noO_ok (ir17_tok (fun T k r => OK_17_17_0 T k r)) ((fn_17 _ _).trans h)
end
end Go.Ev
namespace Go.Ev
open Go
set_option maxRecDepth 100000
set_option maxHeartbeats 4000000
set_option linter.unusedVariables false
noncomputable section

def sm_26 : Nat → Option Summ := fun f => none


def F_26 (a0 : Int) (a1 : Int) (a2 : Int) : Option (Bool × Unit) :=
  bif decide (a0 ≥ a1) then some (decide (a0 ≤ a2), PUnit.unit) else some (false, PUnit.unit)
theorem fn_26 (a0 : Int) (a1 : Int) (a2 : Int) : evFnL sm_26 FU (ovr noO (evFn sm_26 fns FU 0)) .nil ir26 (ofH [(.int .i64), (.int .i64), (.int .i64)] (a0, a1, a2, ())) [] (pureK [.bool]) = F_26 a0 a1 a2 := by kernel_rfl
def Sp.p_26 (a0 : Int) (a1 : Int) (a2 : Int) : Bool := (F_26 a0 a1 a2).isSome
def Sp.v_26 (a0 : Int) (a1 : Int) (a2 : Int) : Bool × Unit := (F_26 a0 a1 a2).getD (dfH [.bool])
def s_26 : Summ := shN [(.int .i64), (.int .i64), (.int .i64)] [.bool] (fun x => Sp.p_26 x.1 x.2.1 x.2.2.1) (fun x => Sp.v_26 x.1 x.2.1 x.2.2.1)
theorem pv_26 (a0 : Int) (a1 : Int) (a2 : Int) {y : Bool × Unit} (h : F_26 a0 a1 a2 = some y) : Sp.p_26 a0 a1 a2 = true ∧ Sp.v_26 a0 a1 a2 = y := ⟨by rw [Sp.p_26, h]; rfl, by rw [Sp.v_26, h]; rfl⟩
theorem run_26 (x : HDen [(.int .i64), (.int .i64), (.int .i64)]) (y : HDen [.bool]) (h : F_26 x.1 x.2.1 x.2.2.1 = some y) : evFn sm_26 fns FU 1 26 (ofH [(.int .i64), (.int .i64), (.int .i64)] x) [] (pureK [.bool]) = some y :=
  evFnL_sound (fn := ir26) (t := .nil) (o := noO) rfl noO_ok trivial ((fn_26 _ _ _).trans h)
end
end Go.Ev
namespace Go.Ev
open Go
set_option maxRecDepth 100000
set_option maxHeartbeats 4000000
set_option linter.unusedVariables false
noncomputable section

def sm_10 : Nat → Option Summ := fun f => bif Nat.beq f 26 then some s_26 else none


def F_10 (a0 : (Int × (Int × (Int × (Int × (Int × (Int × (Bool × (Int × Unit))))))))) : Option (Bool × Unit) :=
  gd (Sp.p_26 (a0.1) (1 : Int) (16777215 : Int)) (bif (Sp.v_26 (a0.1) (1 : Int) (16777215 : Int)).1 then gd (Sp.p_26 (a0.2.1) (1 : Int) (100 : Int)) (bif (Sp.v_26 (a0.2.1) (1 : Int) (100 : Int)).1 then gd (Sp.p_26 (a0.2.2.1) (1 : Int) (100 : Int)) (bif (Sp.v_26 (a0.2.2.1) (1 : Int) (100 : Int)).1 then gd (Sp.p_26 (a0.2.2.2.1) (1 : Int) (100 : Int)) (bif (Sp.v_26 (a0.2.2.2.1) (1 : Int) (100 : Int)).1 then gd (Sp.p_26 (a0.2.2.2.2.1) (a0.2.2.2.1) (255 : Int)) (bif (Sp.v_26 (a0.2.2.2.2.1) (a0.2.2.2.1) (255 : Int)).1 then gd (Sp.p_26 (a0.2.2.2.2.2.1) (0 : Int) (255 : Int)) (bif (Sp.v_26 (a0.2.2.2.2.2.1) (0 : Int) (255 : Int)).1 then gd (Sp.p_26 (a0.2.2.2.2.2.2.2.1) (0 : Int) (8 : Int)) (some ((Sp.v_26 (a0.2.2.2.2.2.2.2.1) (0 : Int) (8 : Int)).1, PUnit.unit)) else some (false, PUnit.unit)) else some (false, PUnit.unit)) else some (false, PUnit.unit)) else some (false, PUnit.unit)) else some (false, PUnit.unit)) else some (false, PUnit.unit))
theorem fn_10 (a0 : (Int × (Int × (Int × (Int × (Int × (Int × (Bool × (Int × Unit))))))))) : evFnL sm_10 FU (ovr noO (evFn sm_10 fns FU 0)) .nil ir10 (ofH [(.pair (.int .i64) (.pair (.int .i64) (.pair (.int .i64) (.pair (.int .i64) (.pair (.int .i64) (.pair (.int .i64) (.pair .bool (.pair (.int .i64) .unit))))))))] (a0, ())) [] (pureK [.bool]) = F_10 a0 := by kernel_rfl
def Sp.p_10 (a0 : (Int × (Int × (Int × (Int × (Int × (Int × (Bool × (Int × Unit))))))))) : Bool := (F_10 a0).isSome
def Sp.v_10 (a0 : (Int × (Int × (Int × (Int × (Int × (Int × (Bool × (Int × Unit))))))))) : Bool × Unit := (F_10 a0).getD (dfH [.bool])
def s_10 : Summ := shN [(.pair (.int .i64) (.pair (.int .i64) (.pair (.int .i64) (.pair (.int .i64) (.pair (.int .i64) (.pair (.int .i64) (.pair .bool (.pair (.int .i64) .unit))))))))] [.bool] (fun x => Sp.p_10 x.1) (fun x => Sp.v_10 x.1)
theorem pv_10 (a0 : (Int × (Int × (Int × (Int × (Int × (Int × (Bool × (Int × Unit))))))))) {y : Bool × Unit} (h : F_10 a0 = some y) : Sp.p_10 a0 = true ∧ Sp.v_10 a0 = y := ⟨by rw [Sp.p_10, h]; rfl, by rw [Sp.v_10, h]; rfl⟩
theorem run_10 (x : HDen [(.pair (.int .i64) (.pair (.int .i64) (.pair (.int .i64) (.pair (.int .i64) (.pair (.int .i64) (.pair (.int .i64) (.pair .bool (.pair (.int .i64) .unit))))))))]) (y : HDen [.bool]) (h : F_10 x.1 = some y) : evFn sm_10 fns FU 1 10 (ofH [(.pair (.int .i64) (.pair (.int .i64) (.pair (.int .i64) (.pair (.int .i64) (.pair (.int .i64) (.pair (.int .i64) (.pair .bool (.pair (.int .i64) .unit))))))))] x) [] (pureK [.bool]) = some y :=
  evFnL_sound (fn := ir10) (t := .nil) (o := noO) rfl noO_ok trivial ((fn_10 _).trans h)
end
end Go.Ev
namespace Go.Ev
open Go
set_option maxRecDepth 100000
set_option maxHeartbeats 4000000
set_option linter.unusedVariables false
noncomputable section
abbrev Zt12_0 : Type := List (Int × Int × Int × Int × Int × Int × Bool × Int × PUnit)
abbrev Zy12_1 : Ty := (Ty.slice (Ty.pair (Ty.int IntKind.i64) (Ty.pair (Ty.int IntKind.i64) (Ty.pair (Ty.int IntKind.i64) (Ty.pair (Ty.int IntKind.i64) (Ty.pair (Ty.int IntKind.i64) (Ty.pair (Ty.int IntKind.i64) (Ty.pair Ty.bool (Ty.pair (Ty.int IntKind.i64) Ty.unit)))))))))
abbrev Zy12_2 : Ty := (Ty.pair (Ty.int IntKind.i64) (Ty.pair (Ty.int IntKind.i64) (Ty.pair (Ty.int IntKind.i64) (Ty.pair (Ty.int IntKind.i64) (Ty.pair (Ty.int IntKind.i64) (Ty.pair (Ty.int IntKind.i64) (Ty.pair Ty.bool (Ty.pair (Ty.int IntKind.i64) Ty.unit))))))))
abbrev Zy12_3 : Ty := (.slice (.pair (.int .i64) (.pair (.int .i64) (.pair (.int .i64) (.pair (.int .i64) (.pair (.int .i64) (.pair (.int .i64) (.pair .bool (.pair (.int .i64) .unit)))))))))

def sm_12 : Nat → Option Summ := fun f => bif Nat.beq f 10 then some s_10 else none
def T_12_0 (p0 : Zt12_0) (p1 : Int) : St := St.mk ([CV.pure Zy12_1 p0, jk, jk, CV.int IntKind.i64 p1] ++ (jl 39)) [] (0 : Nat)
def X_12_0_0 : St := St.mk ([jk, jk, CV.int IntKind.i64 (1 : Int)] ++ (jl 40)) [] (0 : Nat)
def X_12_0_1 (p0 : Zt12_0) : St := St.mk ([CV.pure Zy12_1 p0] ++ (jl 42)) [] (0 : Nat)
inductive Sp.E_12_0 where
  | e0
  | e1 (p0 : Zt12_0)
def Sp.B_12_0 {R : Type} (r : Option Sp.E_12_0) (k0 : Option R) (k1 : (Zt12_0) → Option R) : Option R := match r with
  | none => none
  | some (.e0) => k0
  | some (.e1 p0) => k1 p0
def Sp.L_12_0 : Nat → (List (Int × Int × Int × Int × Int × Int × Bool × Int × PUnit)) → (Int) → Option Sp.E_12_0
  | 0, _, _ => none
  | m + 1, p0, p1 => bif decide (p1 < (↑(List.length p0) : Int)) then gd (inB p1 (List.length p0)) (gd (Sp.p_10 (List.getD p0 (Int.toNat p1) Zd0)) (bif !(Sp.v_10 (List.getD p0 (Int.toNat p1) Zd0)).1 then some (Sp.E_12_0.e0) else Sp.L_12_0 m p0 (IntKind.wrap IntKind.i64 (p1 + (1 : Int))))) else some (Sp.E_12_0.e1 p0)
def G_12_0 {R : Type} (p0 : Zt12_0) (p1 : Int) (k : Ex → St → Option R) : Option R := Sp.B_12_0 (Sp.L_12_0 FU p0 p1) (k Ex.ret (X_12_0_0)) (fun p0 => k (Ex.exit (0 : Nat)) (X_12_0_1 p0))
def o_12_0 {R : Type} (G : (Zt12_0) → (Int) → (Ex → St → Option R) → Option R) : St → (Ex → St → Option R) → Option R := fun T k => match T.sl.getD 0 .junk, T.sl.getD 3 .junk, T.hp with
  | CV.pure (Ty.slice (Ty.pair (Ty.int IntKind.i64) (Ty.pair (Ty.int IntKind.i64) (Ty.pair (Ty.int IntKind.i64) (Ty.pair (Ty.int IntKind.i64) (Ty.pair (Ty.int IntKind.i64) (Ty.pair (Ty.int IntKind.i64) (Ty.pair Ty.bool (Ty.pair (Ty.int IntKind.i64) Ty.unit))))))))) p0, CV.int IntKind.i64 p1, [] => gd (shapeOK T 43 [0, 3] (0 : Nat)) (G p0 p1 k)
  | _, _, _ => none
theorem o_12_0_inv {R : Type} {G : (Zt12_0) → (Int) → (Ex → St → Option R) → Option R} {T : St} {k : Ex → St → Option R} {r : R} (h : o_12_0 G T k = some r) : ∃ p0 p1, T = T_12_0 p0 p1 ∧ G p0 p1 k = some r := by
  unfold o_12_0 at h
  split at h
  · obtain ⟨hs, h'⟩ := gd_some h
    refine ⟨_, _, (st_of (asg := [(0, _), (3, _)]) hs ⟨by assumption, by assumption, trivial⟩ (by assumption)).trans ?_, h'⟩
    kernel_rfl
  · cases h
def T_12_2 (p0 : Zt12_0) (p1 : Int) (p2 : Int) : St := St.mk ([CV.pure Zy12_1 p0, jk, jk, jk, CV.int IntKind.i64 p1, CV.int IntKind.i64 p2] ++ (jl 37)) [] (0 : Nat)
def X_12_2_0 : St := St.mk ([jk, jk, CV.int IntKind.i64 (8 : Int)] ++ (jl 40)) [] (0 : Nat)
def X_12_2_1 (p0 : Zt12_0) (p1 : Int) : St := St.mk ([CV.pure Zy12_1 p0, jk, jk, jk, CV.int IntKind.i64 p1] ++ (jl 38)) [] (0 : Nat)
inductive Sp.E_12_2 where
  | e0
  | e1 (p0 : Zt12_0) (p1 : Int)
def Sp.B_12_2 {R : Type} (r : Option Sp.E_12_2) (k0 : Option R) (k1 : (Zt12_0) → (Int) → Option R) : Option R := match r with
  | none => none
  | some (.e0) => k0
  | some (.e1 p0 p1) => k1 p0 p1
def Sp.L_12_2 : Nat → (List (Int × Int × Int × Int × Int × Int × Bool × Int × PUnit)) → (Int) → (Int) → Option Sp.E_12_2
  | 0, _, _, _ => none
  | m + 1, p0, p1, p2 => bif decide (p2 < p1) then gd (inB p2 (List.length p0)) (gd (inB p1 (List.length p0)) (bif (List.getD p0 (Int.toNat p2) Zd0).1 == (List.getD p0 (Int.toNat p1) Zd0).1 then some (Sp.E_12_2.e0) else Sp.L_12_2 m p0 p1 (IntKind.wrap IntKind.i64 (p2 + (1 : Int))))) else some (Sp.E_12_2.e1 p0 p1)
def G_12_2 {R : Type} (p0 : Zt12_0) (p1 : Int) (p2 : Int) (k : Ex → St → Option R) : Option R := Sp.B_12_2 (Sp.L_12_2 FU p0 p1 p2) (k Ex.ret (X_12_2_0)) (fun p0 p1 => k (Ex.exit (4 : Nat)) (X_12_2_1 p0 p1))
def o_12_2 {R : Type} (G : (Zt12_0) → (Int) → (Int) → (Ex → St → Option R) → Option R) : St → (Ex → St → Option R) → Option R := fun T k => match T.sl.getD 0 .junk, T.sl.getD 4 .junk, T.sl.getD 5 .junk, T.hp with
  | CV.pure (Ty.slice (Ty.pair (Ty.int IntKind.i64) (Ty.pair (Ty.int IntKind.i64) (Ty.pair (Ty.int IntKind.i64) (Ty.pair (Ty.int IntKind.i64) (Ty.pair (Ty.int IntKind.i64) (Ty.pair (Ty.int IntKind.i64) (Ty.pair Ty.bool (Ty.pair (Ty.int IntKind.i64) Ty.unit))))))))) p0, CV.int IntKind.i64 p1, CV.int IntKind.i64 p2, [] => gd (shapeOK T 43 [0, 4, 5] (0 : Nat)) (G p0 p1 p2 k)
  | _, _, _, _ => none
theorem o_12_2_inv {R : Type} {G : (Zt12_0) → (Int) → (Int) → (Ex → St → Option R) → Option R} {T : St} {k : Ex → St → Option R} {r : R} (h : o_12_2 G T k = some r) : ∃ p0 p1 p2, T = T_12_2 p0 p1 p2 ∧ G p0 p1 p2 k = some r := by
  unfold o_12_2 at h
  split at h
  · obtain ⟨hs, h'⟩ := gd_some h
    refine ⟨_, _, _, (st_of (asg := [(0, _), (4, _), (5, _)]) hs ⟨by assumption, by assumption, by assumption, trivial⟩ (by assumption)).trans ?_, h'⟩
    kernel_rfl
  · cases h
def T_12_1 (p0 : Zt12_0) (p1 : Int) : St := St.mk ([CV.pure Zy12_1 p0, jk, jk, jk, CV.int IntKind.i64 p1] ++ (jl 38)) [] (0 : Nat)
def X_12_1_0 : St := St.mk ([jk, jk, CV.int IntKind.i64 (8 : Int)] ++ (jl 40)) [] (0 : Nat)
def X_12_1_1 : St := St.mk (jl 43) [] (0 : Nat)
inductive Sp.E_12_1 where
  | e0
  | e1
def Sp.B_12_1 {R : Type} (r : Option Sp.E_12_1) (k0 : Option R) (k1 : Option R) : Option R := match r with
  | none => none
  | some (.e0) => k0
  | some (.e1) => k1
def Sp.L_12_1 : Nat → (List (Int × Int × Int × Int × Int × Int × Bool × Int × PUnit)) → (Int) → Option Sp.E_12_1
  | 0, _, _ => none
  | m + 1, p0, p1 => bif decide (p1 < (↑(List.length p0) : Int)) then Sp.B_12_2 (Sp.L_12_2 (4611686018427387904 : Nat) p0 p1 (0 : Int)) (some (Sp.E_12_1.e0)) fun (y6 : List (Int × Int × Int × Int × Int × Int × Bool × Int × PUnit)) (y7 : Int) => Sp.L_12_1 m y6 (IntKind.wrap IntKind.i64 (y7 + (1 : Int))) else some (Sp.E_12_1.e1)
def G_12_1 {R : Type} (p0 : Zt12_0) (p1 : Int) (k : Ex → St → Option R) : Option R := Sp.B_12_1 (Sp.L_12_1 FU p0 p1) (k Ex.ret (X_12_1_0)) (k (Ex.exit (2 : Nat)) (X_12_1_1))
def o_12_1 {R : Type} (G : (Zt12_0) → (Int) → (Ex → St → Option R) → Option R) : St → (Ex → St → Option R) → Option R := fun T k => match T.sl.getD 0 .junk, T.sl.getD 4 .junk, T.hp with
  | CV.pure (Ty.slice (Ty.pair (Ty.int IntKind.i64) (Ty.pair (Ty.int IntKind.i64) (Ty.pair (Ty.int IntKind.i64) (Ty.pair (Ty.int IntKind.i64) (Ty.pair (Ty.int IntKind.i64) (Ty.pair (Ty.int IntKind.i64) (Ty.pair Ty.bool (Ty.pair (Ty.int IntKind.i64) Ty.unit))))))))) p0, CV.int IntKind.i64 p1, [] => gd (shapeOK T 43 [0, 4] (0 : Nat)) (G p0 p1 k)
  | _, _, _ => none
theorem o_12_1_inv {R : Type} {G : (Zt12_0) → (Int) → (Ex → St → Option R) → Option R} {T : St} {k : Ex → St → Option R} {r : R} (h : o_12_1 G T k = some r) : ∃ p0 p1, T = T_12_1 p0 p1 ∧ G p0 p1 k = some r := by
  unfold o_12_1 at h
  split at h
  · obtain ⟨hs, h'⟩ := gd_some h
    refine ⟨_, _, (st_of (asg := [(0, _), (4, _)]) hs ⟨by assumption, by assumption, trivial⟩ (by assumption)).trans ?_, h'⟩
    kernel_rfl
  · cases h
def O_12_12_0 {R : Type} : St → (Ex → St → Option R) → Option R := fun T k => o_12_0 G_12_0 T k
def O_12_12_2 {R : Type} : St → (Ex → St → Option R) → Option R := fun T k => o_12_2 G_12_2 T k
def O_12_12_1 {R : Type} : St → (Ex → St → Option R) → Option R := fun T k => o_12_1 G_12_1 T k
theorem body_12_0 {R : Type} (K0 : St → Option R) (K1 : Ex → St → Option R) (p0 : Zt12_0) (p1 : Int) : evLB (evCodeL sm_12 FU (ovr noO (evFn sm_12 fns FU 0)) .nil ir12_b0) (St.norm ir12_v0) (T_12_0 p0 p1) K0 K1 =
  bif decide (p1 < (↑(List.length p0) : Int)) then gd (inB p1 (List.length p0)) (gd (Sp.p_10 (List.getD p0 (Int.toNat p1) (Ty.dflt Zy12_2))) (bif !(Sp.v_10 (List.getD p0 (Int.toNat p1) (Ty.dflt Zy12_2))).1 then K1 Ex.ret X_12_0_0 else K0 (T_12_0 p0 (IntKind.wrap IntKind.i64 (p1 + (1 : Int)))))) else K1 (Ex.exit (0 : Nat)) (X_12_0_1 p0) := by kernel_rfl
theorem Bgd_12_0 {R : Type} {c : Bool} {x : Option R} {y : Option Sp.E_12_0} {k0 : Option R} {k1 : (Zt12_0) → Option R} (h : x = Sp.B_12_0 y k0 k1) : gd c x = Sp.B_12_0 (gd c y) k0 k1 := by cases c; rfl; exact h
theorem Bcond_12_0 {R : Type} {c : Bool} {x x' : Option R} {y y' : Option Sp.E_12_0} {k0 : Option R} {k1 : (Zt12_0) → Option R} (h : x = Sp.B_12_0 y k0 k1) (h' : x' = Sp.B_12_0 y' k0 k1) : (bif c then x else x') = Sp.B_12_0 (bif c then y else y') k0 k1 := by cases c; exact h'; exact h
theorem loop_12_0 {R : Type} (k : Ex → St → Option R) : ∀ (m : Nat) (p0 : Zt12_0) (p1 : Int), evLoopN (evCodeL sm_12 FU (ovr noO (evFn sm_12 fns FU 0)) .nil ir12_b0) (St.norm ir12_v0) m (T_12_0 p0 p1) k = Sp.B_12_0 (Sp.L_12_0 m p0 p1) (k Ex.ret (X_12_0_0)) (fun p0 => k (Ex.exit (0 : Nat)) (X_12_0_1 p0))
  | 0, _, _ => rfl
  | m + 1, p0, p1 => by
    rw [evLoopN_succ, body_12_0, Sp.L_12_0]
    repeat' first | apply Bgd_12_0 | apply Bcond_12_0 | exact loop_12_0 k m _ _ | rfl
theorem ok_12_0 {R : Type} (T : St) (k : Ex → St → Option R) (r : R) (h0 : o_12_0 G_12_0 T k = some r) : evLoopN (evCode sm_12 FU (evFn sm_12 fns FU 0) ir12_b0) (St.norm ir12_v0) FU T k = some r := by
  obtain ⟨p0, p1, rfl, h⟩ := o_12_0_inv h0
  refine evLoopN_L (t := .nil) noO_ok trivial _ _ _ _ ?_
  rw [loop_12_0]
  exact h
theorem OK_12_12_0 {R : Type} (T : St) (k : Ex → St → Option R) (r : R) (h : O_12_12_0 T k = some r) : evLoopN (evCode sm_12 FU (evFn sm_12 fns FU 0) ir12_b0) (St.norm ir12_v0) FU T k = some r := ok_12_0 T k r h
theorem body_12_2 {R : Type} (K0 : St → Option R) (K1 : Ex → St → Option R) (p0 : Zt12_0) (p1 : Int) (p2 : Int) : evLB (evCodeL sm_12 FU (ovr noO (evFn sm_12 fns FU 0)) .nil ir12_b2) (St.norm ir12_v2) (T_12_2 p0 p1 p2) K0 K1 =
  bif decide (p2 < p1) then gd (inB p2 (List.length p0)) (gd (inB p1 (List.length p0)) (bif (List.getD p0 (Int.toNat p2) (Ty.dflt Zy12_2)).1 == (List.getD p0 (Int.toNat p1) (Ty.dflt Zy12_2)).1 then K1 Ex.ret X_12_2_0 else K0 (T_12_2 p0 p1 (IntKind.wrap IntKind.i64 (p2 + (1 : Int)))))) else K1 (Ex.exit (4 : Nat)) (X_12_2_1 p0 p1) := by kernel_rfl
theorem Bgd_12_2 {R : Type} {c : Bool} {x : Option R} {y : Option Sp.E_12_2} {k0 : Option R} {k1 : (Zt12_0) → (Int) → Option R} (h : x = Sp.B_12_2 y k0 k1) : gd c x = Sp.B_12_2 (gd c y) k0 k1 := by cases c; rfl; exact h
theorem Bcond_12_2 {R : Type} {c : Bool} {x x' : Option R} {y y' : Option Sp.E_12_2} {k0 : Option R} {k1 : (Zt12_0) → (Int) → Option R} (h : x = Sp.B_12_2 y k0 k1) (h' : x' = Sp.B_12_2 y' k0 k1) : (bif c then x else x') = Sp.B_12_2 (bif c then y else y') k0 k1 := by cases c; exact h'; exact h
theorem loop_12_2 {R : Type} (k : Ex → St → Option R) : ∀ (m : Nat) (p0 : Zt12_0) (p1 : Int) (p2 : Int), evLoopN (evCodeL sm_12 FU (ovr noO (evFn sm_12 fns FU 0)) .nil ir12_b2) (St.norm ir12_v2) m (T_12_2 p0 p1 p2) k = Sp.B_12_2 (Sp.L_12_2 m p0 p1 p2) (k Ex.ret (X_12_2_0)) (fun p0 p1 => k (Ex.exit (4 : Nat)) (X_12_2_1 p0 p1))
  | 0, _, _, _ => rfl
  | m + 1, p0, p1, p2 => by
    rw [evLoopN_succ, body_12_2, Sp.L_12_2]
    repeat' first | apply Bgd_12_2 | apply Bcond_12_2 | exact loop_12_2 k m _ _ _ | rfl
theorem ok_12_2 {R : Type} (T : St) (k : Ex → St → Option R) (r : R) (h0 : o_12_2 G_12_2 T k = some r) : evLoopN (evCode sm_12 FU (evFn sm_12 fns FU 0) ir12_b2) (St.norm ir12_v2) FU T k = some r := by
  obtain ⟨p0, p1, p2, rfl, h⟩ := o_12_2_inv h0
  refine evLoopN_L (t := .nil) noO_ok trivial _ _ _ _ ?_
  rw [loop_12_2]
  exact h
theorem OK_12_12_2 {R : Type} (T : St) (k : Ex → St → Option R) (r : R) (h : O_12_12_2 T k = some r) : evLoopN (evCode sm_12 FU (evFn sm_12 fns FU 0) ir12_b2) (St.norm ir12_v2) FU T k = some r := ok_12_2 T k r h
theorem body_12_1 {R : Type} (K0 : St → Option R) (K1 : Ex → St → Option R) (p0 : Zt12_0) (p1 : Int) : evLB (evCodeL sm_12 FU (ovr noO (evFn sm_12 fns FU 0)) (ir12_bt1 O_12_12_2) ir12_b1) (St.norm ir12_v1) (T_12_1 p0 p1) K0 K1 =
  bif decide (p1 < (↑(List.length p0) : Int)) then Sp.B_12_2 (Sp.L_12_2 (4611686018427387904 : Nat) p0 p1 (0 : Int)) (K1 Ex.ret X_12_1_0) fun (y6 : Zt12_0) (y7 : Int) => K0 (T_12_1 y6 (IntKind.wrap IntKind.i64 (y7 + (1 : Int)))) else K1 (Ex.exit (2 : Nat)) X_12_1_1 := by kernel_rfl
theorem Bgd_12_1 {R : Type} {c : Bool} {x : Option R} {y : Option Sp.E_12_1} {k0 : Option R} {k1 : Option R} (h : x = Sp.B_12_1 y k0 k1) : gd c x = Sp.B_12_1 (gd c y) k0 k1 := by cases c; rfl; exact h
theorem Bcond_12_1 {R : Type} {c : Bool} {x x' : Option R} {y y' : Option Sp.E_12_1} {k0 : Option R} {k1 : Option R} (h : x = Sp.B_12_1 y k0 k1) (h' : x' = Sp.B_12_1 y' k0 k1) : (bif c then x else x') = Sp.B_12_1 (bif c then y else y') k0 k1 := by cases c; exact h'; exact h
theorem Bin_12_1_12_2 {R : Type} {r : Option Sp.E_12_2} {k0 : Option R} {k1 : Option R} {f0 : Option R} {f1 : (Zt12_0) → (Int) → Option R} {g0 : Option Sp.E_12_1} {g1 : (Zt12_0) → (Int) → Option Sp.E_12_1} (h0 : f0 = Sp.B_12_1 g0 k0 k1) (h1 : ∀ z0 z1, f1 z0 z1 = Sp.B_12_1 (g1 z0 z1) k0 k1) : Sp.B_12_2 r f0 f1 = Sp.B_12_1 (Sp.B_12_2 r g0 g1) k0 k1 := by
  cases r with
  | none => rfl
  | some e => cases e with
    | e0 => exact h0
    | e1 z0 z1 => exact h1 _ _
theorem loop_12_1 {R : Type} (k : Ex → St → Option R) : ∀ (m : Nat) (p0 : Zt12_0) (p1 : Int), evLoopN (evCodeL sm_12 FU (ovr noO (evFn sm_12 fns FU 0)) (ir12_bt1 O_12_12_2) ir12_b1) (St.norm ir12_v1) m (T_12_1 p0 p1) k = Sp.B_12_1 (Sp.L_12_1 m p0 p1) (k Ex.ret (X_12_1_0)) (k (Ex.exit (2 : Nat)) (X_12_1_1))
  | 0, _, _ => rfl
  | m + 1, p0, p1 => by
    rw [evLoopN_succ, body_12_1, Sp.L_12_1]
    repeat' first | apply Bgd_12_1 | apply Bcond_12_1 | (apply Bin_12_1_12_2 <;> intros) | exact loop_12_1 k m _ _ | rfl
theorem ok_12_1 {R : Type} (T : St) (k : Ex → St → Option R) (r : R) (h0 : o_12_1 G_12_1 T k = some r) : evLoopN (evCode sm_12 FU (evFn sm_12 fns FU 0) ir12_b1) (St.norm ir12_v1) FU T k = some r := by
  obtain ⟨p0, p1, rfl, h⟩ := o_12_1_inv h0
  refine evLoopN_L (t := (ir12_bt1 O_12_12_2)) noO_ok (ir12_bt1ok (fun T k r => OK_12_12_2 T k r)) _ _ _ _ ?_
  rw [loop_12_1]
  exact h
theorem OK_12_12_1 {R : Type} (T : St) (k : Ex → St → Option R) (r : R) (h : O_12_12_1 T k = some r) : evLoopN (evCode sm_12 FU (evFn sm_12 fns FU 0) ir12_b1) (St.norm ir12_v1) FU T k = some r := ok_12_1 T k r h
def F_12 (a0 : (List (Int × (Int × (Int × (Int × (Int × (Int × (Bool × (Int × Unit)))))))))) : Option (Int × Unit) :=
  bif decide ((↑(List.length a0) : Int) > (64 : Int)) then some ((5 : Int), PUnit.unit) else Sp.B_12_0 (Sp.L_12_0 (4611686018427387904 : Nat) a0 (0 : Int)) (some ((1 : Int), PUnit.unit)) fun (y5 : List (Int × Int × Int × Int × Int × Int × Bool × Int × PUnit)) => Sp.B_12_1 (Sp.L_12_1 (4611686018427387904 : Nat) y5 (0 : Int)) (some ((8 : Int), PUnit.unit)) (some ((0 : Int), PUnit.unit))
theorem fn_12 (a0 : (List (Int × (Int × (Int × (Int × (Int × (Int × (Bool × (Int × Unit)))))))))) : evFnL sm_12 FU (ovr noO (evFn sm_12 fns FU 0)) (ir12_t O_12_12_0 O_12_12_1) ir12 (ofH [Zy12_3] (a0, ())) [] (pureK [(.int .i64)]) = F_12 a0 := by kernel_rfl
def Sp.p_12 (a0 : (List (Int × (Int × (Int × (Int × (Int × (Int × (Bool × (Int × Unit)))))))))) : Bool := (F_12 a0).isSome
def Sp.v_12 (a0 : (List (Int × (Int × (Int × (Int × (Int × (Int × (Bool × (Int × Unit)))))))))) : Int × Unit := (F_12 a0).getD (dfH [(.int .i64)])
def s_12 : Summ := shN [Zy12_3] [(.int .i64)] (fun x => Sp.p_12 x.1) (fun x => Sp.v_12 x.1)
theorem pv_12 (a0 : (List (Int × (Int × (Int × (Int × (Int × (Int × (Bool × (Int × Unit)))))))))) {y : Int × Unit} (h : F_12 a0 = some y) : Sp.p_12 a0 = true ∧ Sp.v_12 a0 = y := ⟨by rw [Sp.p_12, h]; rfl, by rw [Sp.v_12, h]; rfl⟩
theorem run_12 (x : HDen [Zy12_3]) (y : HDen [(.int .i64)]) (h : F_12 x.1 = some y) : evFn sm_12 fns FU 1 12 (ofH [Zy12_3] x) [] (pureK [(.int .i64)]) = some y :=
  evFnL_sound (fn := ir12) (t := (ir12_t O_12_12_0 O_12_12_1)) (o := noO) rfl noO_ok (ir12_tok (fun T k r => OK_12_12_0 T k r) (fun T k r => OK_12_12_1 T k r)) ((fn_12 _).trans h)
end
end Go.Ev
namespace Go.Ev
open Go
set_option maxRecDepth 100000
set_option maxHeartbeats 4000000
set_option linter.unusedVariables false
noncomputable section

def sm_44 : Nat → Option Summ := fun f => bif Nat.beq f 26 then some s_26 else none
def T_44_0 (p0 : List Int) (p1 : Int) : St := St.mk ([CV.pure (Ty.slice (Ty.int IntKind.i64)) p0, jk, jk, CV.int IntKind.i64 p1] ++ (jl 12)) [] (0 : Nat)
def X_44_0_0 : St := St.mk ([jk, jk, CV.bool false] ++ (jl 13)) [] (0 : Nat)
def X_44_0_1 : St := St.mk (jl 16) [] (0 : Nat)
inductive Sp.E_44_0 where
  | e0
  | e1
def Sp.B_44_0 {R : Type} (r : Option Sp.E_44_0) (k0 : Option R) (k1 : Option R) : Option R := match r with
  | none => none
  | some (.e0) => k0
  | some (.e1) => k1
def Sp.L_44_0 : Nat → (List Int) → (Int) → Option Sp.E_44_0
  | 0, _, _ => none
  | m + 1, p0, p1 => bif decide (p1 < (↑(List.length p0) : Int)) then gd (inB p1 (List.length p0)) (gd (Sp.p_26 (List.getD p0 (Int.toNat p1) (0 : Int)) (-1099511627776 : Int) (1099511627776 : Int)) (bif !(Sp.v_26 (List.getD p0 (Int.toNat p1) (0 : Int)) (-1099511627776 : Int) (1099511627776 : Int)).1 then some (Sp.E_44_0.e0) else Sp.L_44_0 m p0 (IntKind.wrap IntKind.i64 (p1 + (1 : Int))))) else some (Sp.E_44_0.e1)
def G_44_0 {R : Type} (p0 : List Int) (p1 : Int) (k : Ex → St → Option R) : Option R := Sp.B_44_0 (Sp.L_44_0 FU p0 p1) (k Ex.ret (X_44_0_0)) (k (Ex.exit (0 : Nat)) (X_44_0_1))
def o_44_0 {R : Type} (G : (List Int) → (Int) → (Ex → St → Option R) → Option R) : St → (Ex → St → Option R) → Option R := fun T k => match T.sl.getD 0 .junk, T.sl.getD 3 .junk, T.hp with
  | CV.pure (Ty.slice (Ty.int IntKind.i64)) p0, CV.int IntKind.i64 p1, [] => gd (shapeOK T 16 [0, 3] (0 : Nat)) (G p0 p1 k)
  | _, _, _ => none
theorem o_44_0_inv {R : Type} {G : (List Int) → (Int) → (Ex → St → Option R) → Option R} {T : St} {k : Ex → St → Option R} {r : R} (h : o_44_0 G T k = some r) : ∃ p0 p1, T = T_44_0 p0 p1 ∧ G p0 p1 k = some r := by
  unfold o_44_0 at h
  split at h
  · obtain ⟨hs, h'⟩ := gd_some h
    refine ⟨_, _, (st_of (asg := [(0, _), (3, _)]) hs ⟨by assumption, by assumption, trivial⟩ (by assumption)).trans ?_, h'⟩
    kernel_rfl
  · cases h
def O_44_44_0 {R : Type} : St → (Ex → St → Option R) → Option R := fun T k => o_44_0 G_44_0 T k
theorem body_44_0 {R : Type} (K0 : St → Option R) (K1 : Ex → St → Option R) (p0 : List Int) (p1 : Int) : evLB (evCodeL sm_44 FU (ovr noO (evFn sm_44 fns FU 0)) .nil ir44_b0) (St.norm ir44_v0) (T_44_0 p0 p1) K0 K1 =
  bif decide (p1 < (↑(List.length p0) : Int)) then gd (inB p1 (List.length p0)) (gd (Sp.p_26 (List.getD p0 (Int.toNat p1) (0 : Int)) (-1099511627776 : Int) (1099511627776 : Int)) (bif !(Sp.v_26 (List.getD p0 (Int.toNat p1) (0 : Int)) (-1099511627776 : Int) (1099511627776 : Int)).1 then K1 Ex.ret X_44_0_0 else K0 (T_44_0 p0 (IntKind.wrap IntKind.i64 (p1 + (1 : Int)))))) else K1 (Ex.exit (0 : Nat)) X_44_0_1 := by kernel_rfl
theorem Bgd_44_0 {R : Type} {c : Bool} {x : Option R} {y : Option Sp.E_44_0} {k0 : Option R} {k1 : Option R} (h : x = Sp.B_44_0 y k0 k1) : gd c x = Sp.B_44_0 (gd c y) k0 k1 := by cases c; rfl; exact h
theorem Bcond_44_0 {R : Type} {c : Bool} {x x' : Option R} {y y' : Option Sp.E_44_0} {k0 : Option R} {k1 : Option R} (h : x = Sp.B_44_0 y k0 k1) (h' : x' = Sp.B_44_0 y' k0 k1) : (bif c then x else x') = Sp.B_44_0 (bif c then y else y') k0 k1 := by cases c; exact h'; exact h
theorem loop_44_0 {R : Type} (k : Ex → St → Option R) : ∀ (m : Nat) (p0 : List Int) (p1 : Int), evLoopN (evCodeL sm_44 FU (ovr noO (evFn sm_44 fns FU 0)) .nil ir44_b0) (St.norm ir44_v0) m (T_44_0 p0 p1) k = Sp.B_44_0 (Sp.L_44_0 m p0 p1) (k Ex.ret (X_44_0_0)) (k (Ex.exit (0 : Nat)) (X_44_0_1))
  | 0, _, _ => rfl
  | m + 1, p0, p1 => by
    rw [evLoopN_succ, body_44_0, Sp.L_44_0]
    repeat' first | apply Bgd_44_0 | apply Bcond_44_0 | exact loop_44_0 k m _ _ | rfl
theorem ok_44_0 {R : Type} (T : St) (k : Ex → St → Option R) (r : R) (h0 : o_44_0 G_44_0 T k = some r) : evLoopN (evCode sm_44 FU (evFn sm_44 fns FU 0) ir44_b0) (St.norm ir44_v0) FU T k = some r := by
  obtain ⟨p0, p1, rfl, h⟩ := o_44_0_inv h0
  refine evLoopN_L (t := .nil) noO_ok trivial _ _ _ _ ?_
  rw [loop_44_0]
  exact h
theorem OK_44_44_0 {R : Type} (T : St) (k : Ex → St → Option R) (r : R) (h : O_44_44_0 T k = some r) : evLoopN (evCode sm_44 FU (evFn sm_44 fns FU 0) ir44_b0) (St.norm ir44_v0) FU T k = some r := ok_44_0 T k r h
def F_44 (a0 : (List Int)) : Option (Bool × Unit) :=
  Sp.B_44_0 (Sp.L_44_0 (4611686018427387904 : Nat) a0 (0 : Int)) (some (false, PUnit.unit)) (some (true, PUnit.unit))
theorem fn_44 (a0 : (List Int)) : evFnL sm_44 FU (ovr noO (evFn sm_44 fns FU 0)) (ir44_t O_44_44_0) ir44 (ofH [(.slice (.int .i64))] (a0, ())) [] (pureK [.bool]) = F_44 a0 := by kernel_rfl
def Sp.p_44 (a0 : (List Int)) : Bool := (F_44 a0).isSome
def Sp.v_44 (a0 : (List Int)) : Bool × Unit := (F_44 a0).getD (dfH [.bool])
def s_44 : Summ := shN [(.slice (.int .i64))] [.bool] (fun x => Sp.p_44 x.1) (fun x => Sp.v_44 x.1)
theorem pv_44 (a0 : (List Int)) {y : Bool × Unit} (h : F_44 a0 = some y) : Sp.p_44 a0 = true ∧ Sp.v_44 a0 = y := ⟨by rw [Sp.p_44, h]; rfl, by rw [Sp.v_44, h]; rfl⟩
theorem run_44 (x : HDen [(.slice (.int .i64))]) (y : HDen [.bool]) (h : F_44 x.1 = some y) : evFn sm_44 fns FU 1 44 (ofH [(.slice (.int .i64))] x) [] (pureK [.bool]) = some y :=
  evFnL_sound (fn := ir44) (t := (ir44_t O_44_44_0)) (o := noO) rfl noO_ok (ir44_tok (fun T k r => OK_44_44_0 T k r)) ((fn_44 _).trans h)
end
end Go.Ev
namespace Go.Ev
open Go
set_option maxRecDepth 100000
set_option maxHeartbeats 4000000
set_option linter.unusedVariables false
noncomputable section

def sm_45 : Nat → Option Summ := fun f => none


def F_45 (a0 : (Int × (Int × (Int × (Int × (Int × ((List Int) × (Int × Unit)))))))) (a1 : Int) : Option (Bool × Unit) :=
  some (Sp.andI IntKind.i64 (a0.1) a1 != (0 : Int), PUnit.unit)
theorem fn_45 (a0 : (Int × (Int × (Int × (Int × (Int × ((List Int) × (Int × Unit)))))))) (a1 : Int) : evFnL sm_45 FU (ovr noO (evFn sm_45 fns FU 0)) .nil ir45 (ofH [(.pair (.int .i64) (.pair (.int .i64) (.pair (.int .i64) (.pair (.int .i64) (.pair (.int .i64) (.pair (.slice (.int .i64)) (.pair (.int .i64) .unit))))))), (.int .i64)] (a0, a1, ())) [] (pureK [.bool]) = F_45 a0 a1 := by kernel_rfl
def Sp.p_45 (a0 : (Int × (Int × (Int × (Int × (Int × ((List Int) × (Int × Unit)))))))) (a1 : Int) : Bool := (F_45 a0 a1).isSome
def Sp.v_45 (a0 : (Int × (Int × (Int × (Int × (Int × ((List Int) × (Int × Unit)))))))) (a1 : Int) : Bool × Unit := (F_45 a0 a1).getD (dfH [.bool])
def s_45 : Summ := shN [(.pair (.int .i64) (.pair (.int .i64) (.pair (.int .i64) (.pair (.int .i64) (.pair (.int .i64) (.pair (.slice (.int .i64)) (.pair (.int .i64) .unit))))))), (.int .i64)] [.bool] (fun x => Sp.p_45 x.1 x.2.1) (fun x => Sp.v_45 x.1 x.2.1)
theorem pv_45 (a0 : (Int × (Int × (Int × (Int × (Int × ((List Int) × (Int × Unit)))))))) (a1 : Int) {y : Bool × Unit} (h : F_45 a0 a1 = some y) : Sp.p_45 a0 a1 = true ∧ Sp.v_45 a0 a1 = y := ⟨by rw [Sp.p_45, h]; rfl, by rw [Sp.v_45, h]; rfl⟩
theorem run_45 (x : HDen [(.pair (.int .i64) (.pair (.int .i64) (.pair (.int .i64) (.pair (.int .i64) (.pair (.int .i64) (.pair (.slice (.int .i64)) (.pair (.int .i64) .unit))))))), (.int .i64)]) (y : HDen [.bool]) (h : F_45 x.1 x.2.1 = some y) : evFn sm_45 fns FU 1 45 (ofH [(.pair (.int .i64) (.pair (.int .i64) (.pair (.int .i64) (.pair (.int .i64) (.pair (.int .i64) (.pair (.slice (.int .i64)) (.pair (.int .i64) .unit))))))), (.int .i64)] x) [] (pureK [.bool]) = some y :=
  evFnL_sound (fn := ir45) (t := .nil) (o := noO) rfl noO_ok trivial ((fn_45 _ _).trans h)
end
end Go.Ev
namespace Go.Ev
open Go
set_option maxRecDepth 100000
set_option maxHeartbeats 4000000
set_option linter.unusedVariables false
noncomputable section
abbrev Zt34_0 : Type := Int × Int × Int × Int × Int × List Int × Int × PUnit
abbrev Zt34_1 : Type := Int × Int × Int × Int × Int × Int × Bool × Int × PUnit
abbrev Zy34_2 : Ty := (Ty.pair (Ty.int IntKind.i64) (Ty.pair (Ty.int IntKind.i64) (Ty.pair (Ty.int IntKind.i64) (Ty.pair (Ty.int IntKind.i64) (Ty.pair (Ty.int IntKind.i64) (Ty.pair (Ty.int IntKind.i64) (Ty.pair Ty.bool (Ty.pair (Ty.int IntKind.i64) Ty.unit))))))))
abbrev Zy34_3 : Ty := (Ty.pair (Ty.int IntKind.i64) (Ty.pair (Ty.int IntKind.i64) (Ty.pair (Ty.int IntKind.i64) (Ty.pair (Ty.int IntKind.i64) (Ty.pair (Ty.int IntKind.i64) (Ty.pair (Ty.slice (Ty.int IntKind.i64)) (Ty.pair (Ty.int IntKind.i64) Ty.unit)))))))
abbrev Zy34_4 : Ty := (.pair (.int .i64) (.pair (.int .i64) (.pair (.int .i64) (.pair (.int .i64) (.pair (.int .i64) (.pair (.int .i64) (.pair .bool (.pair (.int .i64) .unit))))))))
abbrev Zy34_5 : Ty := (.pair (.int .i64) (.pair (.int .i64) (.pair (.int .i64) (.pair (.int .i64) (.pair (.int .i64) (.pair (.slice (.int .i64)) (.pair (.int .i64) .unit)))))))

def sm_34 : Nat → Option Summ := fun f => bif Nat.beq f 26 then some s_26 else bif Nat.beq f 44 then some s_44 else bif Nat.beq f 45 then some s_45 else none
def T_34_3 (p0 : Bool) (p1 : Zt34_1) (p2 : Zt34_0) : St := St.mk ([jk, jk, jk, CV.ptr (0 : Nat) [], CV.ptr (1 : Nat) [], jk, jk, CV.bool p0] ++ (jl 158)) [Blk.mem (CV.pure Zy34_2 p1), Blk.mem (CV.pure Zy34_3 p2)] (0 : Nat)
def X_34_3_0 (p1 : Zt34_1) (p2 : Zt34_0) : St := St.mk (jl 6 ++ ([CV.bool ((↑(List.length (p2.2.2.2.2.2.1)) : Int) == p1.2.2.2.2.2.2.2.1)] ++ (jl 159))) [] (0 : Nat)
def X_34_3_1 : St := St.mk (jl 6 ++ ([CV.bool false] ++ (jl 159))) [] (0 : Nat)
def X_34_3_2 (p2 : Zt34_0) : St := St.mk (jl 6 ++ ([CV.bool ((↑(List.length (p2.2.2.2.2.2.1)) : Int) == (0 : Int))] ++ (jl 159))) [] (0 : Nat)
inductive Sp.E_34_3 where
  | e0 (p1 : Zt34_1) (p2 : Zt34_0)
  | e1
  | e2 (p2 : Zt34_0)
def Sp.B_34_3 {R : Type} (r : Option Sp.E_34_3) (k0 : (Zt34_1) → (Zt34_0) → Option R) (k1 : Option R) (k2 : (Zt34_0) → Option R) : Option R := match r with
  | none => none
  | some (.e0 p1 p2) => k0 p1 p2
  | some (.e1) => k1
  | some (.e2 p2) => k2 p2
def Sp.J_34_3 (p0 : Bool) (p1 : Int × Int × Int × Int × Int × Int × Bool × Int × PUnit) (p2 : Int × Int × Int × Int × Int × List Int × Int × PUnit) : Option Sp.E_34_3 :=
  bif p0 then bif decide (p2.2.2.2.2.1 ≥ (1 : Int)) then bif decide (p2.2.2.1 ≥ (1 : Int)) then bif decide (p2.2.2.2.2.2.2.1 ≥ (1 : Int)) then some (Sp.E_34_3.e0 p1 p2) else some (Sp.E_34_3.e1) else some (Sp.E_34_3.e1) else some (Sp.E_34_3.e1) else bif p2.2.2.1 == (0 : Int) then bif p2.2.2.2.1 == (0 : Int) then bif p2.2.2.2.2.1 == (0 : Int) then bif p2.2.2.2.2.2.2.1 == (0 : Int) then some (Sp.E_34_3.e2 p2) else some (Sp.E_34_3.e1) else some (Sp.E_34_3.e1) else some (Sp.E_34_3.e1) else some (Sp.E_34_3.e1)
def G_34_3 {R : Type} (p0 : Bool) (p1 : Zt34_1) (p2 : Zt34_0) (k : Ex → St → Option R) : Option R := Sp.B_34_3 (Sp.J_34_3 p0 p1 p2) (fun p1 p2 => k Ex.ret (X_34_3_0 p1 p2)) (k Ex.ret (X_34_3_1)) (fun p2 => k Ex.ret (X_34_3_2 p2))
def o_34_3 {R : Type} (G : (Bool) → (Zt34_1) → (Zt34_0) → (Ex → St → Option R) → Option R) : St → (Ex → St → Option R) → Option R := fun T k => match T.sl.getD 3 .junk, T.sl.getD 4 .junk, T.sl.getD 7 .junk, T.hp with
  | CV.ptr (0 : Nat) [], CV.ptr (1 : Nat) [], CV.bool p0, ((Blk.mem (CV.pure (Ty.pair (Ty.int IntKind.i64) (Ty.pair (Ty.int IntKind.i64) (Ty.pair (Ty.int IntKind.i64) (Ty.pair (Ty.int IntKind.i64) (Ty.pair (Ty.int IntKind.i64) (Ty.pair (Ty.int IntKind.i64) (Ty.pair Ty.bool (Ty.pair (Ty.int IntKind.i64) Ty.unit)))))))) p1)) :: (Blk.mem (CV.pure (Ty.pair (Ty.int IntKind.i64) (Ty.pair (Ty.int IntKind.i64) (Ty.pair (Ty.int IntKind.i64) (Ty.pair (Ty.int IntKind.i64) (Ty.pair (Ty.int IntKind.i64) (Ty.pair (Ty.slice (Ty.int IntKind.i64)) (Ty.pair (Ty.int IntKind.i64) Ty.unit))))))) p2)) :: []) => gd (shapeOK T 166 [3, 4, 7] (0 : Nat)) (G p0 p1 p2 k)
  | _, _, _, _ => none
theorem o_34_3_inv {R : Type} {G : (Bool) → (Zt34_1) → (Zt34_0) → (Ex → St → Option R) → Option R} {T : St} {k : Ex → St → Option R} {r : R} (h : o_34_3 G T k = some r) : ∃ p0 p1 p2, T = T_34_3 p0 p1 p2 ∧ G p0 p1 p2 k = some r := by
  unfold o_34_3 at h
  split at h
  · obtain ⟨hs, h'⟩ := gd_some h
    refine ⟨_, _, _, (st_of (asg := [(3, _), (4, _), (7, _)]) hs ⟨by assumption, by assumption, by assumption, trivial⟩ (by assumption)).trans ?_, h'⟩
    kernel_rfl
  · cases h
def T_34_2 (p0 : Bool) (p1 : Zt34_1) (p2 : Zt34_0) : St := St.mk ([jk, jk, jk, CV.ptr (0 : Nat) [], CV.ptr (1 : Nat) [], jk, jk, CV.bool p0] ++ (jl 158)) [Blk.mem (CV.pure Zy34_2 p1), Blk.mem (CV.pure Zy34_3 p2)] (0 : Nat)
def X_34_2_0 : St := St.mk (jl 6 ++ ([CV.bool false] ++ (jl 159))) [] (0 : Nat)
def X_34_2_1 (y6 : Zt34_1) (y7 : Zt34_0) : St := St.mk (jl 6 ++ ([CV.bool ((↑(List.length (y7.2.2.2.2.2.1)) : Int) == y6.2.2.2.2.2.2.2.1)] ++ (jl 159))) [] (0 : Nat)
def X_34_2_2 (y8 : Zt34_0) : St := St.mk (jl 6 ++ ([CV.bool ((↑(List.length (y8.2.2.2.2.2.1)) : Int) == (0 : Int))] ++ (jl 159))) [] (0 : Nat)
inductive Sp.E_34_2 where
  | e0
  | e1 (y6 : Zt34_1) (y7 : Zt34_0)
  | e2 (y8 : Zt34_0)
def Sp.B_34_2 {R : Type} (r : Option Sp.E_34_2) (k0 : Option R) (k1 : (Zt34_1) → (Zt34_0) → Option R) (k2 : (Zt34_0) → Option R) : Option R := match r with
  | none => none
  | some (.e0) => k0
  | some (.e1 y6 y7) => k1 y6 y7
  | some (.e2 y8) => k2 y8
def Sp.J_34_2 (p0 : Bool) (p1 : Int × Int × Int × Int × Int × Int × Bool × Int × PUnit) (p2 : Int × Int × Int × Int × Int × List Int × Int × PUnit) : Option Sp.E_34_2 :=
  gd (Sp.p_45 p2 (2 : Int)) (bif (Sp.v_45 p2 (2 : Int)).1 then bif p2.2.2.2.1 != (0 : Int) then some (Sp.E_34_2.e0) else Sp.B_34_3 (Sp.J_34_3 p0 p1 p2) (fun (y6 : Int × Int × Int × Int × Int × Int × Bool × Int × PUnit) (y7 : Int × Int × Int × Int × Int × List Int × Int × PUnit) => some (Sp.E_34_2.e1 y6 y7)) (some (Sp.E_34_2.e0)) fun (y8 : Int × Int × Int × Int × Int × List Int × Int × PUnit) => some (Sp.E_34_2.e2 y8) else Sp.B_34_3 (Sp.J_34_3 p0 p1 p2) (fun (y9 : Int × Int × Int × Int × Int × Int × Bool × Int × PUnit) (y10 : Int × Int × Int × Int × Int × List Int × Int × PUnit) => some (Sp.E_34_2.e1 y9 y10)) (some (Sp.E_34_2.e0)) fun (y11 : Int × Int × Int × Int × Int × List Int × Int × PUnit) => some (Sp.E_34_2.e2 y11))
def G_34_2 {R : Type} (p0 : Bool) (p1 : Zt34_1) (p2 : Zt34_0) (k : Ex → St → Option R) : Option R := Sp.B_34_2 (Sp.J_34_2 p0 p1 p2) (k Ex.ret (X_34_2_0)) (fun y6 y7 => k Ex.ret (X_34_2_1 y6 y7)) (fun y8 => k Ex.ret (X_34_2_2 y8))
def o_34_2 {R : Type} (G : (Bool) → (Zt34_1) → (Zt34_0) → (Ex → St → Option R) → Option R) : St → (Ex → St → Option R) → Option R := fun T k => match T.sl.getD 3 .junk, T.sl.getD 4 .junk, T.sl.getD 7 .junk, T.hp with
  | CV.ptr (0 : Nat) [], CV.ptr (1 : Nat) [], CV.bool p0, ((Blk.mem (CV.pure (Ty.pair (Ty.int IntKind.i64) (Ty.pair (Ty.int IntKind.i64) (Ty.pair (Ty.int IntKind.i64) (Ty.pair (Ty.int IntKind.i64) (Ty.pair (Ty.int IntKind.i64) (Ty.pair (Ty.int IntKind.i64) (Ty.pair Ty.bool (Ty.pair (Ty.int IntKind.i64) Ty.unit)))))))) p1)) :: (Blk.mem (CV.pure (Ty.pair (Ty.int IntKind.i64) (Ty.pair (Ty.int IntKind.i64) (Ty.pair (Ty.int IntKind.i64) (Ty.pair (Ty.int IntKind.i64) (Ty.pair (Ty.int IntKind.i64) (Ty.pair (Ty.slice (Ty.int IntKind.i64)) (Ty.pair (Ty.int IntKind.i64) Ty.unit))))))) p2)) :: []) => gd (shapeOK T 166 [3, 4, 7] (0 : Nat)) (G p0 p1 p2 k)
  | _, _, _, _ => none
theorem o_34_2_inv {R : Type} {G : (Bool) → (Zt34_1) → (Zt34_0) → (Ex → St → Option R) → Option R} {T : St} {k : Ex → St → Option R} {r : R} (h : o_34_2 G T k = some r) : ∃ p0 p1 p2, T = T_34_2 p0 p1 p2 ∧ G p0 p1 p2 k = some r := by
  unfold o_34_2 at h
  split at h
  · obtain ⟨hs, h'⟩ := gd_some h
    refine ⟨_, _, _, (st_of (asg := [(3, _), (4, _), (7, _)]) hs ⟨by assumption, by assumption, by assumption, trivial⟩ (by assumption)).trans ?_, h'⟩
    kernel_rfl
  · cases h
def T_34_1 (p0 : Bool) (p1 : Zt34_1) (p2 : Zt34_0) : St := St.mk ([jk, jk, jk, CV.ptr (0 : Nat) [], CV.ptr (1 : Nat) [], jk, jk, CV.bool p0] ++ (jl 158)) [Blk.mem (CV.pure Zy34_2 p1), Blk.mem (CV.pure Zy34_3 p2)] (0 : Nat)
def X_34_1_0 : St := St.mk (jl 6 ++ ([CV.bool false] ++ (jl 159))) [] (0 : Nat)
def X_34_1_1 (y6 : Zt34_1) (y7 : Zt34_0) : St := St.mk (jl 6 ++ ([CV.bool ((↑(List.length (y7.2.2.2.2.2.1)) : Int) == y6.2.2.2.2.2.2.2.1)] ++ (jl 159))) [] (0 : Nat)
def X_34_1_2 (y8 : Zt34_0) : St := St.mk (jl 6 ++ ([CV.bool ((↑(List.length (y8.2.2.2.2.2.1)) : Int) == (0 : Int))] ++ (jl 159))) [] (0 : Nat)
inductive Sp.E_34_1 where
  | e0
  | e1 (y6 : Zt34_1) (y7 : Zt34_0)
  | e2 (y8 : Zt34_0)
def Sp.B_34_1 {R : Type} (r : Option Sp.E_34_1) (k0 : Option R) (k1 : (Zt34_1) → (Zt34_0) → Option R) (k2 : (Zt34_0) → Option R) : Option R := match r with
  | none => none
  | some (.e0) => k0
  | some (.e1 y6 y7) => k1 y6 y7
  | some (.e2 y8) => k2 y8
def Sp.J_34_1 (p0 : Bool) (p1 : Int × Int × Int × Int × Int × Int × Bool × Int × PUnit) (p2 : Int × Int × Int × Int × Int × List Int × Int × PUnit) : Option Sp.E_34_1 :=
  gd (Sp.p_45 p2 (4 : Int)) (bif !(Sp.v_45 p2 (4 : Int)).1 == (p2.2.2.1 == (2 : Int)) then some (Sp.E_34_1.e0) else gd (Sp.p_45 p2 (16 : Int)) (bif (Sp.v_45 p2 (16 : Int)).1 then gd (Sp.p_45 p2 (4 : Int)) (bif (Sp.v_45 p2 (4 : Int)).1 then bif !p1.2.2.2.2.2.2.1 then some (Sp.E_34_1.e0) else Sp.B_34_2 (Sp.J_34_2 p0 p1 p2) (some (Sp.E_34_1.e0)) (fun (y6 : Int × Int × Int × Int × Int × Int × Bool × Int × PUnit) (y7 : Int × Int × Int × Int × Int × List Int × Int × PUnit) => some (Sp.E_34_1.e1 y6 y7)) fun (y8 : Int × Int × Int × Int × Int × List Int × Int × PUnit) => some (Sp.E_34_1.e2 y8) else some (Sp.E_34_1.e0)) else Sp.B_34_2 (Sp.J_34_2 p0 p1 p2) (some (Sp.E_34_1.e0)) (fun (y9 : Int × Int × Int × Int × Int × Int × Bool × Int × PUnit) (y10 : Int × Int × Int × Int × Int × List Int × Int × PUnit) => some (Sp.E_34_1.e1 y9 y10)) fun (y11 : Int × Int × Int × Int × Int × List Int × Int × PUnit) => some (Sp.E_34_1.e2 y11)))
def G_34_1 {R : Type} (p0 : Bool) (p1 : Zt34_1) (p2 : Zt34_0) (k : Ex → St → Option R) : Option R := Sp.B_34_1 (Sp.J_34_1 p0 p1 p2) (k Ex.ret (X_34_1_0)) (fun y6 y7 => k Ex.ret (X_34_1_1 y6 y7)) (fun y8 => k Ex.ret (X_34_1_2 y8))
def o_34_1 {R : Type} (G : (Bool) → (Zt34_1) → (Zt34_0) → (Ex → St → Option R) → Option R) : St → (Ex → St → Option R) → Option R := fun T k => match T.sl.getD 3 .junk, T.sl.getD 4 .junk, T.sl.getD 7 .junk, T.hp with
  | CV.ptr (0 : Nat) [], CV.ptr (1 : Nat) [], CV.bool p0, ((Blk.mem (CV.pure (Ty.pair (Ty.int IntKind.i64) (Ty.pair (Ty.int IntKind.i64) (Ty.pair (Ty.int IntKind.i64) (Ty.pair (Ty.int IntKind.i64) (Ty.pair (Ty.int IntKind.i64) (Ty.pair (Ty.int IntKind.i64) (Ty.pair Ty.bool (Ty.pair (Ty.int IntKind.i64) Ty.unit)))))))) p1)) :: (Blk.mem (CV.pure (Ty.pair (Ty.int IntKind.i64) (Ty.pair (Ty.int IntKind.i64) (Ty.pair (Ty.int IntKind.i64) (Ty.pair (Ty.int IntKind.i64) (Ty.pair (Ty.int IntKind.i64) (Ty.pair (Ty.slice (Ty.int IntKind.i64)) (Ty.pair (Ty.int IntKind.i64) Ty.unit))))))) p2)) :: []) => gd (shapeOK T 166 [3, 4, 7] (0 : Nat)) (G p0 p1 p2 k)
  | _, _, _, _ => none
theorem o_34_1_inv {R : Type} {G : (Bool) → (Zt34_1) → (Zt34_0) → (Ex → St → Option R) → Option R} {T : St} {k : Ex → St → Option R} {r : R} (h : o_34_1 G T k = some r) : ∃ p0 p1 p2, T = T_34_1 p0 p1 p2 ∧ G p0 p1 p2 k = some r := by
  unfold o_34_1 at h
  split at h
  · obtain ⟨hs, h'⟩ := gd_some h
    refine ⟨_, _, _, (st_of (asg := [(3, _), (4, _), (7, _)]) hs ⟨by assumption, by assumption, by assumption, trivial⟩ (by assumption)).trans ?_, h'⟩
    kernel_rfl
  · cases h
def T_34_0 (p0 : Int) (p1 : Bool) (p2 : Zt34_1) (p3 : Zt34_0) : St := St.mk ([jk, jk, CV.int IntKind.i64 p0, CV.ptr (0 : Nat) [], CV.ptr (1 : Nat) [], jk, jk, CV.bool p1] ++ (jl 158)) [Blk.mem (CV.pure Zy34_2 p2), Blk.mem (CV.pure Zy34_3 p3)] (0 : Nat)
def X_34_0_0 : St := St.mk (jl 6 ++ ([CV.bool false] ++ (jl 159))) [] (0 : Nat)
def X_34_0_1 (y6 : Zt34_1) (y7 : Zt34_0) : St := St.mk (jl 6 ++ ([CV.bool ((↑(List.length (y7.2.2.2.2.2.1)) : Int) == y6.2.2.2.2.2.2.2.1)] ++ (jl 159))) [] (0 : Nat)
def X_34_0_2 (y8 : Zt34_0) : St := St.mk (jl 6 ++ ([CV.bool ((↑(List.length (y8.2.2.2.2.2.1)) : Int) == (0 : Int))] ++ (jl 159))) [] (0 : Nat)
inductive Sp.E_34_0 where
  | e0
  | e1 (y6 : Zt34_1) (y7 : Zt34_0)
  | e2 (y8 : Zt34_0)
def Sp.B_34_0 {R : Type} (r : Option Sp.E_34_0) (k0 : Option R) (k1 : (Zt34_1) → (Zt34_0) → Option R) (k2 : (Zt34_0) → Option R) : Option R := match r with
  | none => none
  | some (.e0) => k0
  | some (.e1 y6 y7) => k1 y6 y7
  | some (.e2 y8) => k2 y8
def Sp.J_34_0 (p0 : Int) (p1 : Bool) (p2 : Int × Int × Int × Int × Int × Int × Bool × Int × PUnit) (p3 : Int × Int × Int × Int × Int × List Int × Int × PUnit) : Option Sp.E_34_0 :=
  gd (Sp.p_45 p3 (1 : Int)) (bif (Sp.v_45 p3 (1 : Int)).1 then gd (Sp.p_45 p3 (2 : Int)) (bif (Sp.v_45 p3 (2 : Int)).1 then gd (Sp.p_45 p3 (8 : Int)) (bif (Sp.v_45 p3 (8 : Int)).1 then bif !p3.2.2.2.2.2.2.1 == p0 then some (Sp.E_34_0.e0) else Sp.B_34_1 (Sp.J_34_1 p1 p2 p3) (some (Sp.E_34_0.e0)) (fun (y6 : Int × Int × Int × Int × Int × Int × Bool × Int × PUnit) (y7 : Int × Int × Int × Int × Int × List Int × Int × PUnit) => some (Sp.E_34_0.e1 y6 y7)) fun (y8 : Int × Int × Int × Int × Int × List Int × Int × PUnit) => some (Sp.E_34_0.e2 y8) else some (Sp.E_34_0.e0)) else some (Sp.E_34_0.e0)) else Sp.B_34_1 (Sp.J_34_1 p1 p2 p3) (some (Sp.E_34_0.e0)) (fun (y9 : Int × Int × Int × Int × Int × Int × Bool × Int × PUnit) (y10 : Int × Int × Int × Int × Int × List Int × Int × PUnit) => some (Sp.E_34_0.e1 y9 y10)) fun (y11 : Int × Int × Int × Int × Int × List Int × Int × PUnit) => some (Sp.E_34_0.e2 y11))
def G_34_0 {R : Type} (p0 : Int) (p1 : Bool) (p2 : Zt34_1) (p3 : Zt34_0) (k : Ex → St → Option R) : Option R := Sp.B_34_0 (Sp.J_34_0 p0 p1 p2 p3) (k Ex.ret (X_34_0_0)) (fun y6 y7 => k Ex.ret (X_34_0_1 y6 y7)) (fun y8 => k Ex.ret (X_34_0_2 y8))
def o_34_0 {R : Type} (G : (Int) → (Bool) → (Zt34_1) → (Zt34_0) → (Ex → St → Option R) → Option R) : St → (Ex → St → Option R) → Option R := fun T k => match T.sl.getD 2 .junk, T.sl.getD 3 .junk, T.sl.getD 4 .junk, T.sl.getD 7 .junk, T.hp with
  | CV.int IntKind.i64 p0, CV.ptr (0 : Nat) [], CV.ptr (1 : Nat) [], CV.bool p1, ((Blk.mem (CV.pure (Ty.pair (Ty.int IntKind.i64) (Ty.pair (Ty.int IntKind.i64) (Ty.pair (Ty.int IntKind.i64) (Ty.pair (Ty.int IntKind.i64) (Ty.pair (Ty.int IntKind.i64) (Ty.pair (Ty.int IntKind.i64) (Ty.pair Ty.bool (Ty.pair (Ty.int IntKind.i64) Ty.unit)))))))) p2)) :: (Blk.mem (CV.pure (Ty.pair (Ty.int IntKind.i64) (Ty.pair (Ty.int IntKind.i64) (Ty.pair (Ty.int IntKind.i64) (Ty.pair (Ty.int IntKind.i64) (Ty.pair (Ty.int IntKind.i64) (Ty.pair (Ty.slice (Ty.int IntKind.i64)) (Ty.pair (Ty.int IntKind.i64) Ty.unit))))))) p3)) :: []) => gd (shapeOK T 166 [2, 3, 4, 7] (0 : Nat)) (G p0 p1 p2 p3 k)
  | _, _, _, _, _ => none
theorem o_34_0_inv {R : Type} {G : (Int) → (Bool) → (Zt34_1) → (Zt34_0) → (Ex → St → Option R) → Option R} {T : St} {k : Ex → St → Option R} {r : R} (h : o_34_0 G T k = some r) : ∃ p0 p1 p2 p3, T = T_34_0 p0 p1 p2 p3 ∧ G p0 p1 p2 p3 k = some r := by
  unfold o_34_0 at h
  split at h
  · obtain ⟨hs, h'⟩ := gd_some h
    refine ⟨_, _, _, _, (st_of (asg := [(2, _), (3, _), (4, _), (7, _)]) hs ⟨by assumption, by assumption, by assumption, by assumption, trivial⟩ (by assumption)).trans ?_, h'⟩
    kernel_rfl
  · cases h
def O_34_34_3 {R : Type} : St → (Ex → St → Option R) → Option R := fun T k => o_34_3 G_34_3 T k
def O_34_34_2 {R : Type} : St → (Ex → St → Option R) → Option R := fun T k => o_34_2 G_34_2 T k
def O_34_34_1 {R : Type} : St → (Ex → St → Option R) → Option R := fun T k => o_34_1 G_34_1 T k
def O_34_34_0 {R : Type} : St → (Ex → St → Option R) → Option R := fun T k => o_34_0 G_34_0 T k
theorem body_34_3 {R : Type} (K1 : Ex → St → Option R) (p0 : Bool) (p1 : Zt34_1) (p2 : Zt34_0) : evJ (evCodeL sm_34 FU (ovr noO (evFn sm_34 fns FU 0)) .nil ir34_b3) (T_34_3 p0 p1 p2) K1 =
  bif p0 then bif decide (p2.2.2.2.2.1 ≥ (1 : Int)) then bif decide (p2.2.2.1 ≥ (1 : Int)) then bif decide (p2.2.2.2.2.2.2.1 ≥ (1 : Int)) then K1 Ex.ret (X_34_3_0 p1 p2) else K1 Ex.ret X_34_3_1 else K1 Ex.ret X_34_3_1 else K1 Ex.ret X_34_3_1 else bif p2.2.2.1 == (0 : Int) then bif p2.2.2.2.1 == (0 : Int) then bif p2.2.2.2.2.1 == (0 : Int) then bif p2.2.2.2.2.2.2.1 == (0 : Int) then K1 Ex.ret (X_34_3_2 p2) else K1 Ex.ret X_34_3_1 else K1 Ex.ret X_34_3_1 else K1 Ex.ret X_34_3_1 else K1 Ex.ret X_34_3_1 := by kernel_rfl
theorem Bgd_34_3 {R : Type} {c : Bool} {x : Option R} {y : Option Sp.E_34_3} {k0 : (Zt34_1) → (Zt34_0) → Option R} {k1 : Option R} {k2 : (Zt34_0) → Option R} (h : x = Sp.B_34_3 y k0 k1 k2) : gd c x = Sp.B_34_3 (gd c y) k0 k1 k2 := by cases c; rfl; exact h
theorem Bcond_34_3 {R : Type} {c : Bool} {x x' : Option R} {y y' : Option Sp.E_34_3} {k0 : (Zt34_1) → (Zt34_0) → Option R} {k1 : Option R} {k2 : (Zt34_0) → Option R} (h : x = Sp.B_34_3 y k0 k1 k2) (h' : x' = Sp.B_34_3 y' k0 k1 k2) : (bif c then x else x') = Sp.B_34_3 (bif c then y else y') k0 k1 k2 := by cases c; exact h'; exact h
theorem loop_34_3 {R : Type} (k : Ex → St → Option R) (p0 : Bool) (p1 : Zt34_1) (p2 : Zt34_0) : evJ (evCodeL sm_34 FU (ovr noO (evFn sm_34 fns FU 0)) .nil ir34_b3) (T_34_3 p0 p1 p2) k = Sp.B_34_3 (Sp.J_34_3 p0 p1 p2) (fun p1 p2 => k Ex.ret (X_34_3_0 p1 p2)) (k Ex.ret (X_34_3_1)) (fun p2 => k Ex.ret (X_34_3_2 p2)) := by
  rw [body_34_3, Sp.J_34_3]
  repeat' first | apply Bgd_34_3 | apply Bcond_34_3 | rfl
theorem ok_34_3 {R : Type} (T : St) (k : Ex → St → Option R) (r : R) (h0 : o_34_3 G_34_3 T k = some r) : evCode sm_34 FU (evFn sm_34 fns FU 0) ir34_b3 T k = some r := by
  obtain ⟨p0, p1, p2, rfl, h⟩ := o_34_3_inv h0
  refine bodyL_sound (t := .nil) noO_ok trivial (((show ∀ (b : St → (Ex → St → Option R) → Option R) (T : St) (k : Ex → St → Option R), b T k = evJ b T k from fun _ _ _ => rfl) _ _ _).trans ((loop_34_3 k p0 p1 p2).trans h))
theorem OK_34_34_3 {R : Type} (T : St) (k : Ex → St → Option R) (r : R) (h : O_34_34_3 T k = some r) : evCode sm_34 FU (evFn sm_34 fns FU 0) ir34_b3 T k = some r := ok_34_3 T k r h
theorem body_34_2 {R : Type} (K1 : Ex → St → Option R) (p0 : Bool) (p1 : Zt34_1) (p2 : Zt34_0) : evJ (evCodeL sm_34 FU (ovr noO (evFn sm_34 fns FU 0)) (ir34_bt2 O_34_34_3) ir34_b2) (T_34_2 p0 p1 p2) K1 =
  gd (Sp.p_45 p2 (2 : Int)) (bif (Sp.v_45 p2 (2 : Int)).1 then bif p2.2.2.2.1 != (0 : Int) then K1 Ex.ret X_34_2_0 else Sp.B_34_3 (Sp.J_34_3 p0 p1 p2) (fun (y6 : Zt34_1) (y7 : Zt34_0) => K1 Ex.ret (X_34_2_1 y6 y7)) (K1 Ex.ret X_34_2_0) fun (y8 : Zt34_0) => K1 Ex.ret (X_34_2_2 y8) else Sp.B_34_3 (Sp.J_34_3 p0 p1 p2) (fun (y9 : Zt34_1) (y10 : Zt34_0) => K1 Ex.ret (X_34_2_1 y9 y10)) (K1 Ex.ret X_34_2_0) fun (y11 : Zt34_0) => K1 Ex.ret (X_34_2_2 y11)) := by kernel_rfl
theorem Bgd_34_2 {R : Type} {c : Bool} {x : Option R} {y : Option Sp.E_34_2} {k0 : Option R} {k1 : (Zt34_1) → (Zt34_0) → Option R} {k2 : (Zt34_0) → Option R} (h : x = Sp.B_34_2 y k0 k1 k2) : gd c x = Sp.B_34_2 (gd c y) k0 k1 k2 := by cases c; rfl; exact h
theorem Bcond_34_2 {R : Type} {c : Bool} {x x' : Option R} {y y' : Option Sp.E_34_2} {k0 : Option R} {k1 : (Zt34_1) → (Zt34_0) → Option R} {k2 : (Zt34_0) → Option R} (h : x = Sp.B_34_2 y k0 k1 k2) (h' : x' = Sp.B_34_2 y' k0 k1 k2) : (bif c then x else x') = Sp.B_34_2 (bif c then y else y') k0 k1 k2 := by cases c; exact h'; exact h
theorem Bin_34_2_34_3 {R : Type} {r : Option Sp.E_34_3} {k0 : Option R} {k1 : (Zt34_1) → (Zt34_0) → Option R} {k2 : (Zt34_0) → Option R} {f0 : (Zt34_1) → (Zt34_0) → Option R} {f1 : Option R} {f2 : (Zt34_0) → Option R} {g0 : (Zt34_1) → (Zt34_0) → Option Sp.E_34_2} {g1 : Option Sp.E_34_2} {g2 : (Zt34_0) → Option Sp.E_34_2} (h0 : ∀ z0 z1, f0 z0 z1 = Sp.B_34_2 (g0 z0 z1) k0 k1 k2) (h1 : f1 = Sp.B_34_2 g1 k0 k1 k2) (h2 : ∀ z0, f2 z0 = Sp.B_34_2 (g2 z0) k0 k1 k2) : Sp.B_34_3 r f0 f1 f2 = Sp.B_34_2 (Sp.B_34_3 r g0 g1 g2) k0 k1 k2 := by
  cases r with
  | none => rfl
  | some e => cases e with
    | e0 z0 z1 => exact h0 _ _
    | e1 => exact h1
    | e2 z0 => exact h2 _
theorem loop_34_2 {R : Type} (k : Ex → St → Option R) (p0 : Bool) (p1 : Zt34_1) (p2 : Zt34_0) : evJ (evCodeL sm_34 FU (ovr noO (evFn sm_34 fns FU 0)) (ir34_bt2 O_34_34_3) ir34_b2) (T_34_2 p0 p1 p2) k = Sp.B_34_2 (Sp.J_34_2 p0 p1 p2) (k Ex.ret (X_34_2_0)) (fun y6 y7 => k Ex.ret (X_34_2_1 y6 y7)) (fun y8 => k Ex.ret (X_34_2_2 y8)) := by
  rw [body_34_2, Sp.J_34_2]
  repeat' first | apply Bgd_34_2 | apply Bcond_34_2 | (apply Bin_34_2_34_3 <;> intros) | rfl
theorem ok_34_2 {R : Type} (T : St) (k : Ex → St → Option R) (r : R) (h0 : o_34_2 G_34_2 T k = some r) : evCode sm_34 FU (evFn sm_34 fns FU 0) ir34_b2 T k = some r := by
  obtain ⟨p0, p1, p2, rfl, h⟩ := o_34_2_inv h0
  refine bodyL_sound (t := (ir34_bt2 O_34_34_3)) noO_ok (ir34_bt2ok (fun T k r => OK_34_34_3 T k r)) (((show ∀ (b : St → (Ex → St → Option R) → Option R) (T : St) (k : Ex → St → Option R), b T k = evJ b T k from fun _ _ _ => rfl) _ _ _).trans ((loop_34_2 k p0 p1 p2).trans h))
theorem OK_34_34_2 {R : Type} (T : St) (k : Ex → St → Option R) (r : R) (h : O_34_34_2 T k = some r) : evCode sm_34 FU (evFn sm_34 fns FU 0) ir34_b2 T k = some r := ok_34_2 T k r h
theorem body_34_1 {R : Type} (K1 : Ex → St → Option R) (p0 : Bool) (p1 : Zt34_1) (p2 : Zt34_0) : evJ (evCodeL sm_34 FU (ovr noO (evFn sm_34 fns FU 0)) (ir34_bt1 O_34_34_2) ir34_b1) (T_34_1 p0 p1 p2) K1 =
  gd (Sp.p_45 p2 (4 : Int)) (bif !(Sp.v_45 p2 (4 : Int)).1 == (p2.2.2.1 == (2 : Int)) then K1 Ex.ret X_34_1_0 else gd (Sp.p_45 p2 (16 : Int)) (bif (Sp.v_45 p2 (16 : Int)).1 then gd (Sp.p_45 p2 (4 : Int)) (bif (Sp.v_45 p2 (4 : Int)).1 then bif !p1.2.2.2.2.2.2.1 then K1 Ex.ret X_34_1_0 else Sp.B_34_2 (Sp.J_34_2 p0 p1 p2) (K1 Ex.ret X_34_1_0) (fun (y6 : Zt34_1) (y7 : Zt34_0) => K1 Ex.ret (X_34_1_1 y6 y7)) fun (y8 : Zt34_0) => K1 Ex.ret (X_34_1_2 y8) else K1 Ex.ret X_34_1_0) else Sp.B_34_2 (Sp.J_34_2 p0 p1 p2) (K1 Ex.ret X_34_1_0) (fun (y9 : Zt34_1) (y10 : Zt34_0) => K1 Ex.ret (X_34_1_1 y9 y10)) fun (y11 : Zt34_0) => K1 Ex.ret (X_34_1_2 y11))) := by kernel_rfl
theorem Bgd_34_1 {R : Type} {c : Bool} {x : Option R} {y : Option Sp.E_34_1} {k0 : Option R} {k1 : (Zt34_1) → (Zt34_0) → Option R} {k2 : (Zt34_0) → Option R} (h : x = Sp.B_34_1 y k0 k1 k2) : gd c x = Sp.B_34_1 (gd c y) k0 k1 k2 := by cases c; rfl; exact h
theorem Bcond_34_1 {R : Type} {c : Bool} {x x' : Option R} {y y' : Option Sp.E_34_1} {k0 : Option R} {k1 : (Zt34_1) → (Zt34_0) → Option R} {k2 : (Zt34_0) → Option R} (h : x = Sp.B_34_1 y k0 k1 k2) (h' : x' = Sp.B_34_1 y' k0 k1 k2) : (bif c then x else x') = Sp.B_34_1 (bif c then y else y') k0 k1 k2 := by cases c; exact h'; exact h
theorem Bin_34_1_34_2 {R : Type} {r : Option Sp.E_34_2} {k0 : Option R} {k1 : (Zt34_1) → (Zt34_0) → Option R} {k2 : (Zt34_0) → Option R} {f0 : Option R} {f1 : (Zt34_1) → (Zt34_0) → Option R} {f2 : (Zt34_0) → Option R} {g0 : Option Sp.E_34_1} {g1 : (Zt34_1) → (Zt34_0) → Option Sp.E_34_1} {g2 : (Zt34_0) → Option Sp.E_34_1} (h0 : f0 = Sp.B_34_1 g0 k0 k1 k2) (h1 : ∀ z0 z1, f1 z0 z1 = Sp.B_34_1 (g1 z0 z1) k0 k1 k2) (h2 : ∀ z0, f2 z0 = Sp.B_34_1 (g2 z0) k0 k1 k2) : Sp.B_34_2 r f0 f1 f2 = Sp.B_34_1 (Sp.B_34_2 r g0 g1 g2) k0 k1 k2 := by
  cases r with
  | none => rfl
  | some e => cases e with
    | e0 => exact h0
    | e1 z0 z1 => exact h1 _ _
    | e2 z0 => exact h2 _
theorem loop_34_1 {R : Type} (k : Ex → St → Option R) (p0 : Bool) (p1 : Zt34_1) (p2 : Zt34_0) : evJ (evCodeL sm_34 FU (ovr noO (evFn sm_34 fns FU 0)) (ir34_bt1 O_34_34_2) ir34_b1) (T_34_1 p0 p1 p2) k = Sp.B_34_1 (Sp.J_34_1 p0 p1 p2) (k Ex.ret (X_34_1_0)) (fun y6 y7 => k Ex.ret (X_34_1_1 y6 y7)) (fun y8 => k Ex.ret (X_34_1_2 y8)) := by
  rw [body_34_1, Sp.J_34_1]
  repeat' first | apply Bgd_34_1 | apply Bcond_34_1 | (apply Bin_34_1_34_2 <;> intros) | rfl
theorem ok_34_1 {R : Type} (T : St) (k : Ex → St → Option R) (r : R) (h0 : o_34_1 G_34_1 T k = some r) : evCode sm_34 FU (evFn sm_34 fns FU 0) ir34_b1 T k = some r := by
  obtain ⟨p0, p1, p2, rfl, h⟩ := o_34_1_inv h0
  refine bodyL_sound (t := (ir34_bt1 O_34_34_2)) noO_ok (ir34_bt1ok (fun T k r => OK_34_34_2 T k r)) (((show ∀ (b : St → (Ex → St → Option R) → Option R) (T : St) (k : Ex → St → Option R), b T k = evJ b T k from fun _ _ _ => rfl) _ _ _).trans ((loop_34_1 k p0 p1 p2).trans h))
theorem OK_34_34_1 {R : Type} (T : St) (k : Ex → St → Option R) (r : R) (h : O_34_34_1 T k = some r) : evCode sm_34 FU (evFn sm_34 fns FU 0) ir34_b1 T k = some r := ok_34_1 T k r h
theorem body_34_0 {R : Type} (K1 : Ex → St → Option R) (p0 : Int) (p1 : Bool) (p2 : Zt34_1) (p3 : Zt34_0) : evJ (evCodeL sm_34 FU (ovr noO (evFn sm_34 fns FU 0)) (ir34_bt0 O_34_34_1) ir34_b0) (T_34_0 p0 p1 p2 p3) K1 =
  gd (Sp.p_45 p3 (1 : Int)) (bif (Sp.v_45 p3 (1 : Int)).1 then gd (Sp.p_45 p3 (2 : Int)) (bif (Sp.v_45 p3 (2 : Int)).1 then gd (Sp.p_45 p3 (8 : Int)) (bif (Sp.v_45 p3 (8 : Int)).1 then bif !p3.2.2.2.2.2.2.1 == p0 then K1 Ex.ret X_34_0_0 else Sp.B_34_1 (Sp.J_34_1 p1 p2 p3) (K1 Ex.ret X_34_0_0) (fun (y6 : Zt34_1) (y7 : Zt34_0) => K1 Ex.ret (X_34_0_1 y6 y7)) fun (y8 : Zt34_0) => K1 Ex.ret (X_34_0_2 y8) else K1 Ex.ret X_34_0_0) else K1 Ex.ret X_34_0_0) else Sp.B_34_1 (Sp.J_34_1 p1 p2 p3) (K1 Ex.ret X_34_0_0) (fun (y9 : Zt34_1) (y10 : Zt34_0) => K1 Ex.ret (X_34_0_1 y9 y10)) fun (y11 : Zt34_0) => K1 Ex.ret (X_34_0_2 y11)) := by kernel_rfl
theorem Bgd_34_0 {R : Type} {c : Bool} {x : Option R} {y : Option Sp.E_34_0} {k0 : Option R} {k1 : (Zt34_1) → (Zt34_0) → Option R} {k2 : (Zt34_0) → Option R} (h : x = Sp.B_34_0 y k0 k1 k2) : gd c x = Sp.B_34_0 (gd c y) k0 k1 k2 := by cases c; rfl; exact h
theorem Bcond_34_0 {R : Type} {c : Bool} {x x' : Option R} {y y' : Option Sp.E_34_0} {k0 : Option R} {k1 : (Zt34_1) → (Zt34_0) → Option R} {k2 : (Zt34_0) → Option R} (h : x = Sp.B_34_0 y k0 k1 k2) (h' : x' = Sp.B_34_0 y' k0 k1 k2) : (bif c then x else x') = Sp.B_34_0 (bif c then y else y') k0 k1 k2 := by cases c; exact h'; exact h
theorem Bin_34_0_34_1 {R : Type} {r : Option Sp.E_34_1} {k0 : Option R} {k1 : (Zt34_1) → (Zt34_0) → Option R} {k2 : (Zt34_0) → Option R} {f0 : Option R} {f1 : (Zt34_1) → (Zt34_0) → Option R} {f2 : (Zt34_0) → Option R} {g0 : Option Sp.E_34_0} {g1 : (Zt34_1) → (Zt34_0) → Option Sp.E_34_0} {g2 : (Zt34_0) → Option Sp.E_34_0} (h0 : f0 = Sp.B_34_0 g0 k0 k1 k2) (h1 : ∀ z0 z1, f1 z0 z1 = Sp.B_34_0 (g1 z0 z1) k0 k1 k2) (h2 : ∀ z0, f2 z0 = Sp.B_34_0 (g2 z0) k0 k1 k2) : Sp.B_34_1 r f0 f1 f2 = Sp.B_34_0 (Sp.B_34_1 r g0 g1 g2) k0 k1 k2 := by
  cases r with
  | none => rfl
  | some e => cases e with
    | e0 => exact h0
    | e1 z0 z1 => exact h1 _ _
    | e2 z0 => exact h2 _
theorem loop_34_0 {R : Type} (k : Ex → St → Option R) (p0 : Int) (p1 : Bool) (p2 : Zt34_1) (p3 : Zt34_0) : evJ (evCodeL sm_34 FU (ovr noO (evFn sm_34 fns FU 0)) (ir34_bt0 O_34_34_1) ir34_b0) (T_34_0 p0 p1 p2 p3) k = Sp.B_34_0 (Sp.J_34_0 p0 p1 p2 p3) (k Ex.ret (X_34_0_0)) (fun y6 y7 => k Ex.ret (X_34_0_1 y6 y7)) (fun y8 => k Ex.ret (X_34_0_2 y8)) := by
  rw [body_34_0, Sp.J_34_0]
  repeat' first | apply Bgd_34_0 | apply Bcond_34_0 | (apply Bin_34_0_34_1 <;> intros) | rfl
theorem ok_34_0 {R : Type} (T : St) (k : Ex → St → Option R) (r : R) (h0 : o_34_0 G_34_0 T k = some r) : evCode sm_34 FU (evFn sm_34 fns FU 0) ir34_b0 T k = some r := by
  obtain ⟨p0, p1, p2, p3, rfl, h⟩ := o_34_0_inv h0
  refine bodyL_sound (t := (ir34_bt0 O_34_34_1)) noO_ok (ir34_bt0ok (fun T k r => OK_34_34_1 T k r)) (((show ∀ (b : St → (Ex → St → Option R) → Option R) (T : St) (k : Ex → St → Option R), b T k = evJ b T k from fun _ _ _ => rfl) _ _ _).trans ((loop_34_0 k p0 p1 p2 p3).trans h))
theorem OK_34_34_0 {R : Type} (T : St) (k : Ex → St → Option R) (r : R) (h : O_34_34_0 T k = some r) : evCode sm_34 FU (evFn sm_34 fns FU 0) ir34_b0 T k = some r := ok_34_0 T k r h
def F_34 (a0 : (Int × (Int × (Int × (Int × (Int × (Int × (Bool × (Int × Unit))))))))) (a1 : (Int × (Int × (Int × (Int × (Int × ((List Int) × (Int × Unit)))))))) (a2 : Int) : Option (Bool × Unit) :=
  gd (Sp.p_26 (a1.1) (0 : Int) (31 : Int)) (bif !(Sp.v_26 (a1.1) (0 : Int) (31 : Int)).1 then some (false, PUnit.unit) else gd (Sp.p_26 (a1.2.1) (IntKind.wrap IntKind.i64 ((0 : Int) - a0.2.2.1)) (a0.2.1)) (bif !(Sp.v_26 (a1.2.1) (IntKind.wrap IntKind.i64 ((0 : Int) - a0.2.2.1)) (a0.2.1)).1 then some (false, PUnit.unit) else gd (Sp.p_26 (a1.2.2.1) (0 : Int) (2 : Int)) (bif !(Sp.v_26 (a1.2.2.1) (0 : Int) (2 : Int)).1 then some (false, PUnit.unit) else gd (Sp.p_26 (a1.2.2.2.1) (0 : Int) (IntKind.wrap IntKind.i64 (a0.2.2.2.2.1 - (1 : Int)))) (bif !(Sp.v_26 (a1.2.2.2.1) (0 : Int) (IntKind.wrap IntKind.i64 (a0.2.2.2.2.1 - (1 : Int)))).1 then some (false, PUnit.unit) else gd (Sp.p_26 (a1.2.2.2.2.1) (0 : Int) (255 : Int)) (bif !(Sp.v_26 (a1.2.2.2.2.1) (0 : Int) (255 : Int)).1 then some (false, PUnit.unit) else gd (Sp.p_26 (a1.2.2.2.2.2.2.1) (0 : Int) a2) (bif !(Sp.v_26 (a1.2.2.2.2.2.2.1) (0 : Int) a2).1 then some (false, PUnit.unit) else bif (↑(List.length (a1.2.2.2.2.2.1)) : Int) != (0 : Int) then bif (↑(List.length (a1.2.2.2.2.2.1)) : Int) != a0.2.2.2.2.2.2.2.1 then some (false, PUnit.unit) else gd (Sp.p_44 (a1.2.2.2.2.2.1)) (bif !(Sp.v_44 (a1.2.2.2.2.2.1)).1 then some (false, PUnit.unit) else gd (Sp.p_45 a1 (2 : Int)) (bif (Sp.v_45 a1 (2 : Int)).1 then Sp.B_34_0 (Sp.J_34_0 a2 true a0 a1) (some (false, PUnit.unit)) (fun (y12 : Int × Int × Int × Int × Int × Int × Bool × Int × PUnit) (y13 : Int × Int × Int × Int × Int × List Int × Int × PUnit) => some ((↑(List.length (y13.2.2.2.2.2.1)) : Int) == y12.2.2.2.2.2.2.2.1, PUnit.unit)) fun (y14 : Int × Int × Int × Int × Int × List Int × Int × PUnit) => some ((↑(List.length (y14.2.2.2.2.2.1)) : Int) == (0 : Int), PUnit.unit) else gd (Sp.p_45 a1 (4 : Int)) (Sp.B_34_0 (Sp.J_34_0 a2 ((Sp.v_45 a1 (4 : Int)).1) a0 a1) (some (false, PUnit.unit)) (fun (y15 : Int × Int × Int × Int × Int × Int × Bool × Int × PUnit) (y16 : Int × Int × Int × Int × Int × List Int × Int × PUnit) => some ((↑(List.length (y16.2.2.2.2.2.1)) : Int) == y15.2.2.2.2.2.2.2.1, PUnit.unit)) fun (y17 : Int × Int × Int × Int × Int × List Int × Int × PUnit) => some ((↑(List.length (y17.2.2.2.2.2.1)) : Int) == (0 : Int), PUnit.unit)))) else gd (Sp.p_44 (a1.2.2.2.2.2.1)) (bif !(Sp.v_44 (a1.2.2.2.2.2.1)).1 then some (false, PUnit.unit) else gd (Sp.p_45 a1 (2 : Int)) (bif (Sp.v_45 a1 (2 : Int)).1 then Sp.B_34_0 (Sp.J_34_0 a2 true a0 a1) (some (false, PUnit.unit)) (fun (y18 : Int × Int × Int × Int × Int × Int × Bool × Int × PUnit) (y19 : Int × Int × Int × Int × Int × List Int × Int × PUnit) => some ((↑(List.length (y19.2.2.2.2.2.1)) : Int) == y18.2.2.2.2.2.2.2.1, PUnit.unit)) fun (y20 : Int × Int × Int × Int × Int × List Int × Int × PUnit) => some ((↑(List.length (y20.2.2.2.2.2.1)) : Int) == (0 : Int), PUnit.unit) else gd (Sp.p_45 a1 (4 : Int)) (Sp.B_34_0 (Sp.J_34_0 a2 ((Sp.v_45 a1 (4 : Int)).1) a0 a1) (some (false, PUnit.unit)) (fun (y21 : Int × Int × Int × Int × Int × Int × Bool × Int × PUnit) (y22 : Int × Int × Int × Int × Int × List Int × Int × PUnit) => some ((↑(List.length (y22.2.2.2.2.2.1)) : Int) == y21.2.2.2.2.2.2.2.1, PUnit.unit)) fun (y23 : Int × Int × Int × Int × Int × List Int × Int × PUnit) => some ((↑(List.length (y23.2.2.2.2.2.1)) : Int) == (0 : Int), PUnit.unit))))))))))
theorem fn_34 (a0 : (Int × (Int × (Int × (Int × (Int × (Int × (Bool × (Int × Unit))))))))) (a1 : (Int × (Int × (Int × (Int × (Int × ((List Int) × (Int × Unit)))))))) (a2 : Int) : evFnL sm_34 FU (ovr noO (evFn sm_34 fns FU 0)) (ir34_t O_34_34_0) ir34 (ofH [Zy34_4, Zy34_5, (.int .i64)] (a0, a1, a2, ())) [] (pureK [.bool]) = F_34 a0 a1 a2 := by kernel_rfl
def Sp.p_34 (a0 : (Int × (Int × (Int × (Int × (Int × (Int × (Bool × (Int × Unit))))))))) (a1 : (Int × (Int × (Int × (Int × (Int × ((List Int) × (Int × Unit)))))))) (a2 : Int) : Bool := (F_34 a0 a1 a2).isSome
def Sp.v_34 (a0 : (Int × (Int × (Int × (Int × (Int × (Int × (Bool × (Int × Unit))))))))) (a1 : (Int × (Int × (Int × (Int × (Int × ((List Int) × (Int × Unit)))))))) (a2 : Int) : Bool × Unit := (F_34 a0 a1 a2).getD (dfH [.bool])
def s_34 : Summ := shN [Zy34_4, Zy34_5, (.int .i64)] [.bool] (fun x => Sp.p_34 x.1 x.2.1 x.2.2.1) (fun x => Sp.v_34 x.1 x.2.1 x.2.2.1)
theorem pv_34 (a0 : (Int × (Int × (Int × (Int × (Int × (Int × (Bool × (Int × Unit))))))))) (a1 : (Int × (Int × (Int × (Int × (Int × ((List Int) × (Int × Unit)))))))) (a2 : Int) {y : Bool × Unit} (h : F_34 a0 a1 a2 = some y) : Sp.p_34 a0 a1 a2 = true ∧ Sp.v_34 a0 a1 a2 = y := ⟨by rw [Sp.p_34, h]; rfl, by rw [Sp.v_34, h]; rfl⟩
theorem run_34 (x : HDen [Zy34_4, Zy34_5, (.int .i64)]) (y : HDen [.bool]) (h : F_34 x.1 x.2.1 x.2.2.1 = some y) : evFn sm_34 fns FU 1 34 (ofH [Zy34_4, Zy34_5, (.int .i64)] x) [] (pureK [.bool]) = some y :=
  evFnL_sound (fn := ir34) (t := (ir34_t O_34_34_0)) (o := noO) rfl noO_ok (ir34_tok (fun T k r => OK_34_34_0 T k r)) ((fn_34 _ _ _).trans h)
end
end Go.Ev
namespace Go.Ev
open Go
set_option maxRecDepth 100000
set_option maxHeartbeats 4000000
set_option linter.unusedVariables false
noncomputable section
abbrev Zt18_0 : Type := List (Int × Int × Int × Int × Int × Int × Bool × Int × PUnit) × List (Int × Int × Int × Int × Int × List Int × Int × PUnit) × Int × Bool × PUnit
abbrev Zy18_1 : Ty := (.pair (.slice (.pair (.int .i64) (.pair (.int .i64) (.pair (.int .i64) (.pair (.int .i64) (.pair (.int .i64) (.pair (.int .i64) (.pair .bool (.pair (.int .i64) .unit))))))))) (.pair (.slice (.pair (.int .i64) (.pair (.int .i64) (.pair (.int .i64) (.pair (.int .i64) (.pair (.int .i64) (.pair (.slice (.int .i64)) (.pair (.int .i64) .unit)))))))) (.pair (.int .i64) (.pair .bool .unit))))
abbrev Zy18_2 : Ty := (Ty.pair (Ty.slice (Ty.pair (Ty.int IntKind.i64) (Ty.pair (Ty.int IntKind.i64) (Ty.pair (Ty.int IntKind.i64) (Ty.pair (Ty.int IntKind.i64) (Ty.pair (Ty.int IntKind.i64) (Ty.pair (Ty.int IntKind.i64) (Ty.pair Ty.bool (Ty.pair (Ty.int IntKind.i64) Ty.unit))))))))) (Ty.pair (Ty.slice (Ty.pair (Ty.int IntKind.i64) (Ty.pair (Ty.int IntKind.i64) (Ty.pair (Ty.int IntKind.i64) (Ty.pair (Ty.int IntKind.i64) (Ty.pair (Ty.int IntKind.i64) (Ty.pair (Ty.slice (Ty.int IntKind.i64)) (Ty.pair (Ty.int IntKind.i64) Ty.unit)))))))) (Ty.pair (Ty.int IntKind.i64) (Ty.pair Ty.bool Ty.unit))))
abbrev Zy18_3 : Ty := (Ty.pair (Ty.int IntKind.i64) (Ty.pair (Ty.int IntKind.i64) (Ty.pair (Ty.int IntKind.i64) (Ty.pair (Ty.int IntKind.i64) (Ty.pair (Ty.int IntKind.i64) (Ty.pair (Ty.int IntKind.i64) (Ty.pair Ty.bool (Ty.pair (Ty.int IntKind.i64) Ty.unit))))))))
abbrev Zy18_4 : Ty := (Ty.pair (Ty.int IntKind.i64) (Ty.pair (Ty.int IntKind.i64) (Ty.pair (Ty.int IntKind.i64) (Ty.pair (Ty.int IntKind.i64) (Ty.pair (Ty.int IntKind.i64) (Ty.pair (Ty.slice (Ty.int IntKind.i64)) (Ty.pair (Ty.int IntKind.i64) Ty.unit)))))))

def sm_18 : Nat → Option Summ := fun f => bif Nat.beq f 12 then some s_12 else bif Nat.beq f 26 then some s_26 else bif Nat.beq f 34 then some s_34 else none
def T_18_1 (p0 : Int) (p1 : Zt18_0) : St := St.mk ([jk, CV.ptr (0 : Nat) [], jk, CV.int IntKind.i64 p0] ++ (jl 49)) [Blk.mem (CV.pure Zy18_2 p1)] (0 : Nat)
def X_18_1_0 : St := St.mk ([jk, jk, CV.bool false] ++ (jl 50)) [] (0 : Nat)
def X_18_1_1 : St := St.mk (jl 53) [] (0 : Nat)
inductive Sp.E_18_1 where
  | e0
  | e1
def Sp.B_18_1 {R : Type} (r : Option Sp.E_18_1) (k0 : Option R) (k1 : Option R) : Option R := match r with
  | none => none
  | some (.e0) => k0
  | some (.e1) => k1
def Sp.L_18_1 : Nat → (Int) → (List (Int × Int × Int × Int × Int × Int × Bool × Int × PUnit) × List (Int × Int × Int × Int × Int × List Int × Int × PUnit) × Int × Bool × PUnit) → Option Sp.E_18_1
  | 0, _, _ => none
  | m + 1, p0, p1 => bif decide (p0 < (↑(List.length (p1.2.1)) : Int)) then gd (inB p0 (List.length (p1.1))) (gd (inB p0 (List.length (p1.2.1))) (gd (Sp.p_34 (List.getD (p1.1) (Int.toNat p0) Zd0) (List.getD (p1.2.1) (Int.toNat p0) Zd1) (p1.2.2.1)) (bif !(Sp.v_34 (List.getD (p1.1) (Int.toNat p0) Zd0) (List.getD (p1.2.1) (Int.toNat p0) Zd1) (p1.2.2.1)).1 then some (Sp.E_18_1.e0) else Sp.L_18_1 m (IntKind.wrap IntKind.i64 (p0 + (1 : Int))) p1))) else some (Sp.E_18_1.e1)
def G_18_1 {R : Type} (p0 : Int) (p1 : Zt18_0) (k : Ex → St → Option R) : Option R := Sp.B_18_1 (Sp.L_18_1 FU p0 p1) (k Ex.ret (X_18_1_0)) (k (Ex.exit (0 : Nat)) (X_18_1_1))
def o_18_1 {R : Type} (G : (Int) → (Zt18_0) → (Ex → St → Option R) → Option R) : St → (Ex → St → Option R) → Option R := fun T k => match T.sl.getD 1 .junk, T.sl.getD 3 .junk, T.hp with
  | CV.ptr (0 : Nat) [], CV.int IntKind.i64 p0, ((Blk.mem (CV.pure (Ty.pair (Ty.slice (Ty.pair (Ty.int IntKind.i64) (Ty.pair (Ty.int IntKind.i64) (Ty.pair (Ty.int IntKind.i64) (Ty.pair (Ty.int IntKind.i64) (Ty.pair (Ty.int IntKind.i64) (Ty.pair (Ty.int IntKind.i64) (Ty.pair Ty.bool (Ty.pair (Ty.int IntKind.i64) Ty.unit))))))))) (Ty.pair (Ty.slice (Ty.pair (Ty.int IntKind.i64) (Ty.pair (Ty.int IntKind.i64) (Ty.pair (Ty.int IntKind.i64) (Ty.pair (Ty.int IntKind.i64) (Ty.pair (Ty.int IntKind.i64) (Ty.pair (Ty.slice (Ty.int IntKind.i64)) (Ty.pair (Ty.int IntKind.i64) Ty.unit)))))))) (Ty.pair (Ty.int IntKind.i64) (Ty.pair Ty.bool Ty.unit)))) p1)) :: []) => gd (shapeOK T 53 [1, 3] (0 : Nat)) (G p0 p1 k)
  | _, _, _ => none
theorem o_18_1_inv {R : Type} {G : (Int) → (Zt18_0) → (Ex → St → Option R) → Option R} {T : St} {k : Ex → St → Option R} {r : R} (h : o_18_1 G T k = some r) : ∃ p0 p1, T = T_18_1 p0 p1 ∧ G p0 p1 k = some r := by
  unfold o_18_1 at h
  split at h
  · obtain ⟨hs, h'⟩ := gd_some h
    refine ⟨_, _, (st_of (asg := [(1, _), (3, _)]) hs ⟨by assumption, by assumption, trivial⟩ (by assumption)).trans ?_, h'⟩
    kernel_rfl
  · cases h
def T_18_0 (p0 : Zt18_0) : St := St.mk ([jk, CV.ptr (0 : Nat) []] ++ (jl 51)) [Blk.mem (CV.pure Zy18_2 p0)] (0 : Nat)
def X_18_0_0 : St := St.mk ([jk, jk, CV.bool false] ++ (jl 50)) [] (0 : Nat)
def X_18_0_1 : St := St.mk ([jk, jk, CV.bool true] ++ (jl 50)) [] (0 : Nat)
inductive Sp.E_18_0 where
  | e0
  | e1
def Sp.B_18_0 {R : Type} (r : Option Sp.E_18_0) (k0 : Option R) (k1 : Option R) : Option R := match r with
  | none => none
  | some (.e0) => k0
  | some (.e1) => k1
def Sp.J_18_0 (p0 : List (Int × Int × Int × Int × Int × Int × Bool × Int × PUnit) × List (Int × Int × Int × Int × Int × List Int × Int × PUnit) × Int × Bool × PUnit) : Option Sp.E_18_0 :=
  Sp.B_18_1 (Sp.L_18_1 (4611686018427387904 : Nat) (0 : Int) p0) (some (Sp.E_18_0.e0)) (some (Sp.E_18_0.e1))
def G_18_0 {R : Type} (p0 : Zt18_0) (k : Ex → St → Option R) : Option R := Sp.B_18_0 (Sp.J_18_0 p0) (k Ex.ret (X_18_0_0)) (k Ex.ret (X_18_0_1))
def o_18_0 {R : Type} (G : (Zt18_0) → (Ex → St → Option R) → Option R) : St → (Ex → St → Option R) → Option R := fun T k => match T.sl.getD 1 .junk, T.hp with
  | CV.ptr (0 : Nat) [], ((Blk.mem (CV.pure (Ty.pair (Ty.slice (Ty.pair (Ty.int IntKind.i64) (Ty.pair (Ty.int IntKind.i64) (Ty.pair (Ty.int IntKind.i64) (Ty.pair (Ty.int IntKind.i64) (Ty.pair (Ty.int IntKind.i64) (Ty.pair (Ty.int IntKind.i64) (Ty.pair Ty.bool (Ty.pair (Ty.int IntKind.i64) Ty.unit))))))))) (Ty.pair (Ty.slice (Ty.pair (Ty.int IntKind.i64) (Ty.pair (Ty.int IntKind.i64) (Ty.pair (Ty.int IntKind.i64) (Ty.pair (Ty.int IntKind.i64) (Ty.pair (Ty.int IntKind.i64) (Ty.pair (Ty.slice (Ty.int IntKind.i64)) (Ty.pair (Ty.int IntKind.i64) Ty.unit)))))))) (Ty.pair (Ty.int IntKind.i64) (Ty.pair Ty.bool Ty.unit)))) p0)) :: []) => gd (shapeOK T 53 [1] (0 : Nat)) (G p0 k)
  | _, _ => none
theorem o_18_0_inv {R : Type} {G : (Zt18_0) → (Ex → St → Option R) → Option R} {T : St} {k : Ex → St → Option R} {r : R} (h : o_18_0 G T k = some r) : ∃ p0, T = T_18_0 p0 ∧ G p0 k = some r := by
  unfold o_18_0 at h
  split at h
  · obtain ⟨hs, h'⟩ := gd_some h
    refine ⟨_, (st_of (asg := [(1, _)]) hs ⟨by assumption, trivial⟩ (by assumption)).trans ?_, h'⟩
    kernel_rfl
  · cases h
def O_18_18_1 {R : Type} : St → (Ex → St → Option R) → Option R := fun T k => o_18_1 G_18_1 T k
def O_18_18_0 {R : Type} : St → (Ex → St → Option R) → Option R := fun T k => o_18_0 G_18_0 T k
theorem body_18_1 {R : Type} (K0 : St → Option R) (K1 : Ex → St → Option R) (p0 : Int) (p1 : Zt18_0) : evLB (evCodeL sm_18 FU (ovr noO (evFn sm_18 fns FU 0)) .nil ir18_b1) (St.norm ir18_v1) (T_18_1 p0 p1) K0 K1 =
  bif decide (p0 < (↑(List.length (p1.2.1)) : Int)) then gd (inB p0 (List.length (p1.1))) (gd (inB p0 (List.length (p1.2.1))) (gd (Sp.p_34 (List.getD (p1.1) (Int.toNat p0) (Ty.dflt Zy18_3)) (List.getD (p1.2.1) (Int.toNat p0) (Ty.dflt Zy18_4)) (p1.2.2.1)) (bif !(Sp.v_34 (List.getD (p1.1) (Int.toNat p0) (Ty.dflt Zy18_3)) (List.getD (p1.2.1) (Int.toNat p0) (Ty.dflt Zy18_4)) (p1.2.2.1)).1 then K1 Ex.ret X_18_1_0 else K0 (T_18_1 (IntKind.wrap IntKind.i64 (p0 + (1 : Int))) p1)))) else K1 (Ex.exit (0 : Nat)) X_18_1_1 := by kernel_rfl
theorem Bgd_18_1 {R : Type} {c : Bool} {x : Option R} {y : Option Sp.E_18_1} {k0 : Option R} {k1 : Option R} (h : x = Sp.B_18_1 y k0 k1) : gd c x = Sp.B_18_1 (gd c y) k0 k1 := by cases c; rfl; exact h
theorem Bcond_18_1 {R : Type} {c : Bool} {x x' : Option R} {y y' : Option Sp.E_18_1} {k0 : Option R} {k1 : Option R} (h : x = Sp.B_18_1 y k0 k1) (h' : x' = Sp.B_18_1 y' k0 k1) : (bif c then x else x') = Sp.B_18_1 (bif c then y else y') k0 k1 := by cases c; exact h'; exact h
theorem loop_18_1 {R : Type} (k : Ex → St → Option R) : ∀ (m : Nat) (p0 : Int) (p1 : Zt18_0), evLoopN (evCodeL sm_18 FU (ovr noO (evFn sm_18 fns FU 0)) .nil ir18_b1) (St.norm ir18_v1) m (T_18_1 p0 p1) k = Sp.B_18_1 (Sp.L_18_1 m p0 p1) (k Ex.ret (X_18_1_0)) (k (Ex.exit (0 : Nat)) (X_18_1_1))
  | 0, _, _ => rfl
  | m + 1, p0, p1 => by
    rw [evLoopN_succ, body_18_1, Sp.L_18_1]
    repeat' first | apply Bgd_18_1 | apply Bcond_18_1 | exact loop_18_1 k m _ _ | rfl
theorem ok_18_1 {R : Type} (T : St) (k : Ex → St → Option R) (r : R) (h0 : o_18_1 G_18_1 T k = some r) : evLoopN (evCode sm_18 FU (evFn sm_18 fns FU 0) ir18_b1) (St.norm ir18_v1) FU T k = some r := by
  obtain ⟨p0, p1, rfl, h⟩ := o_18_1_inv h0
  refine evLoopN_L (t := .nil) noO_ok trivial _ _ _ _ ?_
  rw [loop_18_1]
  exact h
theorem OK_18_18_1 {R : Type} (T : St) (k : Ex → St → Option R) (r : R) (h : O_18_18_1 T k = some r) : evLoopN (evCode sm_18 FU (evFn sm_18 fns FU 0) ir18_b1) (St.norm ir18_v1) FU T k = some r := ok_18_1 T k r h
theorem body_18_0 {R : Type} (K1 : Ex → St → Option R) (p0 : Zt18_0) : evJ (evCodeL sm_18 FU (ovr noO (evFn sm_18 fns FU 0)) (ir18_bt0 O_18_18_1) ir18_b0) (T_18_0 p0) K1 =
  Sp.B_18_1 (Sp.L_18_1 (4611686018427387904 : Nat) (0 : Int) p0) (K1 Ex.ret X_18_0_0) (K1 Ex.ret X_18_0_1) := by kernel_rfl
theorem Bgd_18_0 {R : Type} {c : Bool} {x : Option R} {y : Option Sp.E_18_0} {k0 : Option R} {k1 : Option R} (h : x = Sp.B_18_0 y k0 k1) : gd c x = Sp.B_18_0 (gd c y) k0 k1 := by cases c; rfl; exact h
theorem Bcond_18_0 {R : Type} {c : Bool} {x x' : Option R} {y y' : Option Sp.E_18_0} {k0 : Option R} {k1 : Option R} (h : x = Sp.B_18_0 y k0 k1) (h' : x' = Sp.B_18_0 y' k0 k1) : (bif c then x else x') = Sp.B_18_0 (bif c then y else y') k0 k1 := by cases c; exact h'; exact h
theorem Bin_18_0_18_1 {R : Type} {r : Option Sp.E_18_1} {k0 : Option R} {k1 : Option R} {f0 : Option R} {f1 : Option R} {g0 : Option Sp.E_18_0} {g1 : Option Sp.E_18_0} (h0 : f0 = Sp.B_18_0 g0 k0 k1) (h1 : f1 = Sp.B_18_0 g1 k0 k1) : Sp.B_18_1 r f0 f1 = Sp.B_18_0 (Sp.B_18_1 r g0 g1) k0 k1 := by
  cases r with
  | none => rfl
  | some e => cases e with
    | e0 => exact h0
    | e1 => exact h1
theorem loop_18_0 {R : Type} (k : Ex → St → Option R) (p0 : Zt18_0) : evJ (evCodeL sm_18 FU (ovr noO (evFn sm_18 fns FU 0)) (ir18_bt0 O_18_18_1) ir18_b0) (T_18_0 p0) k = Sp.B_18_0 (Sp.J_18_0 p0) (k Ex.ret (X_18_0_0)) (k Ex.ret (X_18_0_1)) := by
  rw [body_18_0, Sp.J_18_0]
  repeat' first | apply Bgd_18_0 | apply Bcond_18_0 | (apply Bin_18_0_18_1 <;> intros) | rfl
theorem ok_18_0 {R : Type} (T : St) (k : Ex → St → Option R) (r : R) (h0 : o_18_0 G_18_0 T k = some r) : evCode sm_18 FU (evFn sm_18 fns FU 0) ir18_b0 T k = some r := by
  obtain ⟨p0, rfl, h⟩ := o_18_0_inv h0
  refine bodyL_sound (t := (ir18_bt0 O_18_18_1)) noO_ok (ir18_bt0ok (fun T k r => OK_18_18_1 T k r)) (((show ∀ (b : St → (Ex → St → Option R) → Option R) (T : St) (k : Ex → St → Option R), b T k = evJ b T k from fun _ _ _ => rfl) _ _ _).trans ((loop_18_0 k p0).trans h))
theorem OK_18_18_0 {R : Type} (T : St) (k : Ex → St → Option R) (r : R) (h : O_18_18_0 T k = some r) : evCode sm_18 FU (evFn sm_18 fns FU 0) ir18_b0 T k = some r := ok_18_0 T k r h
def F_18 (a0 : ((List (Int × (Int × (Int × (Int × (Int × (Int × (Bool × (Int × Unit))))))))) × ((List (Int × (Int × (Int × (Int × (Int × ((List Int) × (Int × Unit)))))))) × (Int × (Bool × Unit))))) : Option (Bool × Unit) :=
  gd (Sp.p_12 (a0.1)) (bif (Sp.v_12 (a0.1)).1 != (0 : Int) then some (false, PUnit.unit) else bif (↑(List.length (a0.2.1)) : Int) != (↑(List.length (a0.1)) : Int) then some (false, PUnit.unit) else gd (Sp.p_26 (a0.2.2.1) (0 : Int) (1073741824 : Int)) (bif !(Sp.v_26 (a0.2.2.1) (0 : Int) (1073741824 : Int)).1 then some (false, PUnit.unit) else bif a0.2.2.2.1 then bif decide (a0.2.2.1 < (1 : Int)) then some (false, PUnit.unit) else Sp.B_18_0 (Sp.J_18_0 a0) (some (false, PUnit.unit)) (some (true, PUnit.unit)) else Sp.B_18_0 (Sp.J_18_0 a0) (some (false, PUnit.unit)) (some (true, PUnit.unit))))
theorem fn_18 (a0 : ((List (Int × (Int × (Int × (Int × (Int × (Int × (Bool × (Int × Unit))))))))) × ((List (Int × (Int × (Int × (Int × (Int × ((List Int) × (Int × Unit)))))))) × (Int × (Bool × Unit))))) : evFnL sm_18 FU (ovr noO (evFn sm_18 fns FU 0)) (ir18_t O_18_18_0) ir18 (ofH [Zy18_1] (a0, ())) [] (pureK [.bool]) = F_18 a0 := by kernel_rfl
def Sp.p_18 (a0 : ((List (Int × (Int × (Int × (Int × (Int × (Int × (Bool × (Int × Unit))))))))) × ((List (Int × (Int × (Int × (Int × (Int × ((List Int) × (Int × Unit)))))))) × (Int × (Bool × Unit))))) : Bool := (F_18 a0).isSome
def Sp.v_18 (a0 : ((List (Int × (Int × (Int × (Int × (Int × (Int × (Bool × (Int × Unit))))))))) × ((List (Int × (Int × (Int × (Int × (Int × ((List Int) × (Int × Unit)))))))) × (Int × (Bool × Unit))))) : Bool × Unit := (F_18 a0).getD (dfH [.bool])
def s_18 : Summ := shN [Zy18_1] [.bool] (fun x => Sp.p_18 x.1) (fun x => Sp.v_18 x.1)
theorem pv_18 (a0 : ((List (Int × (Int × (Int × (Int × (Int × (Int × (Bool × (Int × Unit))))))))) × ((List (Int × (Int × (Int × (Int × (Int × ((List Int) × (Int × Unit)))))))) × (Int × (Bool × Unit))))) {y : Bool × Unit} (h : F_18 a0 = some y) : Sp.p_18 a0 = true ∧ Sp.v_18 a0 = y := ⟨by rw [Sp.p_18, h]; rfl, by rw [Sp.v_18, h]; rfl⟩
theorem run_18 (x : HDen [Zy18_1]) (y : HDen [.bool]) (h : F_18 x.1 = some y) : evFn sm_18 fns FU 1 18 (ofH [Zy18_1] x) [] (pureK [.bool]) = some y :=
  evFnL_sound (fn := ir18) (t := (ir18_t O_18_18_0)) (o := noO) rfl noO_ok (ir18_tok (fun T k r => OK_18_18_0 T k r)) ((fn_18 _).trans h)
end
end Go.Ev
