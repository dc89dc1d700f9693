/- Helpers: functions of the program as Lean functions, and what they compute. No condition. -/
import Derived.Test.YtjfmjhfdonpnmaaE4P2
import Derived.Test.YtjfmjhfdonpnmaaG4P1
import Derived.Test.YtjfmjhfdonpnmaaG4P2
import Derived.Test.YtjfmjhfdonpnmaaProg
import Derived.Test.YtjfmjhfdonpnmaaG4P0
set_option maxRecDepth 10000
set_option linter.unusedVariables false
set_option linter.unusedSimpArgs false
namespace Go.Ev
open Go
set_option maxRecDepth 100000
set_option maxHeartbeats 4000000
set_option linter.unusedVariables false
noncomputable section
abbrev Zy4_0 : Ty := (Ty.pair (Ty.int IntKind.i64) (Ty.pair (Ty.int IntKind.i64) (Ty.pair (Ty.slice (Ty.int IntKind.i64)) (Ty.pair (Ty.int IntKind.i64) Ty.unit))))
abbrev Zt4_1 : Type := List (List Int × Int × Int × List Int × Int × Unit)
abbrev Zt4_2 : Type := List (Int × List Int × Unit)
abbrev Zy4_3 : Ty := (Ty.pair (Ty.int IntKind.i64) (Ty.pair (Ty.slice (Ty.int IntKind.i64)) Ty.unit))
abbrev Zy4_4 : Ty := (Ty.slice (Ty.pair (Ty.int IntKind.i64) (Ty.pair (Ty.slice (Ty.int IntKind.i64)) Ty.unit)))
abbrev Zy4_5 : Ty := (.pair (.int .i64) (.pair (.int .i64) (.pair (.slice (.int .i64)) (.pair (.int .i64) .unit))))
abbrev Zy4_6 : Ty := (.slice (.pair (.int .i64) (.pair (.slice (.int .i64)) .unit)))

abbrev s4_16 : Summ := vecS (.pair (.int .i64) (.pair (.slice (.int .i64)) .unit)) 37 32
noncomputable def sm_4 : Nat → Option Summ := fun f => bif Nat.beq f 8 then some s_8 else bif Nat.beq f 9 then some s_9 else bif Nat.beq f 10 then some s_10 else bif Nat.beq f 16 then some s4_16 else none
noncomputable def T_4_20_0_0 (p0 : Zt4_2) (p1 : Int) (p2 : Int) (p3 : Zt4_1) : St := St.mk ([CV.pure Zy4_4 p0, CV.clo (15 : Nat) (CV.pair (CV.ptr (0 : Nat) []) (CV.pure Ty.unit PUnit.unit)), jk, jk, jk, jk, jk, CV.int IntKind.i64 p1, CV.int IntKind.i64 p2] ++ (jl 10)) [Blk.mem (CV.pure (Ty.slice (Ty.pair Ty.str Zy4_0)) p3)] (1 : Nat)
noncomputable def X_4_20_0_0_0 (p2 : Int) (p3 : Zt4_1) : St := St.mk ([jk, jk, jk, jk, CV.int IntKind.i64 p2] ++ (jl 14)) [Blk.mem (CV.pure (Ty.slice (Ty.pair Ty.str Zy4_0)) p3)] (1 : Nat)
noncomputable def X_4_20_0_0_1 (p3 : Zt4_1) : St := St.mk (jl 19) [Blk.mem (CV.pure (Ty.slice (Ty.pair Ty.str Zy4_0)) p3)] (1 : Nat)
inductive Sp.E_4_20_0_0 where
  | e0 (p2 : Int) (p3 : Zt4_1)
  | e1 (p3 : Zt4_1)
noncomputable def Sp.B_4_20_0_0 {R : Type} (r : Option Sp.E_4_20_0_0) (k0 : (Int) → (Zt4_1) → Option R) (k1 : (Zt4_1) → Option R) : Option R := match r with
  | none => none
  | some (.e0 p2 p3) => k0 p2 p3
  | some (.e1 p3) => k1 p3
noncomputable def Sp.L_4_20_0_0 : Nat → (List (Int × List Int × Unit)) → (Int) → (Int) → (List (List Int × Int × Int × List Int × Int × Unit)) → Option Sp.E_4_20_0_0
  | 0, _, _, _, _ => none
  | m + 1, p0, p1, p2, p3 => bif decide (p2 < p1) then gd (inB p2 (List.length p0)) (bif decide ((List.getD p0 (Int.toNat p2) Zd0).1 < (0 : Int)) then some (Sp.E_4_20_0_0.e0 p2 p3) else bif decide ((List.getD p0 (Int.toNat p2) Zd0).1 ≥ (↑(List.length p3) : Int)) then some (Sp.E_4_20_0_0.e0 p2 p3) else Sp.L_4_20_0_0 m p0 p1 (IntKind.wrap IntKind.i64 (p2 + (1 : Int))) p3) else some (Sp.E_4_20_0_0.e1 p3)
noncomputable def G_4_20_0_0 {R : Type} (p0 : Zt4_2) (p1 : Int) (p2 : Int) (p3 : Zt4_1) (k : Ex → St → Option R) : Option R := Sp.B_4_20_0_0 (Sp.L_4_20_0_0 FU p0 p1 p2 p3) (fun p2 p3 => k Ex.ret (X_4_20_0_0_0 p2 p3)) (fun p3 => k (Ex.exit (0 : Nat)) (X_4_20_0_0_1 p3))
noncomputable def o_4_20_0_0 {R : Type} (G : (Zt4_2) → (Int) → (Int) → (Zt4_1) → (Ex → St → Option R) → Option R) : St → (Ex → St → Option R) → Option R := fun T k => match T.sl.getD 0 .junk, T.sl.getD 1 .junk, T.sl.getD 7 .junk, T.sl.getD 8 .junk, T.hp with
  | CV.pure (Ty.slice (Ty.pair (Ty.int IntKind.i64) (Ty.pair (Ty.slice (Ty.int IntKind.i64)) Ty.unit))) p0, CV.clo (15 : Nat) (CV.pair (CV.ptr (0 : Nat) []) (CV.pure Ty.unit PUnit.unit)), CV.int IntKind.i64 p1, CV.int IntKind.i64 p2, ((Blk.mem (CV.pure (Ty.slice (Ty.pair Ty.str (Ty.pair (Ty.int IntKind.i64) (Ty.pair (Ty.int IntKind.i64) (Ty.pair (Ty.slice (Ty.int IntKind.i64)) (Ty.pair (Ty.int IntKind.i64) Ty.unit)))))) p3)) :: []) => gd (shapeOK T 19 [0, 1, 7, 8] (1 : Nat)) (G p0 p1 p2 p3 k)
  | _, _, _, _, _ => none
theorem o_4_20_0_0_inv {R : Type} {G : (Zt4_2) → (Int) → (Int) → (Zt4_1) → (Ex → St → Option R) → Option R} {T : St} {k : Ex → St → Option R} {r : R} (h : o_4_20_0_0 G T k = some r) : ∃ p0 p1 p2 p3, T = T_4_20_0_0 p0 p1 p2 p3 ∧ G p0 p1 p2 p3 k = some r := by
  unfold o_4_20_0_0 at h
  split at h
  · obtain ⟨hs, h'⟩ := gd_some h
    refine ⟨_, _, _, _, (st_of (asg := [(0, _), (1, _), (7, _), (8, _)]) hs ⟨by assumption, by assumption, by assumption, by assumption, trivial⟩ (by assumption)).trans ?_, h'⟩
    kernel_rfl
  · cases h
noncomputable def T_4_0 (p0 : Zt4_2) (p1 : Int) (p2 : Int) (p3 : Int) (p4 : Int) (p5 : Int) (p6 : Zt4_2) (p7 : Int) (p8 : Int) (p9 : Zt4_1) : St := St.mk ([jk, CV.pure Zy4_4 p0, jk, CV.int IntKind.i64 p1, CV.int IntKind.u8 p2, CV.ptr (0 : Nat) [], jk, jk, jk, jk, jk, CV.int IntKind.i64 p3, CV.int IntKind.i64 p4, jk, CV.int IntKind.i64 p5] ++ (jl 48 ++ ([CV.pure Zy4_4 p6, CV.int IntKind.i64 p7, CV.int IntKind.i64 p8] ++ (jl 110)))) [Blk.mem (CV.pure (Ty.slice (Ty.pair Ty.str Zy4_0)) p9)] (0 : Nat)
noncomputable def X_4_0_0 (p0 : Zt4_2) (p1 : Int) (p2 : Int) (p3 : Int) (p4 : Int) (p5 : Int) (p9 : Zt4_1) : St := St.mk ([jk, CV.pure Zy4_4 p0, jk, CV.int IntKind.i64 p1, CV.int IntKind.u8 p2, CV.ptr (0 : Nat) [], jk, jk, jk, jk, jk, CV.int IntKind.i64 p3, CV.int IntKind.i64 p4, jk, CV.int IntKind.i64 p5] ++ (jl 161)) [Blk.mem (CV.pure (Ty.slice (Ty.pair Ty.str Zy4_0)) p9)] (0 : Nat)
inductive Sp.E_4_0 where
  | e0 (p0 : Zt4_2) (p1 : Int) (p2 : Int) (p3 : Int) (p4 : Int) (p5 : Int) (p9 : Zt4_1)
noncomputable def Sp.B_4_0 {R : Type} (r : Option Sp.E_4_0) (k0 : (Zt4_2) → (Int) → (Int) → (Int) → (Int) → (Int) → (Zt4_1) → Option R) : Option R := match r with
  | none => none
  | some (.e0 p0 p1 p2 p3 p4 p5 p9) => k0 p0 p1 p2 p3 p4 p5 p9
noncomputable def Sp.L_4_0 : Nat → (List (Int × List Int × Unit)) → (Int) → (Int) → (Int) → (Int) → (Int) → (List (Int × List Int × Unit)) → (Int) → (Int) → (List (List Int × Int × Int × List Int × Int × Unit)) → Option Sp.E_4_0
  | 0, _, _, _, _, _, _, _, _, _, _ => none
  | m + 1, p0, p1, p2, p3, p4, p5, p6, p7, p8, p9 => bif decide (p8 < p7) then gd (inB p8 (List.length p6)) (gd (inB ((List.getD p6 (Int.toNat p8) Zd0).1) (List.length p9)) (bif (List.getD p9 (Int.toNat ((List.getD p6 (Int.toNat p8) Zd0).1)) (Ty.dflt (Ty.pair Ty.str (Ty.pair (Ty.int IntKind.i64) (Ty.pair (Ty.int IntKind.i64) (Ty.pair (Ty.slice (Ty.int IntKind.i64)) (Ty.pair (Ty.int IntKind.i64) Ty.unit))))))).2.1 == p3 then Sp.L_4_0 m p0 p1 p2 p3 p4 (if (List.getD p9 (Int.toNat ((List.getD p6 (Int.toNat p8) Zd0).1)) (Ty.dflt (Ty.pair Ty.str (Ty.pair (Ty.int IntKind.i64) (Ty.pair (Ty.int IntKind.i64) (Ty.pair (Ty.slice (Ty.int IntKind.i64)) (Ty.pair (Ty.int IntKind.i64) Ty.unit))))))).2.2.1 > p5 then (List.getD p9 (Int.toNat ((List.getD p6 (Int.toNat p8) Zd0).1)) (Ty.dflt (Ty.pair Ty.str (Ty.pair (Ty.int IntKind.i64) (Ty.pair (Ty.int IntKind.i64) (Ty.pair (Ty.slice (Ty.int IntKind.i64)) (Ty.pair (Ty.int IntKind.i64) Ty.unit))))))).2.2.1 else p5) p6 p7 (IntKind.wrap IntKind.i64 (p8 + (1 : Int))) p9 else Sp.L_4_0 m p0 p1 p2 p3 p4 p5 p6 p7 (IntKind.wrap IntKind.i64 (p8 + (1 : Int))) p9)) else some (Sp.E_4_0.e0 p0 p1 p2 p3 p4 p5 p9)
noncomputable def G_4_0 {R : Type} (p0 : Zt4_2) (p1 : Int) (p2 : Int) (p3 : Int) (p4 : Int) (p5 : Int) (p6 : Zt4_2) (p7 : Int) (p8 : Int) (p9 : Zt4_1) (k : Ex → St → Option R) : Option R := Sp.B_4_0 (Sp.L_4_0 FU p0 p1 p2 p3 p4 p5 p6 p7 p8 p9) (fun p0 p1 p2 p3 p4 p5 p9 => k (Ex.exit (0 : Nat)) (X_4_0_0 p0 p1 p2 p3 p4 p5 p9))
noncomputable def o_4_0 {R : Type} (G : (Zt4_2) → (Int) → (Int) → (Int) → (Int) → (Int) → (Zt4_2) → (Int) → (Int) → (Zt4_1) → (Ex → St → Option R) → Option R) : St → (Ex → St → Option R) → Option R := fun T k => match T.sl.getD 1 .junk, T.sl.getD 3 .junk, T.sl.getD 4 .junk, T.sl.getD 5 .junk, T.sl.getD 11 .junk, T.sl.getD 12 .junk, T.sl.getD 14 .junk, T.sl.getD 63 .junk, T.sl.getD 64 .junk, T.sl.getD 65 .junk, T.hp with
  | CV.pure (Ty.slice (Ty.pair (Ty.int IntKind.i64) (Ty.pair (Ty.slice (Ty.int IntKind.i64)) Ty.unit))) p0, CV.int IntKind.i64 p1, CV.int IntKind.u8 p2, CV.ptr (0 : Nat) [], CV.int IntKind.i64 p3, CV.int IntKind.i64 p4, CV.int IntKind.i64 p5, CV.pure (Ty.slice (Ty.pair (Ty.int IntKind.i64) (Ty.pair (Ty.slice (Ty.int IntKind.i64)) Ty.unit))) p6, CV.int IntKind.i64 p7, CV.int IntKind.i64 p8, ((Blk.mem (CV.pure (Ty.slice (Ty.pair Ty.str (Ty.pair (Ty.int IntKind.i64) (Ty.pair (Ty.int IntKind.i64) (Ty.pair (Ty.slice (Ty.int IntKind.i64)) (Ty.pair (Ty.int IntKind.i64) Ty.unit)))))) p9)) :: []) => gd (shapeOK T 176 [1, 3, 4, 5, 11, 12, 14, 63, 64, 65] (0 : Nat)) (G p0 p1 p2 p3 p4 p5 p6 p7 p8 p9 k)
  | _, _, _, _, _, _, _, _, _, _, _ => none
theorem o_4_0_inv {R : Type} {G : (Zt4_2) → (Int) → (Int) → (Int) → (Int) → (Int) → (Zt4_2) → (Int) → (Int) → (Zt4_1) → (Ex → St → Option R) → Option R} {T : St} {k : Ex → St → Option R} {r : R} (h : o_4_0 G T k = some r) : ∃ p0 p1 p2 p3 p4 p5 p6 p7 p8 p9, T = T_4_0 p0 p1 p2 p3 p4 p5 p6 p7 p8 p9 ∧ G p0 p1 p2 p3 p4 p5 p6 p7 p8 p9 k = some r := by
  unfold o_4_0 at h
  split at h
  · obtain ⟨hs, h'⟩ := gd_some h
    refine ⟨_, _, _, _, _, _, _, _, _, _, (st_of (asg := [(1, _), (3, _), (4, _), (5, _), (11, _), (12, _), (14, _), (63, _), (64, _), (65, _)]) hs ⟨by assumption, by assumption, by assumption, by assumption, by assumption, by assumption, by assumption, by assumption, by assumption, by assumption, trivial⟩ (by assumption)).trans ?_, h'⟩
    kernel_rfl
  · cases h
noncomputable def T_4_1 (p0 : Zt4_2) (p1 : Int) (p2 : Int) (p3 : Int) (p4 : Int) (p5 : Int) (p6 : Bool) (p7 : Zt4_2) (p8 : Int) (p9 : Int) (p10 : Zt4_1) : St := St.mk ([jk, CV.pure Zy4_4 p0, jk, CV.int IntKind.i64 p1, CV.int IntKind.u8 p2, CV.ptr (0 : Nat) [], jk, jk, jk, jk, jk, CV.int IntKind.i64 p3, CV.int IntKind.i64 p4, jk, CV.int IntKind.i64 p5, jk, jk, jk, CV.bool p6] ++ (jl 69 ++ ([CV.pure Zy4_4 p7, CV.int IntKind.i64 p8, CV.int IntKind.i64 p9] ++ (jl 85)))) [Blk.mem (CV.pure (Ty.slice (Ty.pair Ty.str Zy4_0)) p10)] (0 : Nat)
noncomputable def X_4_1_0 : St := St.mk (jl 10 ++ ([CV.bool false] ++ (jl 165))) [] (0 : Nat)
noncomputable def X_4_1_1 (p0 : Zt4_2) (p1 : Int) (p2 : Int) (p3 : Int) (p4 : Int) (p5 : Int) (p6 : Bool) (p10 : Zt4_1) : St := St.mk ([jk, CV.pure Zy4_4 p0, jk, CV.int IntKind.i64 p1, CV.int IntKind.u8 p2, CV.ptr (0 : Nat) [], jk, jk, jk, jk, jk, CV.int IntKind.i64 p3, CV.int IntKind.i64 p4, jk, CV.int IntKind.i64 p5, jk, jk, jk, CV.bool p6] ++ (jl 157)) [Blk.mem (CV.pure (Ty.slice (Ty.pair Ty.str Zy4_0)) p10)] (0 : Nat)
inductive Sp.E_4_1 where
  | e0
  | e1 (p0 : Zt4_2) (p1 : Int) (p2 : Int) (p3 : Int) (p4 : Int) (p5 : Int) (p6 : Bool) (p10 : Zt4_1)
noncomputable def Sp.B_4_1 {R : Type} (r : Option Sp.E_4_1) (k0 : Option R) (k1 : (Zt4_2) → (Int) → (Int) → (Int) → (Int) → (Int) → (Bool) → (Zt4_1) → Option R) : Option R := match r with
  | none => none
  | some (.e0) => k0
  | some (.e1 p0 p1 p2 p3 p4 p5 p6 p10) => k1 p0 p1 p2 p3 p4 p5 p6 p10
noncomputable def Sp.L_4_1 : Nat → (List (Int × List Int × Unit)) → (Int) → (Int) → (Int) → (Int) → (Int) → (Bool) → (List (Int × List Int × Unit)) → (Int) → (Int) → (List (List Int × Int × Int × List Int × Int × Unit)) → Option Sp.E_4_1
  | 0, _, _, _, _, _, _, _, _, _, _, _ => none
  | m + 1, p0, p1, p2, p3, p4, p5, p6, p7, p8, p9, p10 => bif decide (p9 < p8) then gd (inB p9 (List.length p7)) (gd (inB ((List.getD p7 (Int.toNat p9) Zd0).1) (List.length p10)) (bif (List.getD p10 (Int.toNat ((List.getD p7 (Int.toNat p9) Zd0).1)) (Ty.dflt (Ty.pair Ty.str (Ty.pair (Ty.int IntKind.i64) (Ty.pair (Ty.int IntKind.i64) (Ty.pair (Ty.slice (Ty.int IntKind.i64)) (Ty.pair (Ty.int IntKind.i64) Ty.unit))))))).2.1 == p3 then bif (List.getD p10 (Int.toNat ((List.getD p7 (Int.toNat p9) Zd0).1)) (Ty.dflt (Ty.pair Ty.str (Ty.pair (Ty.int IntKind.i64) (Ty.pair (Ty.int IntKind.i64) (Ty.pair (Ty.slice (Ty.int IntKind.i64)) (Ty.pair (Ty.int IntKind.i64) Ty.unit))))))).2.2.1 == p5 then bif decide (p4 > (List.getD p10 (Int.toNat ((List.getD p7 (Int.toNat p9) Zd0).1)) (Ty.dflt (Ty.pair Ty.str (Ty.pair (Ty.int IntKind.i64) (Ty.pair (Ty.int IntKind.i64) (Ty.pair (Ty.slice (Ty.int IntKind.i64)) (Ty.pair (Ty.int IntKind.i64) Ty.unit))))))).2.2.2.2.1) then some (Sp.E_4_1.e0) else bif p6 then Sp.L_4_1 m p0 p1 p2 p3 p4 p5 true p7 p8 (IntKind.wrap IntKind.i64 (p9 + (1 : Int))) p10 else Sp.L_4_1 m p0 p1 p2 p3 p4 p5 (p4 == (List.getD p10 (Int.toNat ((List.getD p7 (Int.toNat p9) Zd0).1)) (Ty.dflt (Ty.pair Ty.str (Ty.pair (Ty.int IntKind.i64) (Ty.pair (Ty.int IntKind.i64) (Ty.pair (Ty.slice (Ty.int IntKind.i64)) (Ty.pair (Ty.int IntKind.i64) Ty.unit))))))).2.2.2.2.1) p7 p8 (IntKind.wrap IntKind.i64 (p9 + (1 : Int))) p10 else Sp.L_4_1 m p0 p1 p2 p3 p4 p5 p6 p7 p8 (IntKind.wrap IntKind.i64 (p9 + (1 : Int))) p10 else Sp.L_4_1 m p0 p1 p2 p3 p4 p5 p6 p7 p8 (IntKind.wrap IntKind.i64 (p9 + (1 : Int))) p10)) else some (Sp.E_4_1.e1 p0 p1 p2 p3 p4 p5 p6 p10)
noncomputable def G_4_1 {R : Type} (p0 : Zt4_2) (p1 : Int) (p2 : Int) (p3 : Int) (p4 : Int) (p5 : Int) (p6 : Bool) (p7 : Zt4_2) (p8 : Int) (p9 : Int) (p10 : Zt4_1) (k : Ex → St → Option R) : Option R := Sp.B_4_1 (Sp.L_4_1 FU p0 p1 p2 p3 p4 p5 p6 p7 p8 p9 p10) (k Ex.ret (X_4_1_0)) (fun p0 p1 p2 p3 p4 p5 p6 p10 => k (Ex.exit (2 : Nat)) (X_4_1_1 p0 p1 p2 p3 p4 p5 p6 p10))
noncomputable def o_4_1 {R : Type} (G : (Zt4_2) → (Int) → (Int) → (Int) → (Int) → (Int) → (Bool) → (Zt4_2) → (Int) → (Int) → (Zt4_1) → (Ex → St → Option R) → Option R) : St → (Ex → St → Option R) → Option R := fun T k => match T.sl.getD 1 .junk, T.sl.getD 3 .junk, T.sl.getD 4 .junk, T.sl.getD 5 .junk, T.sl.getD 11 .junk, T.sl.getD 12 .junk, T.sl.getD 14 .junk, T.sl.getD 18 .junk, T.sl.getD 88 .junk, T.sl.getD 89 .junk, T.sl.getD 90 .junk, T.hp with
  | CV.pure (Ty.slice (Ty.pair (Ty.int IntKind.i64) (Ty.pair (Ty.slice (Ty.int IntKind.i64)) Ty.unit))) p0, CV.int IntKind.i64 p1, CV.int IntKind.u8 p2, CV.ptr (0 : Nat) [], CV.int IntKind.i64 p3, CV.int IntKind.i64 p4, CV.int IntKind.i64 p5, CV.bool p6, CV.pure (Ty.slice (Ty.pair (Ty.int IntKind.i64) (Ty.pair (Ty.slice (Ty.int IntKind.i64)) Ty.unit))) p7, CV.int IntKind.i64 p8, CV.int IntKind.i64 p9, ((Blk.mem (CV.pure (Ty.slice (Ty.pair Ty.str (Ty.pair (Ty.int IntKind.i64) (Ty.pair (Ty.int IntKind.i64) (Ty.pair (Ty.slice (Ty.int IntKind.i64)) (Ty.pair (Ty.int IntKind.i64) Ty.unit)))))) p10)) :: []) => gd (shapeOK T 176 [1, 3, 4, 5, 11, 12, 14, 18, 88, 89, 90] (0 : Nat)) (G p0 p1 p2 p3 p4 p5 p6 p7 p8 p9 p10 k)
  | _, _, _, _, _, _, _, _, _, _, _, _ => none
theorem o_4_1_inv {R : Type} {G : (Zt4_2) → (Int) → (Int) → (Int) → (Int) → (Int) → (Bool) → (Zt4_2) → (Int) → (Int) → (Zt4_1) → (Ex → St → Option R) → Option R} {T : St} {k : Ex → St → Option R} {r : R} (h : o_4_1 G T k = some r) : ∃ p0 p1 p2 p3 p4 p5 p6 p7 p8 p9 p10, T = T_4_1 p0 p1 p2 p3 p4 p5 p6 p7 p8 p9 p10 ∧ G p0 p1 p2 p3 p4 p5 p6 p7 p8 p9 p10 k = some r := by
  unfold o_4_1 at h
  split at h
  · obtain ⟨hs, h'⟩ := gd_some h
    refine ⟨_, _, _, _, _, _, _, _, _, _, _, (st_of (asg := [(1, _), (3, _), (4, _), (5, _), (11, _), (12, _), (14, _), (18, _), (88, _), (89, _), (90, _)]) hs ⟨by assumption, by assumption, by assumption, by assumption, by assumption, by assumption, by assumption, by assumption, by assumption, by assumption, by assumption, trivial⟩ (by assumption)).trans ?_, h'⟩
    kernel_rfl
  · cases h
noncomputable def O_4_20_0 {R : Type} : St → (Ex → St → Option R) → Option R := fun T k => o_4_20_0_0 G_4_20_0_0 T k
noncomputable def O_4_4_0 {R : Type} : St → (Ex → St → Option R) → Option R := fun T k => o_4_0 G_4_0 T k
noncomputable def O_4_4_1 {R : Type} : St → (Ex → St → Option R) → Option R := fun T k => o_4_1 G_4_1 T k
noncomputable def g_4_20 {R : Type} : List CV → List Blk → (CV → List Blk → Option R) → Option R := evFnL sm_4 FU (ovr noO (evFn sm_4 fns FU 1)) (ir20_t O_4_20_0) ir20
noncomputable def g_4_12 {R : Type} : List CV → List Blk → (CV → List Blk → Option R) → Option R := evFnL sm_4 FU (ovr (fun f' => bif Nat.beq f' 20 then some (g_4_20) else none) (evFn sm_4 fns FU 2)) .nil ir12
theorem body_4_20_0_0 {R : Type} (K0 : St → Option R) (K1 : Ex → St → Option R) (p0 : Zt4_2) (p1 : Int) (p2 : Int) (p3 : Zt4_1) : evLB (evCodeL sm_4 FU (ovr noO (evFn sm_4 fns FU 1)) .nil ir20_b0) (St.norm ir20_v0) (T_4_20_0_0 p0 p1 p2 p3) K0 K1 =
  bif decide (p2 < p1) then gd (inB p2 (List.length p0)) (bif decide ((List.getD p0 (Int.toNat p2) (Ty.dflt Zy4_3)).1 < (0 : Int)) then K1 Ex.ret (X_4_20_0_0_0 p2 p3) else bif decide ((List.getD p0 (Int.toNat p2) (Ty.dflt Zy4_3)).1 ≥ (↑(List.length p3) : Int)) then K1 Ex.ret (X_4_20_0_0_0 p2 p3) else K0 (T_4_20_0_0 p0 p1 (IntKind.wrap IntKind.i64 (p2 + (1 : Int))) p3)) else K1 (Ex.exit (0 : Nat)) (X_4_20_0_0_1 p3) := by kernel_rfl
theorem Bgd_4_20_0_0 {R : Type} {c : Bool} {x : Option R} {y : Option Sp.E_4_20_0_0} {k0 : (Int) → (Zt4_1) → Option R} {k1 : (Zt4_1) → Option R} (h : x = Sp.B_4_20_0_0 y k0 k1) : gd c x = Sp.B_4_20_0_0 (gd c y) k0 k1 := by cases c; rfl; exact h
theorem Bcond_4_20_0_0 {R : Type} {c : Bool} {x x' : Option R} {y y' : Option Sp.E_4_20_0_0} {k0 : (Int) → (Zt4_1) → Option R} {k1 : (Zt4_1) → Option R} (h : x = Sp.B_4_20_0_0 y k0 k1) (h' : x' = Sp.B_4_20_0_0 y' k0 k1) : (bif c then x else x') = Sp.B_4_20_0_0 (bif c then y else y') k0 k1 := by cases c; exact h'; exact h
theorem loop_4_20_0_0 {R : Type} (k : Ex → St → Option R) : ∀ (m : Nat) (p0 : Zt4_2) (p1 : Int) (p2 : Int) (p3 : Zt4_1), evLoopN (evCodeL sm_4 FU (ovr noO (evFn sm_4 fns FU 1)) .nil ir20_b0) (St.norm ir20_v0) m (T_4_20_0_0 p0 p1 p2 p3) k = Sp.B_4_20_0_0 (Sp.L_4_20_0_0 m p0 p1 p2 p3) (fun p2 p3 => k Ex.ret (X_4_20_0_0_0 p2 p3)) (fun p3 => k (Ex.exit (0 : Nat)) (X_4_20_0_0_1 p3))
  | 0, _, _, _, _ => rfl
  | m + 1, p0, p1, p2, p3 => by
    rw [evLoopN_succ, body_4_20_0_0, Sp.L_4_20_0_0]
    repeat' first | apply Bgd_4_20_0_0 | apply Bcond_4_20_0_0 | exact loop_4_20_0_0 k m _ _ _ _ | rfl
theorem ok_4_20_0_0 {R : Type} (T : St) (k : Ex → St → Option R) (r : R) (h0 : o_4_20_0_0 G_4_20_0_0 T k = some r) : evLoopN (evCode sm_4 FU (evFn sm_4 fns FU 1) ir20_b0) (St.norm ir20_v0) FU T k = some r := by
  obtain ⟨p0, p1, p2, p3, rfl, h⟩ := o_4_20_0_0_inv h0
  refine evLoopN_L (t := .nil) noO_ok trivial _ _ _ _ ?_
  rw [loop_4_20_0_0]
  exact h
theorem OK_4_20_0 {R : Type} (T : St) (k : Ex → St → Option R) (r : R) (h : O_4_20_0 T k = some r) : evLoopN (evCode sm_4 FU (evFn sm_4 fns FU 1) ir20_b0) (St.norm ir20_v0) FU T k = some r := ok_4_20_0_0 T k r h
theorem g_4_20_ok {R : Type} (args : List CV) (hp : List Blk) (k : CV → List Blk → Option R) (r : R) (h : g_4_20 args hp k = some r) : evFn sm_4 fns FU 2 20 args hp k = some r :=
  evFnL_sound (fn := ir20) (t := (ir20_t O_4_20_0)) (o := noO) rfl noO_ok (ir20_tok (fun T k r => OK_4_20_0 T k r)) h
theorem ov_4_12_ok {R : Type} : OvrOK (R := R) (fun f' => bif Nat.beq f' 20 then some (g_4_20) else none) (evFn sm_4 fns FU 2) := by
  intro f' g h args hp k r hg
  dsimp only at h
  by_cases h20 : f' = 20
  · subst h20
    injection h with h
    subst h
    exact evFn_le 0 (g_4_20_ok _ _ _ _ hg)
  rw [nbeq_ne h20, cond_false] at h
  cases h
theorem g_4_12_ok {R : Type} (args : List CV) (hp : List Blk) (k : CV → List Blk → Option R) (r : R) (h : g_4_12 args hp k = some r) : evFn sm_4 fns FU 3 12 args hp k = some r :=
  evFnL_sound (fn := ir12) (t := .nil) (o := (fun f' => bif Nat.beq f' 20 then some (g_4_20) else none)) rfl ov_4_12_ok trivial h
theorem ov_4_4_ok {R : Type} : OvrOK (R := R) (fun f' => bif Nat.beq f' 12 then some (g_4_12) else none) (evFn sm_4 fns FU 3) := by
  intro f' g h args hp k r hg
  dsimp only at h
  by_cases h12 : f' = 12
  · subst h12
    injection h with h
    subst h
    exact evFn_le 0 (g_4_12_ok _ _ _ _ hg)
  rw [nbeq_ne h12, cond_false] at h
  cases h
theorem body_4_0 {R : Type} (K0 : St → Option R) (K1 : Ex → St → Option R) (p0 : Zt4_2) (p1 : Int) (p2 : Int) (p3 : Int) (p4 : Int) (p5 : Int) (p6 : Zt4_2) (p7 : Int) (p8 : Int) (p9 : Zt4_1) : evLB (evCodeL sm_4 FU (ovr (fun f' => bif Nat.beq f' 12 then some (g_4_12) else none) (evFn sm_4 fns FU 3)) .nil ir4_b0) (St.norm ir4_v0) (T_4_0 p0 p1 p2 p3 p4 p5 p6 p7 p8 p9) K0 K1 =
  bif decide (p8 < p7) then gd (inB p8 (List.length p6)) (gd (inB ((List.getD p6 (Int.toNat p8) (Ty.dflt Zy4_3)).1) (List.length p9)) (bif (List.getD p9 (Int.toNat ((List.getD p6 (Int.toNat p8) (Ty.dflt Zy4_3)).1)) (Ty.dflt (Ty.pair Ty.str Zy4_0))).2.1 == p3 then K0 (T_4_0 p0 p1 p2 p3 p4 (if (List.getD p9 (Int.toNat ((List.getD p6 (Int.toNat p8) (Ty.dflt Zy4_3)).1)) (Ty.dflt (Ty.pair Ty.str Zy4_0))).2.2.1 > p5 then (List.getD p9 (Int.toNat ((List.getD p6 (Int.toNat p8) (Ty.dflt Zy4_3)).1)) (Ty.dflt (Ty.pair Ty.str Zy4_0))).2.2.1 else p5) p6 p7 (IntKind.wrap IntKind.i64 (p8 + (1 : Int))) p9) else K0 (T_4_0 p0 p1 p2 p3 p4 p5 p6 p7 (IntKind.wrap IntKind.i64 (p8 + (1 : Int))) p9))) else K1 (Ex.exit (0 : Nat)) (X_4_0_0 p0 p1 p2 p3 p4 p5 p9) := by kernel_rfl
theorem Bgd_4_0 {R : Type} {c : Bool} {x : Option R} {y : Option Sp.E_4_0} {k0 : (Zt4_2) → (Int) → (Int) → (Int) → (Int) → (Int) → (Zt4_1) → Option R} (h : x = Sp.B_4_0 y k0) : gd c x = Sp.B_4_0 (gd c y) k0 := by cases c; rfl; exact h
theorem Bcond_4_0 {R : Type} {c : Bool} {x x' : Option R} {y y' : Option Sp.E_4_0} {k0 : (Zt4_2) → (Int) → (Int) → (Int) → (Int) → (Int) → (Zt4_1) → Option R} (h : x = Sp.B_4_0 y k0) (h' : x' = Sp.B_4_0 y' k0) : (bif c then x else x') = Sp.B_4_0 (bif c then y else y') k0 := by cases c; exact h'; exact h
theorem loop_4_0 {R : Type} (k : Ex → St → Option R) : ∀ (m : Nat) (p0 : Zt4_2) (p1 : Int) (p2 : Int) (p3 : Int) (p4 : Int) (p5 : Int) (p6 : Zt4_2) (p7 : Int) (p8 : Int) (p9 : Zt4_1), evLoopN (evCodeL sm_4 FU (ovr (fun f' => bif Nat.beq f' 12 then some (g_4_12) else none) (evFn sm_4 fns FU 3)) .nil ir4_b0) (St.norm ir4_v0) m (T_4_0 p0 p1 p2 p3 p4 p5 p6 p7 p8 p9) k = Sp.B_4_0 (Sp.L_4_0 m p0 p1 p2 p3 p4 p5 p6 p7 p8 p9) (fun p0 p1 p2 p3 p4 p5 p9 => k (Ex.exit (0 : Nat)) (X_4_0_0 p0 p1 p2 p3 p4 p5 p9))
  | 0, _, _, _, _, _, _, _, _, _, _ => rfl
  | m + 1, p0, p1, p2, p3, p4, p5, p6, p7, p8, p9 => by
    rw [evLoopN_succ, body_4_0, Sp.L_4_0]
    repeat' first | apply Bgd_4_0 | apply Bcond_4_0 | exact loop_4_0 k m _ _ _ _ _ _ _ _ _ _ | rfl
theorem ok_4_0 {R : Type} (T : St) (k : Ex → St → Option R) (r : R) (h0 : o_4_0 G_4_0 T k = some r) : evLoopN (evCode sm_4 FU (evFn sm_4 fns FU 3) ir4_b0) (St.norm ir4_v0) FU T k = some r := by
  obtain ⟨p0, p1, p2, p3, p4, p5, p6, p7, p8, p9, rfl, h⟩ := o_4_0_inv h0
  refine evLoopN_L (t := .nil) ov_4_4_ok trivial _ _ _ _ ?_
  rw [loop_4_0]
  exact h
theorem OK_4_4_0 {R : Type} (T : St) (k : Ex → St → Option R) (r : R) (h : O_4_4_0 T k = some r) : evLoopN (evCode sm_4 FU (evFn sm_4 fns FU 3) ir4_b0) (St.norm ir4_v0) FU T k = some r := ok_4_0 T k r h
theorem body_4_1 {R : Type} (K0 : St → Option R) (K1 : Ex → St → Option R) (p0 : Zt4_2) (p1 : Int) (p2 : Int) (p3 : Int) (p4 : Int) (p5 : Int) (p6 : Bool) (p7 : Zt4_2) (p8 : Int) (p9 : Int) (p10 : Zt4_1) : evLB (evCodeL sm_4 FU (ovr (fun f' => bif Nat.beq f' 12 then some (g_4_12) else none) (evFn sm_4 fns FU 3)) .nil ir4_b1) (St.norm ir4_v1) (T_4_1 p0 p1 p2 p3 p4 p5 p6 p7 p8 p9 p10) K0 K1 =
  bif decide (p9 < p8) then gd (inB p9 (List.length p7)) (gd (inB ((List.getD p7 (Int.toNat p9) (Ty.dflt Zy4_3)).1) (List.length p10)) (bif (List.getD p10 (Int.toNat ((List.getD p7 (Int.toNat p9) (Ty.dflt Zy4_3)).1)) (Ty.dflt (Ty.pair Ty.str Zy4_0))).2.1 == p3 then bif (List.getD p10 (Int.toNat ((List.getD p7 (Int.toNat p9) (Ty.dflt Zy4_3)).1)) (Ty.dflt (Ty.pair Ty.str Zy4_0))).2.2.1 == p5 then bif decide (p4 > (List.getD p10 (Int.toNat ((List.getD p7 (Int.toNat p9) (Ty.dflt Zy4_3)).1)) (Ty.dflt (Ty.pair Ty.str Zy4_0))).2.2.2.2.1) then K1 Ex.ret X_4_1_0 else bif p6 then K0 (T_4_1 p0 p1 p2 p3 p4 p5 true p7 p8 (IntKind.wrap IntKind.i64 (p9 + (1 : Int))) p10) else K0 (T_4_1 p0 p1 p2 p3 p4 p5 (p4 == (List.getD p10 (Int.toNat ((List.getD p7 (Int.toNat p9) (Ty.dflt Zy4_3)).1)) (Ty.dflt (Ty.pair Ty.str Zy4_0))).2.2.2.2.1) p7 p8 (IntKind.wrap IntKind.i64 (p9 + (1 : Int))) p10) else K0 (T_4_1 p0 p1 p2 p3 p4 p5 p6 p7 p8 (IntKind.wrap IntKind.i64 (p9 + (1 : Int))) p10) else K0 (T_4_1 p0 p1 p2 p3 p4 p5 p6 p7 p8 (IntKind.wrap IntKind.i64 (p9 + (1 : Int))) p10))) else K1 (Ex.exit (2 : Nat)) (X_4_1_1 p0 p1 p2 p3 p4 p5 p6 p10) := by kernel_rfl
theorem Bgd_4_1 {R : Type} {c : Bool} {x : Option R} {y : Option Sp.E_4_1} {k0 : Option R} {k1 : (Zt4_2) → (Int) → (Int) → (Int) → (Int) → (Int) → (Bool) → (Zt4_1) → Option R} (h : x = Sp.B_4_1 y k0 k1) : gd c x = Sp.B_4_1 (gd c y) k0 k1 := by cases c; rfl; exact h
theorem Bcond_4_1 {R : Type} {c : Bool} {x x' : Option R} {y y' : Option Sp.E_4_1} {k0 : Option R} {k1 : (Zt4_2) → (Int) → (Int) → (Int) → (Int) → (Int) → (Bool) → (Zt4_1) → Option R} (h : x = Sp.B_4_1 y k0 k1) (h' : x' = Sp.B_4_1 y' k0 k1) : (bif c then x else x') = Sp.B_4_1 (bif c then y else y') k0 k1 := by cases c; exact h'; exact h
theorem loop_4_1 {R : Type} (k : Ex → St → Option R) : ∀ (m : Nat) (p0 : Zt4_2) (p1 : Int) (p2 : Int) (p3 : Int) (p4 : Int) (p5 : Int) (p6 : Bool) (p7 : Zt4_2) (p8 : Int) (p9 : Int) (p10 : Zt4_1), evLoopN (evCodeL sm_4 FU (ovr (fun f' => bif Nat.beq f' 12 then some (g_4_12) else none) (evFn sm_4 fns FU 3)) .nil ir4_b1) (St.norm ir4_v1) m (T_4_1 p0 p1 p2 p3 p4 p5 p6 p7 p8 p9 p10) k = Sp.B_4_1 (Sp.L_4_1 m p0 p1 p2 p3 p4 p5 p6 p7 p8 p9 p10) (k Ex.ret (X_4_1_0)) (fun p0 p1 p2 p3 p4 p5 p6 p10 => k (Ex.exit (2 : Nat)) (X_4_1_1 p0 p1 p2 p3 p4 p5 p6 p10))
  | 0, _, _, _, _, _, _, _, _, _, _, _ => rfl
  | m + 1, p0, p1, p2, p3, p4, p5, p6, p7, p8, p9, p10 => by
    rw [evLoopN_succ, body_4_1, Sp.L_4_1]
    repeat' first | apply Bgd_4_1 | apply Bcond_4_1 | exact loop_4_1 k m _ _ _ _ _ _ _ _ _ _ _ | rfl
theorem ok_4_1 {R : Type} (T : St) (k : Ex → St → Option R) (r : R) (h0 : o_4_1 G_4_1 T k = some r) : evLoopN (evCode sm_4 FU (evFn sm_4 fns FU 3) ir4_b1) (St.norm ir4_v1) FU T k = some r := by
  obtain ⟨p0, p1, p2, p3, p4, p5, p6, p7, p8, p9, p10, rfl, h⟩ := o_4_1_inv h0
  refine evLoopN_L (t := .nil) ov_4_4_ok trivial _ _ _ _ ?_
  rw [loop_4_1]
  exact h
theorem OK_4_4_1 {R : Type} (T : St) (k : Ex → St → Option R) (r : R) (h : O_4_4_1 T k = some r) : evLoopN (evCode sm_4 FU (evFn sm_4 fns FU 3) ir4_b1) (St.norm ir4_v1) FU T k = some r := ok_4_1 T k r h
noncomputable def F_4 (a0 : (List ((List Int) × (Int × (Int × ((List Int) × (Int × Unit))))))) (a1 : (List (Int × ((List Int) × Unit)))) (a2 : Int) (a3 : Int) (a4 : Int) : Option (Bool) :=
  gd Sp.p_8 (bif !Sp.v_8.1 then gd Sp.p_8 (some (Sp.v_8.1)) else gd (Sp.p_9 a0 ([], [], (0 : Int), false, PUnit.unit)) (bif !(Sp.v_9 a0 ([], [], (0 : Int), false, PUnit.unit)).1 then gd Sp.p_8 (some (Sp.v_8.1)) else bif decide ((↑(List.length a1) : Int) > (60 : Int)) then gd Sp.p_8 (some (Sp.v_8.1)) else bif (↑(List.length a0) : Int) == (0 : Int) then gd Sp.p_8 (some (Sp.v_8.1)) else gd (Sp.p_10 a0 a1 (Int.tmod (IntKind.wrap IntKind.i64 a2) (16 : Int)) a3) (bif (Sp.v_10 a0 a1 (Int.tmod (IntKind.wrap IntKind.i64 a2) (16 : Int)) a3).2.1 != (0 : Int) then some ((Sp.v_10 a0 a1 (Int.tmod (IntKind.wrap IntKind.i64 a2) (16 : Int)) a3).1 == (0 : Int)) else Sp.B_4_20_0_0 (Sp.L_4_20_0_0 (4611686018427387904 : Nat) a1 (↑(List.length a1) : Int) (0 : Int) a0) (fun y37 y38 => bif decide (y37 ≥ (0 : Int)) then some false else Sp.B_4_0 (Sp.L_4_0 (4611686018427387904 : Nat) a1 a3 a4 (Int.tmod (IntKind.wrap IntKind.i64 a2) (16 : Int)) ((Sp.v_10 a0 a1 (Int.tmod (IntKind.wrap IntKind.i64 a2) (16 : Int)) a3).1) (-1 : Int) a1 (↑(List.length a1) : Int) (0 : Int) y38) fun y39 y40 y41 y42 y43 y44 y45 => bif decide (y44 < (0 : Int)) then some (y43 == y40) else Sp.B_4_1 (Sp.L_4_1 (4611686018427387904 : Nat) y39 y40 y41 y42 y43 y44 false y39 (↑(List.length y39) : Int) (0 : Int) y45) (some false) fun y46 y47 y48 y49 y50 y51 y52 y53 => gd (!(↑(List.length y53) : Int) == (0 : Int)) (gd (room (List.length y46) (32 : Nat)) (gd (room (List.length y46 + (1 : Nat)) (32 : Nat)) (gd (Sp.p_10 y53 (y46 ++ [(Int.tmod (IntKind.wrap IntKind.i64 y48) (↑(List.length y53) : Int), [], PUnit.unit)]) y49 y47) (bif !y52 then some false else bif (Sp.v_10 y53 (y46 ++ [(Int.tmod (IntKind.wrap IntKind.i64 y48) (↑(List.length y53) : Int), [], PUnit.unit)]) y49 y47).2.1 != (0 : Int) then some false else gd (inB (Int.tmod (IntKind.wrap IntKind.i64 y48) (↑(List.length y53) : Int)) (List.length y53)) (bif (List.getD y53 (Int.toNat (Int.tmod (IntKind.wrap IntKind.i64 y48) (↑(List.length y53) : Int))) (Ty.dflt (Ty.pair Ty.str (Ty.pair (Ty.int IntKind.i64) (Ty.pair (Ty.int IntKind.i64) (Ty.pair (Ty.slice (Ty.int IntKind.i64)) (Ty.pair (Ty.int IntKind.i64) Ty.unit))))))).2.1 != y49 then some ((Sp.v_10 y53 (y46 ++ [(Int.tmod (IntKind.wrap IntKind.i64 y48) (↑(List.length y53) : Int), [], PUnit.unit)]) y49 y47).1 == y50) else bif decide ((List.getD y53 (Int.toNat (Int.tmod (IntKind.wrap IntKind.i64 y48) (↑(List.length y53) : Int))) (Ty.dflt (Ty.pair Ty.str (Ty.pair (Ty.int IntKind.i64) (Ty.pair (Ty.int IntKind.i64) (Ty.pair (Ty.slice (Ty.int IntKind.i64)) (Ty.pair (Ty.int IntKind.i64) Ty.unit))))))).2.2.1 < y51) then some ((Sp.v_10 y53 (y46 ++ [(Int.tmod (IntKind.wrap IntKind.i64 y48) (↑(List.length y53) : Int), [], PUnit.unit)]) y49 y47).1 == y50) else bif (List.getD y53 (Int.toNat (Int.tmod (IntKind.wrap IntKind.i64 y48) (↑(List.length y53) : Int))) (Ty.dflt (Ty.pair Ty.str (Ty.pair (Ty.int IntKind.i64) (Ty.pair (Ty.int IntKind.i64) (Ty.pair (Ty.slice (Ty.int IntKind.i64)) (Ty.pair (Ty.int IntKind.i64) Ty.unit))))))).2.2.1 == y51 then some ((Sp.v_10 y53 (y46 ++ [(Int.tmod (IntKind.wrap IntKind.i64 y48) (↑(List.length y53) : Int), [], PUnit.unit)]) y49 y47).1 == if (List.getD y53 (Int.toNat (Int.tmod (IntKind.wrap IntKind.i64 y48) (↑(List.length y53) : Int))) (Ty.dflt (Ty.pair Ty.str (Ty.pair (Ty.int IntKind.i64) (Ty.pair (Ty.int IntKind.i64) (Ty.pair (Ty.slice (Ty.int IntKind.i64)) (Ty.pair (Ty.int IntKind.i64) Ty.unit))))))).2.2.2.2.1 < y50 then (List.getD y53 (Int.toNat (Int.tmod (IntKind.wrap IntKind.i64 y48) (↑(List.length y53) : Int))) (Ty.dflt (Ty.pair Ty.str (Ty.pair (Ty.int IntKind.i64) (Ty.pair (Ty.int IntKind.i64) (Ty.pair (Ty.slice (Ty.int IntKind.i64)) (Ty.pair (Ty.int IntKind.i64) Ty.unit))))))).2.2.2.2.1 else y50) else some ((Sp.v_10 y53 (y46 ++ [(Int.tmod (IntKind.wrap IntKind.i64 y48) (↑(List.length y53) : Int), [], PUnit.unit)]) y49 y47).1 == (List.getD y53 (Int.toNat (Int.tmod (IntKind.wrap IntKind.i64 y48) (↑(List.length y53) : Int))) (Ty.dflt (Ty.pair Ty.str (Ty.pair (Ty.int IntKind.i64) (Ty.pair (Ty.int IntKind.i64) (Ty.pair (Ty.slice (Ty.int IntKind.i64)) (Ty.pair (Ty.int IntKind.i64) Ty.unit))))))).2.2.2.2.1))))))) fun y58 => Sp.B_4_0 (Sp.L_4_0 (4611686018427387904 : Nat) a1 a3 a4 (Int.tmod (IntKind.wrap IntKind.i64 a2) (16 : Int)) ((Sp.v_10 a0 a1 (Int.tmod (IntKind.wrap IntKind.i64 a2) (16 : Int)) a3).1) (-1 : Int) a1 (↑(List.length a1) : Int) (0 : Int) y58) fun y59 y60 y61 y62 y63 y64 y65 => bif decide (y64 < (0 : Int)) then some (y63 == y60) else Sp.B_4_1 (Sp.L_4_1 (4611686018427387904 : Nat) y59 y60 y61 y62 y63 y64 false y59 (↑(List.length y59) : Int) (0 : Int) y65) (some false) fun y66 y67 y68 y69 y70 y71 y72 y73 => gd (!(↑(List.length y73) : Int) == (0 : Int)) (gd (room (List.length y66) (32 : Nat)) (gd (room (List.length y66 + (1 : Nat)) (32 : Nat)) (gd (Sp.p_10 y73 (y66 ++ [(Int.tmod (IntKind.wrap IntKind.i64 y68) (↑(List.length y73) : Int), [], PUnit.unit)]) y69 y67) (bif !y72 then some false else bif (Sp.v_10 y73 (y66 ++ [(Int.tmod (IntKind.wrap IntKind.i64 y68) (↑(List.length y73) : Int), [], PUnit.unit)]) y69 y67).2.1 != (0 : Int) then some false else gd (inB (Int.tmod (IntKind.wrap IntKind.i64 y68) (↑(List.length y73) : Int)) (List.length y73)) (bif (List.getD y73 (Int.toNat (Int.tmod (IntKind.wrap IntKind.i64 y68) (↑(List.length y73) : Int))) (Ty.dflt (Ty.pair Ty.str (Ty.pair (Ty.int IntKind.i64) (Ty.pair (Ty.int IntKind.i64) (Ty.pair (Ty.slice (Ty.int IntKind.i64)) (Ty.pair (Ty.int IntKind.i64) Ty.unit))))))).2.1 != y69 then some ((Sp.v_10 y73 (y66 ++ [(Int.tmod (IntKind.wrap IntKind.i64 y68) (↑(List.length y73) : Int), [], PUnit.unit)]) y69 y67).1 == y70) else bif decide ((List.getD y73 (Int.toNat (Int.tmod (IntKind.wrap IntKind.i64 y68) (↑(List.length y73) : Int))) (Ty.dflt (Ty.pair Ty.str (Ty.pair (Ty.int IntKind.i64) (Ty.pair (Ty.int IntKind.i64) (Ty.pair (Ty.slice (Ty.int IntKind.i64)) (Ty.pair (Ty.int IntKind.i64) Ty.unit))))))).2.2.1 < y71) then some ((Sp.v_10 y73 (y66 ++ [(Int.tmod (IntKind.wrap IntKind.i64 y68) (↑(List.length y73) : Int), [], PUnit.unit)]) y69 y67).1 == y70) else bif (List.getD y73 (Int.toNat (Int.tmod (IntKind.wrap IntKind.i64 y68) (↑(List.length y73) : Int))) (Ty.dflt (Ty.pair Ty.str (Ty.pair (Ty.int IntKind.i64) (Ty.pair (Ty.int IntKind.i64) (Ty.pair (Ty.slice (Ty.int IntKind.i64)) (Ty.pair (Ty.int IntKind.i64) Ty.unit))))))).2.2.1 == y71 then some ((Sp.v_10 y73 (y66 ++ [(Int.tmod (IntKind.wrap IntKind.i64 y68) (↑(List.length y73) : Int), [], PUnit.unit)]) y69 y67).1 == if (List.getD y73 (Int.toNat (Int.tmod (IntKind.wrap IntKind.i64 y68) (↑(List.length y73) : Int))) (Ty.dflt (Ty.pair Ty.str (Ty.pair (Ty.int IntKind.i64) (Ty.pair (Ty.int IntKind.i64) (Ty.pair (Ty.slice (Ty.int IntKind.i64)) (Ty.pair (Ty.int IntKind.i64) Ty.unit))))))).2.2.2.2.1 < y70 then (List.getD y73 (Int.toNat (Int.tmod (IntKind.wrap IntKind.i64 y68) (↑(List.length y73) : Int))) (Ty.dflt (Ty.pair Ty.str (Ty.pair (Ty.int IntKind.i64) (Ty.pair (Ty.int IntKind.i64) (Ty.pair (Ty.slice (Ty.int IntKind.i64)) (Ty.pair (Ty.int IntKind.i64) Ty.unit))))))).2.2.2.2.1 else y70) else some ((Sp.v_10 y73 (y66 ++ [(Int.tmod (IntKind.wrap IntKind.i64 y68) (↑(List.length y73) : Int), [], PUnit.unit)]) y69 y67).1 == (List.getD y73 (Int.toNat (Int.tmod (IntKind.wrap IntKind.i64 y68) (↑(List.length y73) : Int))) (Ty.dflt (Ty.pair Ty.str (Ty.pair (Ty.int IntKind.i64) (Ty.pair (Ty.int IntKind.i64) (Ty.pair (Ty.slice (Ty.int IntKind.i64)) (Ty.pair (Ty.int IntKind.i64) Ty.unit))))))).2.2.2.2.1)))))))))
theorem fn_4 (a0 : (List ((List Int) × (Int × (Int × ((List Int) × (Int × Unit))))))) (a1 : (List (Int × ((List Int) × Unit)))) (a2 : Int) (a3 : Int) (a4 : Int) : evFnL sm_4 FU (ovr (fun f' => bif Nat.beq f' 12 then some (g_4_12) else none) (evFn sm_4 fns FU 3)) (ir4_t O_4_4_0 O_4_4_1) ir4 (ofH [(.slice (.pair .str Zy4_5)), Zy4_6, (.int .u8), (.int .i64), (.int .u8)] (a0, a1, a2, a3, a4, ())) [] bk = F_4 a0 a1 a2 a3 a4 := by kernel_rfl
theorem run_4 (a0 : (List ((List Int) × (Int × (Int × ((List Int) × (Int × Unit))))))) (a1 : (List (Int × ((List Int) × Unit)))) (a2 : Int) (a3 : Int) (a4 : Int) {b : Bool} (h : F_4 a0 a1 a2 a3 a4 = some b) : evFn sm_4 fns FU 4 4 (ofH [(.slice (.pair .str Zy4_5)), Zy4_6, (.int .u8), (.int .i64), (.int .u8)] (a0, a1, a2, a3, a4, ())) [] bk = some b :=
  evFnL_sound (fn := ir4) (t := (ir4_t O_4_4_0 O_4_4_1)) (o := (fun f' => bif Nat.beq f' 12 then some (g_4_12) else none)) rfl ov_4_4_ok (ir4_tok (fun T k r => OK_4_4_0 T k r) (fun T k r => OK_4_4_1 T k r)) ((fn_4 _ _ _ _ _).trans h)
end
end Go.Ev
namespace Go.Proofs
open Go.Shelf
noncomputable def Try.clone16_ren : Go.Shelf.Ren := ⟨fun | 41 => 16 | n => n, fun | 22 => 23 | 23 => 37 | 4 => 4 | n => n, fun | n => n⟩
theorem Try.clone16 : Go.Proofs.SlLaysE0.n41 Try.prog Try.clone16_ren := {
  mixed := by kernel_rfl
  f41 := ⟨Try.f16.name, by decide, Try.func16.trans (congrArg some (by kernel_rfl))⟩
  t4 := Try.underlying4
  a4 := Try.isAgg4
  z4 := Try.sizeOf4
  v4 := Try.zeroValue4
  t22 := Try.underlying23
  a22 := Try.isAgg23
  z22 := Try.sizeOf23
  v22 := Try.zeroValue23 }
end Go.Proofs
namespace Go.Ev
open Go Go.Proofs Go.RowKit
set_option maxRecDepth 100000
set_option maxHeartbeats 4000000
noncomputable def smB : Nat → Bool := fun f => [8, 9, 10, 11, 14, 16, 17, 18, 19, 22, 23, 24, 25, 27, 29, 31, 32, 34, 36, 37, 39, 40, 42, 44, 45, 46, 47, 51, 52, 54, 55, 56, 57, 59, 60, 61, 62, 64, 65, 66, 67, 69, 70].contains f
theorem hm0 : Try.prog.follows .mixedOrders = true := by kernel_rfl
theorem key4 : fnKey Try.prog smB 4 = ir4.key := by kernel_rfl
theorem key8 : fnKey Try.prog smB 8 = ir8.key := by kernel_rfl
theorem key9 : fnKey Try.prog smB 9 = ir9.key := by kernel_rfl
theorem key10 : fnKey Try.prog smB 10 = ir10.key := by kernel_rfl
theorem key11 : fnKey Try.prog smB 11 = ir11.key := by kernel_rfl
theorem key12 : fnKey Try.prog smB 12 = ir12.key := by kernel_rfl
theorem key14 : fnKey Try.prog smB 14 = ir14.key := by kernel_rfl
theorem key15 : fnKey Try.prog smB 15 = ir15.key := by kernel_rfl
theorem key19 : fnKey Try.prog smB 19 = ir19.key := by kernel_rfl
theorem key20 : fnKey Try.prog smB 20 = ir20.key := by kernel_rfl
theorem key25 : fnKey Try.prog smB 25 = ir25.key := by kernel_rfl
theorem key27 : fnKey Try.prog smB 27 = ir27.key := by kernel_rfl
theorem key31 : fnKey Try.prog smB 31 = ir31.key := by kernel_rfl
theorem key32 : fnKey Try.prog smB 32 = ir32.key := by kernel_rfl
theorem key33 : fnKey Try.prog smB 33 = ir33.key := by kernel_rfl
theorem key34 : fnKey Try.prog smB 34 = ir34.key := by kernel_rfl
theorem key35 : fnKey Try.prog smB 35 = ir35.key := by kernel_rfl
theorem key36 : fnKey Try.prog smB 36 = ir36.key := by kernel_rfl
theorem key37 : fnKey Try.prog smB 37 = ir37.key := by kernel_rfl
theorem key38 : fnKey Try.prog smB 38 = ir38.key := by kernel_rfl
theorem key39 : fnKey Try.prog smB 39 = ir39.key := by kernel_rfl
theorem key40 : fnKey Try.prog smB 40 = ir40.key := by kernel_rfl
theorem key41 : fnKey Try.prog smB 41 = ir41.key := by kernel_rfl
theorem key42 : fnKey Try.prog smB 42 = ir42.key := by kernel_rfl
theorem key43 : fnKey Try.prog smB 43 = ir43.key := by kernel_rfl
theorem key47 : fnKey Try.prog smB 47 = ir47.key := by kernel_rfl
theorem key48 : fnKey Try.prog smB 48 = ir48.key := by kernel_rfl
theorem key49 : fnKey Try.prog smB 49 = ir49.key := by kernel_rfl
theorem key50 : fnKey Try.prog smB 50 = ir50.key := by kernel_rfl
theorem key51 : fnKey Try.prog smB 51 = ir51.key := by kernel_rfl
theorem key52 : fnKey Try.prog smB 52 = ir52.key := by kernel_rfl
theorem key53 : fnKey Try.prog smB 53 = ir53.key := by kernel_rfl
theorem key57 : fnKey Try.prog smB 57 = ir57.key := by kernel_rfl
theorem key58 : fnKey Try.prog smB 58 = ir58.key := by kernel_rfl
theorem key59 : fnKey Try.prog smB 59 = ir59.key := by kernel_rfl
theorem key61 : fnKey Try.prog smB 61 = ir61.key := by kernel_rfl
theorem key62 : fnKey Try.prog smB 62 = ir62.key := by kernel_rfl
theorem key63 : fnKey Try.prog smB 63 = ir63.key := by kernel_rfl
theorem key64 : fnKey Try.prog smB 64 = ir64.key := by kernel_rfl
theorem key65 : fnKey Try.prog smB 65 = ir65.key := by kernel_rfl
theorem key66 : fnKey Try.prog smB 66 = ir66.key := by kernel_rfl
theorem key67 : fnKey Try.prog smB 67 = ir67.key := by kernel_rfl
theorem key68 : fnKey Try.prog smB 68 = ir68.key := by kernel_rfl
theorem key69 : fnKey Try.prog smB 69 = ir69.key := by kernel_rfl
theorem key70 : fnKey Try.prog smB 70 = ir70.key := by kernel_rfl
theorem fns_ok : FnsOK Try.prog smB fns := by
  intro f fn h
  unfold fns at h
  split at h
  · simp only [Option.some.injEq] at h; subst h; exact key4
  · simp only [Option.some.injEq] at h; subst h; exact key8
  · simp only [Option.some.injEq] at h; subst h; exact key9
  · simp only [Option.some.injEq] at h; subst h; exact key10
  · simp only [Option.some.injEq] at h; subst h; exact key11
  · simp only [Option.some.injEq] at h; subst h; exact key12
  · simp only [Option.some.injEq] at h; subst h; exact key14
  · simp only [Option.some.injEq] at h; subst h; exact key15
  · simp only [Option.some.injEq] at h; subst h; exact key19
  · simp only [Option.some.injEq] at h; subst h; exact key20
  · simp only [Option.some.injEq] at h; subst h; exact key25
  · simp only [Option.some.injEq] at h; subst h; exact key27
  · simp only [Option.some.injEq] at h; subst h; exact key31
  · simp only [Option.some.injEq] at h; subst h; exact key32
  · simp only [Option.some.injEq] at h; subst h; exact key33
  · simp only [Option.some.injEq] at h; subst h; exact key34
  · simp only [Option.some.injEq] at h; subst h; exact key35
  · simp only [Option.some.injEq] at h; subst h; exact key36
  · simp only [Option.some.injEq] at h; subst h; exact key37
  · simp only [Option.some.injEq] at h; subst h; exact key38
  · simp only [Option.some.injEq] at h; subst h; exact key39
  · simp only [Option.some.injEq] at h; subst h; exact key40
  · simp only [Option.some.injEq] at h; subst h; exact key41
  · simp only [Option.some.injEq] at h; subst h; exact key42
  · simp only [Option.some.injEq] at h; subst h; exact key43
  · simp only [Option.some.injEq] at h; subst h; exact key47
  · simp only [Option.some.injEq] at h; subst h; exact key48
  · simp only [Option.some.injEq] at h; subst h; exact key49
  · simp only [Option.some.injEq] at h; subst h; exact key50
  · simp only [Option.some.injEq] at h; subst h; exact key51
  · simp only [Option.some.injEq] at h; subst h; exact key52
  · simp only [Option.some.injEq] at h; subst h; exact key53
  · simp only [Option.some.injEq] at h; subst h; exact key57
  · simp only [Option.some.injEq] at h; subst h; exact key58
  · simp only [Option.some.injEq] at h; subst h; exact key59
  · simp only [Option.some.injEq] at h; subst h; exact key61
  · simp only [Option.some.injEq] at h; subst h; exact key62
  · simp only [Option.some.injEq] at h; subst h; exact key63
  · simp only [Option.some.injEq] at h; subst h; exact key64
  · simp only [Option.some.injEq] at h; subst h; exact key65
  · simp only [Option.some.injEq] at h; subst h; exact key66
  · simp only [Option.some.injEq] at h; subst h; exact key67
  · simp only [Option.some.injEq] at h; subst h; exact key68
  · simp only [Option.some.injEq] at h; subst h; exact key69
  · simp only [Option.some.injEq] at h; subst h; exact key70
  · cases h
theorem info16 : ∃ i, Try.prog.info? 37 = some i ∧ i.zero = some (.agg #[.int .i64 0, .slice none 0 0]) ∧ i.size = 2 ∧ i.bytes = 32 := ⟨_, rfl, by kernel_rfl, by kernel_rfl, by kernel_rfl⟩
theorem sok_16 : SummOK Try.prog 16 (vecS (.pair (.int .i64) (.pair (.slice (.int .i64)) .unit)) 37 32) := by
  obtain ⟨i, hi, h0, h1, h2⟩ := info16
  exact clone_vec (by kernel_rfl) (by decide)
    (fun b off n c news w hl hn hb hc h3 => AnyE.slices_Clone Try.clone16 i _ 2 32 hi h0 h1 h2 (by kernel_rfl) (by decide) Try.sizeOf37 b off n c news w hl hn hb hc h3)
    (fun n c w => AnyE.slices_Clone_nil Try.clone16 n c w)
    (fun a c w => clone_zero Try.clone16 i _ 2 32 hi h0 h1 h2 (by kernel_rfl) (by decide) Try.sizeOf37 a c w)
theorem sok_42 : SummOK Try.prog 42 actS := by
  refine summ_clo (call := evFn (fun _ => none) fns FU 3) (fun base => ev_sound hm0 (fun f s h => by cases h) (fun f s h => by cases h) fns_ok 3) (by kernel_rfl) ?_
  intro look cs cs' c2 hp hF
  obtain ⟨x, rfl⟩ := purify_ofH hp
  rw [toH_ofH] at hF
  injection hF with hF
  injection hF with _ hF
  subst hF
  obtain ⟨F, b, _⟩ := x
  exact ⟨53, .pair (.ptr 0 []) (.pair (.ptr 1 []) cunit), .pair (.ref (.int .i64) b) (.pair (.ref (.pair (.slice (.pair (.int .i64) (.pair (.int .i64) (.pair (.int .i64) (.pair (.int .i64) (.pair (.int .i64) (.pair (.int .i64) (.pair .bool (.pair (.int .i64) .unit))))))))) (.pair (.slice (.pair (.int .i64) (.pair (.int .i64) (.pair (.int .i64) (.pair (.int .i64) (.pair (.int .i64) (.pair (.slice (.int .i64)) (.pair (.int .i64) .unit)))))))) (.pair (.int .i64) (.pair .bool .unit)))) F) cunit), [.int .i64, (.pair (.slice (.pair (.int .i64) (.pair (.int .i64) (.pair (.int .i64) (.pair (.int .i64) (.pair (.int .i64) (.pair (.int .i64) (.pair .bool (.pair (.int .i64) .unit))))))))) (.pair (.slice (.pair (.int .i64) (.pair (.int .i64) (.pair (.int .i64) (.pair (.int .i64) (.pair (.int .i64) (.pair (.slice (.int .i64)) (.pair (.int .i64) .unit)))))))) (.pair (.int .i64) (.pair .bool .unit))))], [.mem (.int .i64 b), .mem (.pure (.pair (.slice (.pair (.int .i64) (.pair (.int .i64) (.pair (.int .i64) (.pair (.int .i64) (.pair (.int .i64) (.pair (.int .i64) (.pair .bool (.pair (.int .i64) .unit))))))))) (.pair (.slice (.pair (.int .i64) (.pair (.int .i64) (.pair (.int .i64) (.pair (.int .i64) (.pair (.int .i64) (.pair (.slice (.int .i64)) (.pair (.int .i64) .unit)))))))) (.pair (.int .i64) (.pair .bool .unit)))) F)], rfl, by kernel_rfl, by kernel_rfl⟩
theorem smok_57 : ∀ f s, sm_57 f = some s → SummOK Try.prog f s := by
  intro f s h
  unfold sm_57 at h
  cases h
theorem call_57 {R : Type} (n base : Nat) : CallOK Try.prog base (evFn (R := R) sm_57 fns FU n) := ev_sound hm0 smok_57 (fun f s h => (smok_57 f s h).2.1) fns_ok n
theorem sok_57 : SummOK Try.prog 57 s_57 := summ_shN (by decide) (fun _ => rfl) (fun _ => rfl) (call_57 1) (by kernel_rfl) run_57
theorem smok_51 : ∀ f s, sm_51 f = some s → SummOK Try.prog f s := by
  intro f s h
  unfold sm_51 at h
  by_cases h57 : f = 57
  · subst h57
    injection h with h
    subst h
    exact sok_57
  rw [nbeq_ne h57, cond_false] at h
  cases h
theorem call_51 {R : Type} (n base : Nat) : CallOK Try.prog base (evFn (R := R) sm_51 fns FU n) := ev_sound hm0 smok_51 (fun f s h => (smok_51 f s h).2.1) fns_ok n
theorem sok_51 : SummOK Try.prog 51 s_51 := summ_shN (by decide) (fun _ => rfl) (fun _ => rfl) (call_51 1) (by kernel_rfl) run_51
theorem sok_37 : SummOK Try.prog 37 s_37 := hand_37 sok_51
theorem smok_10 : ∀ f s, sm_10 f = some s → SummOK Try.prog f s := by
  intro f s h
  unfold sm_10 at h
  by_cases h37 : f = 37
  · subst h37
    injection h with h
    subst h
    exact sok_37
  rw [nbeq_ne h37, cond_false] at h
  cases h
theorem call_10 {R : Type} (n base : Nat) : CallOK Try.prog base (evFn (R := R) sm_10 fns FU n) := ev_sound hm0 smok_10 (fun f s h => (smok_10 f s h).2.1) fns_ok n
theorem sok_10 : SummOK Try.prog 10 s_10 := summ_shN (by decide) (fun _ => rfl) (fun _ => rfl) (call_10 4) (by kernel_rfl) run_10
theorem smok_61 : ∀ f s, sm_61 f = some s → SummOK Try.prog f s := by
  intro f s h
  unfold sm_61 at h
  cases h
theorem call_61 {R : Type} (n base : Nat) : CallOK Try.prog base (evFn (R := R) sm_61 fns FU n) := ev_sound hm0 smok_61 (fun f s h => (smok_61 f s h).2.1) fns_ok n
theorem sok_61 : SummOK Try.prog 61 s_61 := summ_shN (by decide) (fun _ => rfl) (fun _ => rfl) (call_61 1) (by kernel_rfl) run_61
theorem smok_70 : ∀ f s, sm_70 f = some s → SummOK Try.prog f s := by
  intro f s h
  unfold sm_70 at h
  by_cases h61 : f = 61
  · subst h61
    injection h with h
    subst h
    exact sok_61
  rw [nbeq_ne h61, cond_false] at h
  cases h
theorem call_70 {R : Type} (n base : Nat) : CallOK Try.prog base (evFn (R := R) sm_70 fns FU n) := ev_sound hm0 smok_70 (fun f s h => (smok_70 f s h).2.1) fns_ok n
theorem sok_70 : SummOK Try.prog 70 s_70 := summ_shN (by decide) (fun _ => rfl) (fun _ => rfl) (call_70 1) (by kernel_rfl) run_70
theorem smok_65 : ∀ f s, sm_65 f = some s → SummOK Try.prog f s := by
  intro f s h
  unfold sm_65 at h
  by_cases h70 : f = 70
  · subst h70
    injection h with h
    subst h
    exact sok_70
  rw [nbeq_ne h70, cond_false] at h
  cases h
theorem call_65 {R : Type} (n base : Nat) : CallOK Try.prog base (evFn (R := R) sm_65 fns FU n) := ev_sound hm0 smok_65 (fun f s h => (smok_65 f s h).2.1) fns_ok n
theorem sok_65 : SummOK Try.prog 65 s_65 := summ_shN (by decide) (fun _ => rfl) (fun _ => rfl) (call_65 4) (by kernel_rfl) run_65
theorem smok_66 : ∀ f s, sm_66 f = some s → SummOK Try.prog f s := by
  intro f s h
  unfold sm_66 at h
  cases h
theorem call_66 {R : Type} (n base : Nat) : CallOK Try.prog base (evFn (R := R) sm_66 fns FU n) := ev_sound hm0 smok_66 (fun f s h => (smok_66 f s h).2.1) fns_ok n
theorem sok_66 : SummOK Try.prog 66 s_66 := summ_shN (by decide) (fun _ => rfl) (fun _ => rfl) (call_66 1) (by kernel_rfl) run_66
theorem smok_67 : ∀ f s, sm_67 f = some s → SummOK Try.prog f s := by
  intro f s h
  unfold sm_67 at h
  cases h
theorem call_67 {R : Type} (n base : Nat) : CallOK Try.prog base (evFn (R := R) sm_67 fns FU n) := ev_sound hm0 smok_67 (fun f s h => (smok_67 f s h).2.1) fns_ok n
theorem sok_67 : SummOK Try.prog 67 s_67 := summ_shN (by decide) (fun _ => rfl) (fun _ => rfl) (call_67 1) (by kernel_rfl) run_67
theorem smok_62 : ∀ f s, sm_62 f = some s → SummOK Try.prog f s := by
  intro f s h
  unfold sm_62 at h
  by_cases h61 : f = 61
  · subst h61
    injection h with h
    subst h
    exact sok_61
  rw [nbeq_ne h61, cond_false] at h
  by_cases h65 : f = 65
  · subst h65
    injection h with h
    subst h
    exact sok_65
  rw [nbeq_ne h65, cond_false] at h
  by_cases h66 : f = 66
  · subst h66
    injection h with h
    subst h
    exact sok_66
  rw [nbeq_ne h66, cond_false] at h
  by_cases h67 : f = 67
  · subst h67
    injection h with h
    subst h
    exact sok_67
  rw [nbeq_ne h67, cond_false] at h
  cases h
theorem call_62 {R : Type} (n base : Nat) : CallOK Try.prog base (evFn (R := R) sm_62 fns FU n) := ev_sound hm0 smok_62 (fun f s h => (smok_62 f s h).2.1) fns_ok n
theorem sok_62 : SummOK Try.prog 62 s_62 := summ_shN (by decide) (fun _ => rfl) (fun _ => rfl) (call_62 1) (by kernel_rfl) run_62
theorem smok_64 : ∀ f s, sm_64 f = some s → SummOK Try.prog f s := by
  intro f s h
  unfold sm_64 at h
  by_cases h61 : f = 61
  · subst h61
    injection h with h
    subst h
    exact sok_61
  rw [nbeq_ne h61, cond_false] at h
  cases h
theorem call_64 {R : Type} (n base : Nat) : CallOK Try.prog base (evFn (R := R) sm_64 fns FU n) := ev_sound hm0 smok_64 (fun f s h => (smok_64 f s h).2.1) fns_ok n
theorem sok_64 : SummOK Try.prog 64 s_64 := summ_shN (by decide) (fun _ => rfl) (fun _ => rfl) (call_64 1) (by kernel_rfl) run_64
theorem smok_52 : ∀ f s, sm_52 f = some s → SummOK Try.prog f s := by
  intro f s h
  unfold sm_52 at h
  by_cases h60 : f = 60
  · subst h60
    injection h with h
    subst h
    exact sok_60
  rw [nbeq_ne h60, cond_false] at h
  by_cases h61 : f = 61
  · subst h61
    injection h with h
    subst h
    exact sok_61
  rw [nbeq_ne h61, cond_false] at h
  by_cases h62 : f = 62
  · subst h62
    injection h with h
    subst h
    exact sok_62
  rw [nbeq_ne h62, cond_false] at h
  by_cases h64 : f = 64
  · subst h64
    injection h with h
    subst h
    exact sok_64
  rw [nbeq_ne h64, cond_false] at h
  cases h
theorem call_52 {R : Type} (n base : Nat) : CallOK Try.prog base (evFn (R := R) sm_52 fns FU n) := ev_sound hm0 smok_52 (fun f s h => (smok_52 f s h).2.1) fns_ok n
theorem sok_52 : SummOK Try.prog 52 s_52 := summ_shN (by decide) (fun _ => rfl) (fun _ => rfl) (call_52 4) (by kernel_rfl) run_52
theorem smok_40 : ∀ f s, sm_40 f = some s → SummOK Try.prog f s := by
  intro f s h
  unfold sm_40 at h
  by_cases h37 : f = 37
  · subst h37
    injection h with h
    subst h
    exact sok_37
  rw [nbeq_ne h37, cond_false] at h
  by_cases h52 : f = 52
  · subst h52
    injection h with h
    subst h
    exact sok_52
  rw [nbeq_ne h52, cond_false] at h
  cases h
theorem call_40 {R : Type} (n base : Nat) : CallOK Try.prog base (evFn (R := R) sm_40 fns FU n) := ev_sound hm0 smok_40 (fun f s h => (smok_40 f s h).2.1) fns_ok n
theorem sok_40 : SummOK Try.prog 40 s_40 := summ_shN (by decide) (fun _ => rfl) (fun _ => rfl) (call_40 1) (by kernel_rfl) run_40
theorem smok_19 : ∀ f s, sm_19 f = some s → SummOK Try.prog f s := by
  intro f s h
  unfold sm_19 at h
  by_cases h40 : f = 40
  · subst h40
    injection h with h
    subst h
    exact sok_40
  rw [nbeq_ne h40, cond_false] at h
  by_cases h42 : f = 42
  · subst h42
    injection h with h
    subst h
    exact sok_42
  rw [nbeq_ne h42, cond_false] at h
  cases h
theorem call_19 {R : Type} (n base : Nat) : CallOK Try.prog base (evFn (R := R) sm_19 fns FU n) := ev_sound hm0 smok_19 (fun f s h => (smok_19 f s h).2.1) fns_ok n
theorem sok_19 : SummOK Try.prog 19 s_19 := summ_sh (fun _ => rfl) (fun _ => rfl) (call_19 4) (by kernel_rfl) run_19
theorem smok_25 : ∀ f s, sm_25 f = some s → SummOK Try.prog f s := by
  intro f s h
  unfold sm_25 at h
  by_cases h40 : f = 40
  · subst h40
    injection h with h
    subst h
    exact sok_40
  rw [nbeq_ne h40, cond_false] at h
  by_cases h42 : f = 42
  · subst h42
    injection h with h
    subst h
    exact sok_42
  rw [nbeq_ne h42, cond_false] at h
  cases h
theorem call_25 {R : Type} (n base : Nat) : CallOK Try.prog base (evFn (R := R) sm_25 fns FU n) := ev_sound hm0 smok_25 (fun f s h => (smok_25 f s h).2.1) fns_ok n
theorem sok_25 : SummOK Try.prog 25 s_25 := summ_sh (fun _ => rfl) (fun _ => rfl) (call_25 4) (by kernel_rfl) run_25
theorem smok_31 : ∀ f s, sm_31 f = some s → SummOK Try.prog f s := by
  intro f s h
  unfold sm_31 at h
  cases h
theorem call_31 {R : Type} (n base : Nat) : CallOK Try.prog base (evFn (R := R) sm_31 fns FU n) := ev_sound hm0 smok_31 (fun f s h => (smok_31 f s h).2.1) fns_ok n
theorem sok_31 : SummOK Try.prog 31 s_31 := summ_shN (by decide) (fun _ => rfl) (fun _ => rfl) (call_31 1) (by kernel_rfl) run_31
theorem smok_47 : ∀ f s, sm_47 f = some s → SummOK Try.prog f s := by
  intro f s h
  unfold sm_47 at h
  cases h
theorem call_47 {R : Type} (n base : Nat) : CallOK Try.prog base (evFn (R := R) sm_47 fns FU n) := ev_sound hm0 smok_47 (fun f s h => (smok_47 f s h).2.1) fns_ok n
theorem sok_47 : SummOK Try.prog 47 s_47 := summ_shN (by decide) (fun _ => rfl) (fun _ => rfl) (call_47 1) (by kernel_rfl) run_47
theorem smok_27 : ∀ f s, sm_27 f = some s → SummOK Try.prog f s := by
  intro f s h
  unfold sm_27 at h
  by_cases h47 : f = 47
  · subst h47
    injection h with h
    subst h
    exact sok_47
  rw [nbeq_ne h47, cond_false] at h
  cases h
theorem call_27 {R : Type} (n base : Nat) : CallOK Try.prog base (evFn (R := R) sm_27 fns FU n) := ev_sound hm0 smok_27 (fun f s h => (smok_27 f s h).2.1) fns_ok n
theorem sok_27 : SummOK Try.prog 27 s_27 := summ_shN (by decide) (fun _ => rfl) (fun _ => rfl) (call_27 1) (by kernel_rfl) run_27
theorem smok_32 : ∀ f s, sm_32 f = some s → SummOK Try.prog f s := by
  intro f s h
  unfold sm_32 at h
  by_cases h27 : f = 27
  · subst h27
    injection h with h
    subst h
    exact sok_27
  rw [nbeq_ne h27, cond_false] at h
  cases h
theorem call_32 {R : Type} (n base : Nat) : CallOK Try.prog base (evFn (R := R) sm_32 fns FU n) := ev_sound hm0 smok_32 (fun f s h => (smok_32 f s h).2.1) fns_ok n
theorem sok_32 : SummOK Try.prog 32 s_32 := summ_sh (fun _ => rfl) (fun _ => rfl) (call_32 1) (by kernel_rfl) run_32
theorem smok_8 : ∀ f s, sm_8 f = some s → SummOK Try.prog f s := by
  intro f s h
  unfold sm_8 at h
  by_cases h10 : f = 10
  · subst h10
    injection h with h
    subst h
    exact sok_10
  rw [nbeq_ne h10, cond_false] at h
  by_cases h19 : f = 19
  · subst h19
    injection h with h
    subst h
    exact sok_19
  rw [nbeq_ne h19, cond_false] at h
  by_cases h25 : f = 25
  · subst h25
    injection h with h
    subst h
    exact sok_25
  rw [nbeq_ne h25, cond_false] at h
  by_cases h31 : f = 31
  · subst h31
    injection h with h
    subst h
    exact sok_31
  rw [nbeq_ne h31, cond_false] at h
  by_cases h32 : f = 32
  · subst h32
    injection h with h
    subst h
    exact sok_32
  rw [nbeq_ne h32, cond_false] at h
  cases h
theorem call_8 {R : Type} (n base : Nat) : CallOK Try.prog base (evFn (R := R) sm_8 fns FU n) := ev_sound hm0 smok_8 (fun f s h => (smok_8 f s h).2.1) fns_ok n
theorem sok_8 : SummOK Try.prog 8 s_8 := summ_shN (by decide) (fun _ => rfl) (fun _ => rfl) (call_8 1) (by kernel_rfl) run_8
theorem smok_9 : ∀ f s, sm_9 f = some s → SummOK Try.prog f s := by
  intro f s h
  unfold sm_9 at h
  cases h
theorem call_9 {R : Type} (n base : Nat) : CallOK Try.prog base (evFn (R := R) sm_9 fns FU n) := ev_sound hm0 smok_9 (fun f s h => (smok_9 f s h).2.1) fns_ok n
theorem sok_9 : SummOK Try.prog 9 s_9 := summ_shN (by decide) (fun _ => rfl) (fun _ => rfl) (call_9 4) (by kernel_rfl) run_9
theorem smok_4 : ∀ f s, sm_4 f = some s → SummOK Try.prog f s := by
  intro f s h
  unfold sm_4 at h
  by_cases h8 : f = 8
  · subst h8
    injection h with h
    subst h
    exact sok_8
  rw [nbeq_ne h8, cond_false] at h
  by_cases h9 : f = 9
  · subst h9
    injection h with h
    subst h
    exact sok_9
  rw [nbeq_ne h9, cond_false] at h
  by_cases h10 : f = 10
  · subst h10
    injection h with h
    subst h
    exact sok_10
  rw [nbeq_ne h10, cond_false] at h
  by_cases h16 : f = 16
  · subst h16
    injection h with h
    subst h
    exact sok_16
  rw [nbeq_ne h16, cond_false] at h
  cases h
theorem call_4 {R : Type} (n base : Nat) : CallOK Try.prog base (evFn (R := R) sm_4 fns FU n) := ev_sound hm0 smok_4 (fun f s h => (smok_4 f s h).2.1) fns_ok n
end Go.Ev
