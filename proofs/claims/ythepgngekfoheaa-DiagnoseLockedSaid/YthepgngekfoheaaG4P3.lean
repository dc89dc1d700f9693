/- Helpers: functions of the program as Lean functions, and what they compute. No condition. -/
import Derived.Test.YthepgngekfoheaaE4P2
import Derived.Test.YthepgngekfoheaaG4P0
import Derived.Test.YthepgngekfoheaaG4P2
import Derived.Test.YthepgngekfoheaaProg
set_option maxRecDepth 10000
set_option linter.unusedVariables false
set_option linter.unusedSimpArgs false
namespace Go.Ev
open Go
set_option maxRecDepth 100000
set_option maxHeartbeats 4000000
set_option linter.unusedVariables false
noncomputable section
abbrev Zt4_0 : Type := List (Int × Int × Int × Int × Int × Int × Bool × Int × Unit)
abbrev Zt4_1 : Type := List (Int × Int × Int × Int × Int × List Int × Int × Unit)
abbrev Zy4_2 : Ty := (Ty.pair (Ty.int IntKind.i64) (Ty.pair (Ty.int IntKind.i64) (Ty.pair (Ty.int IntKind.i64) (Ty.pair (Ty.int IntKind.i64) (Ty.pair (Ty.int IntKind.i64) (Ty.pair (Ty.int IntKind.i64) Ty.unit))))))
abbrev Zt4_3 : Type := Int × Int × Int × Int × Int × Int × Unit
abbrev Zy4_4 : Ty := (Ty.pair (Ty.slice (Ty.pair (Ty.int IntKind.i64) (Ty.pair (Ty.int IntKind.i64) (Ty.pair (Ty.int IntKind.i64) (Ty.pair (Ty.int IntKind.i64) (Ty.pair (Ty.int IntKind.i64) (Ty.pair (Ty.int IntKind.i64) (Ty.pair Ty.bool (Ty.pair (Ty.int IntKind.i64) Ty.unit))))))))) (Ty.pair (Ty.slice (Ty.pair (Ty.int IntKind.i64) (Ty.pair (Ty.int IntKind.i64) (Ty.pair (Ty.int IntKind.i64) (Ty.pair (Ty.int IntKind.i64) (Ty.pair (Ty.int IntKind.i64) (Ty.pair (Ty.slice (Ty.int IntKind.i64)) (Ty.pair (Ty.int IntKind.i64) Ty.unit)))))))) (Ty.pair (Ty.int IntKind.i64) (Ty.pair Ty.bool Ty.unit))))
abbrev Zy4_5 : Ty := (Ty.pair (Ty.int IntKind.i64) (Ty.pair (Ty.int IntKind.i64) (Ty.pair (Ty.int IntKind.i64) (Ty.pair (Ty.int IntKind.i64) (Ty.pair (Ty.int IntKind.i64) (Ty.pair (Ty.int IntKind.i64) (Ty.pair Ty.bool (Ty.pair (Ty.int IntKind.i64) Ty.unit))))))))
abbrev Zy4_6 : Ty := (Ty.pair (Ty.int IntKind.i64) (Ty.pair (Ty.int IntKind.i64) (Ty.pair (Ty.int IntKind.i64) (Ty.pair (Ty.int IntKind.i64) (Ty.pair (Ty.int IntKind.i64) (Ty.pair (Ty.slice (Ty.int IntKind.i64)) (Ty.pair (Ty.int IntKind.i64) Ty.unit)))))))
abbrev Zt4_7 : Type := Int × Bool × Unit
abbrev Zt4_8 : Type := (List (Int × (Int × (Int × (Int × (Int × (Int × (Bool × (Int × Unit))))))))) × ((List (Int × (Int × (Int × (Int × (Int × ((List Int) × (Int × Unit)))))))) × (Int × (Bool × Unit)))
abbrev Zy4_9 : Ty := (Ty.pair (Ty.int IntKind.i64) (Ty.pair Ty.bool Ty.unit))
abbrev Zy4_10 : Ty := (Ty.arr (3 : Nat) (Ty.int IntKind.u16))
abbrev Zt4_11 : Type := Int × (Int × (Int × (Int × (Int × (Int × Unit)))))

noncomputable def sm_4 : Nat → Option Summ := fun f => bif Nat.beq f 8 then some s_8 else bif Nat.beq f 12 then some s_12 else bif Nat.beq f 13 then some s_13 else bif Nat.beq f 14 then some s_14 else bif Nat.beq f 18 then some s_18 else bif Nat.beq f 19 then some s_19 else none
noncomputable def T_4_1 (p0 : Int) (p1 : Int) (p2 : List Int) (p3 : Int) (p4 : Int) (p5 : Int) (p6 : List Int) (p7 : Int) (p8 : Zt4_7) (p9 : Zt4_0) (p10 : Zt4_1) (p11 : Zt4_3) : St := St.mk ([jk, jk, CV.int IntKind.u32 p0, jk, jk, jk, jk, CV.int IntKind.i64 p1, CV.ptr (0 : Nat) [], CV.ptr (3 : Nat) [], jk, jk, jk, jk, CV.pure (Ty.slice (Ty.int IntKind.u8)) p2, CV.int IntKind.i64 p3, CV.int IntKind.i64 p4, CV.int IntKind.u8 p5] ++ (jl 21 ++ ([CV.pure Zy4_10 p6, CV.int IntKind.i64 p7] ++ (jl 168)))) [Blk.mem (CV.pair (CV.whole (1 : Nat)) (CV.pair (CV.whole (2 : Nat)) (CV.pure Zy4_9 p8))), Blk.fvec (58 : Nat) Zy4_5 p9, Blk.fvec (60 : Nat) Zy4_6 p10, Blk.mem (CV.pure Zy4_2 p11)] (0 : Nat)
noncomputable def X_4_1_0 : St := St.mk (jl 6 ++ ([CV.bool false] ++ (jl 202))) [] (0 : Nat)
noncomputable def X_4_1_1 (p0 : Int) (p1 : Int) (p2 : List Int) (p3 : Int) (p4 : Int) (p5 : Int) (p6 : List Int) (p7 : Int) (p8 : Zt4_7) (p9 : Zt4_0) (p10 : Zt4_1) (p11 : Zt4_3) : St := St.mk ([jk, jk, CV.int IntKind.u32 p0, jk, jk, jk, jk, CV.int IntKind.i64 p1, CV.ptr (0 : Nat) [], CV.ptr (3 : Nat) [], jk, jk, jk, jk, CV.pure (Ty.slice (Ty.int IntKind.u8)) (((Sp.v_14 p11 (p9, p10, p8) [(39 : Int), (2 : Int), IntKind.wrap IntKind.u8 (Int.fdiv p4 (256 : Int)), IntKind.wrap IntKind.u8 p4] p1).2.2.1) : (List Int)), CV.int IntKind.i64 p3, CV.int IntKind.i64 p4, CV.int IntKind.u8 p5] ++ (jl 21 ++ ([CV.pure Zy4_10 p6, CV.int IntKind.i64 p7] ++ (jl 61 ++ ([CV.int IntKind.i64 p3, CV.bool (decide (p3 < (1 : Int))), CV.bool false, CV.pure (Ty.slice (Ty.int IntKind.u8)) p2, CV.int IntKind.u8 p5, CV.whole (4 : Nat), CV.bool ((Sp.v_18 p2 [(127 : Int), (39 : Int), p5]).1), CV.bool !(Sp.v_18 p2 [(127 : Int), (39 : Int), p5]).1, CV.bool !(Sp.v_18 p2 [(127 : Int), (39 : Int), p5]).1, CV.bool false, CV.ptr (3 : Nat) [Step.f (2 : Nat) (2 : Nat)], CV.int IntKind.i64 (p11.2.2.1), CV.bool (p11.2.2.1 != (0 : Int)), CV.bool false, CV.tup (CV.pair (CV.pure Zy4_2 (((Sp.v_14 p11 (p9, p10, p8) [(39 : Int), (2 : Int), IntKind.wrap IntKind.u8 (Int.fdiv p4 (256 : Int)), IntKind.wrap IntKind.u8 p4] p1).1) : (Zt4_11))) (CV.pair (CV.pure Zy4_4 (((Sp.v_14 p11 (p9, p10, p8) [(39 : Int), (2 : Int), IntKind.wrap IntKind.u8 (Int.fdiv p4 (256 : Int)), IntKind.wrap IntKind.u8 p4] p1).2.1) : (Zt4_8))) (CV.pair (CV.pure (Ty.slice (Ty.int IntKind.u8)) (((Sp.v_14 p11 (p9, p10, p8) [(39 : Int), (2 : Int), IntKind.wrap IntKind.u8 (Int.fdiv p4 (256 : Int)), IntKind.wrap IntKind.u8 p4] p1).2.2.1) : (List Int))) (CV.pure Ty.unit PUnit.unit)))), CV.pure Zy4_2 p11, CV.pair (CV.whole (1 : Nat)) (CV.pair (CV.whole (2 : Nat)) (CV.pure Zy4_9 p8)), CV.int IntKind.i64 p4, CV.int IntKind.i64 (Int.fdiv p4 (256 : Int)), CV.int IntKind.u8 (IntKind.wrap IntKind.u8 (Int.fdiv p4 (256 : Int))), CV.int IntKind.i64 p4, CV.int IntKind.u8 (IntKind.wrap IntKind.u8 p4), CV.whole (5 : Nat), CV.int IntKind.i64 p1, CV.tup (CV.pair (CV.pure Zy4_2 (((Sp.v_14 p11 (p9, p10, p8) [(39 : Int), (2 : Int), IntKind.wrap IntKind.u8 (Int.fdiv p4 (256 : Int)), IntKind.wrap IntKind.u8 p4] p1).1) : (Zt4_11))) (CV.pair (CV.pure Zy4_4 (((Sp.v_14 p11 (p9, p10, p8) [(39 : Int), (2 : Int), IntKind.wrap IntKind.u8 (Int.fdiv p4 (256 : Int)), IntKind.wrap IntKind.u8 p4] p1).2.1) : (Zt4_8))) (CV.pair (CV.pure (Ty.slice (Ty.int IntKind.u8)) (((Sp.v_14 p11 (p9, p10, p8) [(39 : Int), (2 : Int), IntKind.wrap IntKind.u8 (Int.fdiv p4 (256 : Int)), IntKind.wrap IntKind.u8 p4] p1).2.2.1) : (List Int))) (CV.pure Ty.unit PUnit.unit)))), CV.pure Zy4_2 (((Sp.v_14 p11 (p9, p10, p8) [(39 : Int), (2 : Int), IntKind.wrap IntKind.u8 (Int.fdiv p4 (256 : Int)), IntKind.wrap IntKind.u8 p4] p1).1) : (Zt4_11)), CV.pure Zy4_4 (((Sp.v_14 p11 (p9, p10, p8) [(39 : Int), (2 : Int), IntKind.wrap IntKind.u8 (Int.fdiv p4 (256 : Int)), IntKind.wrap IntKind.u8 p4] p1).2.1) : (Zt4_8)), CV.pure (Ty.slice (Ty.int IntKind.u8)) (((Sp.v_14 p11 (p9, p10, p8) [(39 : Int), (2 : Int), IntKind.wrap IntKind.u8 (Int.fdiv p4 (256 : Int)), IntKind.wrap IntKind.u8 p4] p1).2.2.1) : (List Int)), CV.pure (Ty.slice (Ty.int IntKind.u8)) (((Sp.v_14 p11 (p9, p10, p8) [(39 : Int), (2 : Int), IntKind.wrap IntKind.u8 (Int.fdiv p4 (256 : Int)), IntKind.wrap IntKind.u8 p4] p1).2.2.1) : (List Int)), CV.whole (6 : Nat), CV.bool ((Sp.v_18 ((Sp.v_14 p11 (p9, p10, p8) [(39 : Int), (2 : Int), IntKind.wrap IntKind.u8 (Int.fdiv p4 (256 : Int)), IntKind.wrap IntKind.u8 p4] p1).2.2.1) [(127 : Int), (39 : Int), (36 : Int)]).1), CV.bool false] ++ (jl 75)))))) [Blk.mem (CV.pair (CV.whole (1 : Nat)) (CV.pair (CV.whole (2 : Nat)) (CV.pure Zy4_9 p8))), Blk.fvec (58 : Nat) Zy4_5 p9, Blk.fvec (60 : Nat) Zy4_6 p10, Blk.mem (CV.pure Zy4_2 p11), Blk.vec (5 : Nat) (Ty.int IntKind.u8) [(127 : Int), (39 : Int), p5], Blk.fvec (5 : Nat) (Ty.int IntKind.u8) [(39 : Int), (2 : Int), IntKind.wrap IntKind.u8 (Int.fdiv p4 (256 : Int)), IntKind.wrap IntKind.u8 p4], Blk.vec (5 : Nat) (Ty.int IntKind.u8) [(127 : Int), (39 : Int), (36 : Int)]] (0 : Nat)
inductive Sp.E_4_1 where
  | e0
  | e1 (p0 : Int) (p1 : Int) (p2 : List Int) (p3 : Int) (p4 : Int) (p5 : Int) (p6 : List Int) (p7 : Int) (p8 : Zt4_7) (p9 : Zt4_0) (p10 : Zt4_1) (p11 : Zt4_3)
noncomputable def Sp.B_4_1 {R : Type} (r : Option Sp.E_4_1) (k0 : Option R) (k1 : (Int) → (Int) → (List Int) → (Int) → (Int) → (Int) → (List Int) → (Int) → (Zt4_7) → (Zt4_0) → (Zt4_1) → (Zt4_3) → Option R) : Option R := match r with
  | none => none
  | some (.e0) => k0
  | some (.e1 p0 p1 p2 p3 p4 p5 p6 p7 p8 p9 p10 p11) => k1 p0 p1 p2 p3 p4 p5 p6 p7 p8 p9 p10 p11
noncomputable def Sp.J_4_1 (p0 : Int) (p1 : Int) (p2 : List Int) (p3 : Int) (p4 : Int) (p5 : Int) (p6 : List Int) (p7 : Int) (p8 : Int × Bool × Unit) (p9 : List (Int × Int × Int × Int × Int × Int × Bool × Int × Unit)) (p10 : List (Int × Int × Int × Int × Int × List Int × Int × Unit)) (p11 : Int × Int × Int × Int × Int × Int × Unit) : Option Sp.E_4_1 :=
  bif decide (p3 < (1 : Int)) then some (Sp.E_4_1.e0) else gd (Sp.p_18 p2 [(127 : Int), (39 : Int), p5]) (bif !(Sp.v_18 p2 [(127 : Int), (39 : Int), p5]).1 then some (Sp.E_4_1.e0) else bif p11.2.2.1 != (0 : Int) then some (Sp.E_4_1.e0) else gd (Sp.p_14 p11 (p9, p10, p8) [(39 : Int), (2 : Int), IntKind.wrap IntKind.u8 (Int.fdiv p4 (256 : Int)), IntKind.wrap IntKind.u8 p4] p1) (gd (Sp.p_18 ((Sp.v_14 p11 (p9, p10, p8) [(39 : Int), (2 : Int), IntKind.wrap IntKind.u8 (Int.fdiv p4 (256 : Int)), IntKind.wrap IntKind.u8 p4] p1).2.2.1) [(127 : Int), (39 : Int), (36 : Int)]) (bif !(Sp.v_18 ((Sp.v_14 p11 (p9, p10, p8) [(39 : Int), (2 : Int), IntKind.wrap IntKind.u8 (Int.fdiv p4 (256 : Int)), IntKind.wrap IntKind.u8 p4] p1).2.2.1) [(127 : Int), (39 : Int), (36 : Int)]).1 then some (Sp.E_4_1.e0) else some (Sp.E_4_1.e1 p0 p1 p2 p3 p4 p5 p6 p7 p8 p9 p10 p11))))
noncomputable def G_4_1 {R : Type} (p0 : Int) (p1 : Int) (p2 : List Int) (p3 : Int) (p4 : Int) (p5 : Int) (p6 : List Int) (p7 : Int) (p8 : Zt4_7) (p9 : Zt4_0) (p10 : Zt4_1) (p11 : Zt4_3) (k : Ex → St → Option R) : Option R := Sp.B_4_1 (Sp.J_4_1 p0 p1 p2 p3 p4 p5 p6 p7 p8 p9 p10 p11) (k Ex.ret (X_4_1_0)) (fun p0 p1 p2 p3 p4 p5 p6 p7 p8 p9 p10 p11 => k Ex.normal (X_4_1_1 p0 p1 p2 p3 p4 p5 p6 p7 p8 p9 p10 p11))
noncomputable def o_4_1 {R : Type} (G : (Int) → (Int) → (List Int) → (Int) → (Int) → (Int) → (List Int) → (Int) → (Zt4_7) → (Zt4_0) → (Zt4_1) → (Zt4_3) → (Ex → St → Option R) → Option R) : St → (Ex → St → Option R) → Option R := fun T k => match T.sl.getD 2 .junk, T.sl.getD 7 .junk, T.sl.getD 8 .junk, T.sl.getD 9 .junk, T.sl.getD 14 .junk, T.sl.getD 15 .junk, T.sl.getD 16 .junk, T.sl.getD 17 .junk, T.sl.getD 39 .junk, T.sl.getD 40 .junk, T.hp with
  | CV.int IntKind.u32 p0, CV.int IntKind.i64 p1, CV.ptr (0 : Nat) [], CV.ptr (3 : Nat) [], CV.pure (Ty.slice (Ty.int IntKind.u8)) p2, CV.int IntKind.i64 p3, CV.int IntKind.i64 p4, CV.int IntKind.u8 p5, CV.pure (Ty.arr (3 : Nat) (Ty.int IntKind.u16)) p6, CV.int IntKind.i64 p7, ((Blk.mem (CV.pair (CV.whole (1 : Nat)) (CV.pair (CV.whole (2 : Nat)) (CV.pure (Ty.pair (Ty.int IntKind.i64) (Ty.pair Ty.bool Ty.unit)) p8)))) :: (Blk.fvec (58 : Nat) (Ty.pair (Ty.int IntKind.i64) (Ty.pair (Ty.int IntKind.i64) (Ty.pair (Ty.int IntKind.i64) (Ty.pair (Ty.int IntKind.i64) (Ty.pair (Ty.int IntKind.i64) (Ty.pair (Ty.int IntKind.i64) (Ty.pair Ty.bool (Ty.pair (Ty.int IntKind.i64) Ty.unit)))))))) p9) :: (Blk.fvec (60 : Nat) (Ty.pair (Ty.int IntKind.i64) (Ty.pair (Ty.int IntKind.i64) (Ty.pair (Ty.int IntKind.i64) (Ty.pair (Ty.int IntKind.i64) (Ty.pair (Ty.int IntKind.i64) (Ty.pair (Ty.slice (Ty.int IntKind.i64)) (Ty.pair (Ty.int IntKind.i64) Ty.unit))))))) p10) :: (Blk.mem (CV.pure (Ty.pair (Ty.int IntKind.i64) (Ty.pair (Ty.int IntKind.i64) (Ty.pair (Ty.int IntKind.i64) (Ty.pair (Ty.int IntKind.i64) (Ty.pair (Ty.int IntKind.i64) (Ty.pair (Ty.int IntKind.i64) Ty.unit)))))) p11)) :: []) => gd (shapeOK T 209 [2, 7, 8, 9, 14, 15, 16, 17, 39, 40] (0 : Nat)) (G p0 p1 p2 p3 p4 p5 p6 p7 p8 p9 p10 p11 k)
  | _, _, _, _, _, _, _, _, _, _, _ => none
theorem o_4_1_inv {R : Type} {G : (Int) → (Int) → (List Int) → (Int) → (Int) → (Int) → (List Int) → (Int) → (Zt4_7) → (Zt4_0) → (Zt4_1) → (Zt4_3) → (Ex → St → Option R) → Option R} {T : St} {k : Ex → St → Option R} {r : R} (h : o_4_1 G T k = some r) : ∃ p0 p1 p2 p3 p4 p5 p6 p7 p8 p9 p10 p11, T = T_4_1 p0 p1 p2 p3 p4 p5 p6 p7 p8 p9 p10 p11 ∧ G p0 p1 p2 p3 p4 p5 p6 p7 p8 p9 p10 p11 k = some r := by
  unfold o_4_1 at h
  split at h
  · obtain ⟨hs, h'⟩ := gd_some h
    refine ⟨_, _, _, _, _, _, _, _, _, _, _, _, (st_of (asg := [(2, _), (7, _), (8, _), (9, _), (14, _), (15, _), (16, _), (17, _), (39, _), (40, _)]) hs ⟨by assumption, by assumption, by assumption, by assumption, by assumption, by assumption, by assumption, by assumption, by assumption, by assumption, trivial⟩ (by assumption)).trans ?_, h'⟩
    kernel_rfl
  · cases h
noncomputable def T_4_0_1 (p0 : Int) (p1 : Int) (p2 : List Int) (p3 : Int) (p4 : Zt4_7) (p5 : Zt4_0) (p6 : Zt4_1) (p7 : Zt4_3) : St := St.mk ([jk, jk, CV.int IntKind.u32 p0, jk, jk, jk, jk, CV.int IntKind.i64 p1, CV.ptr (0 : Nat) [], CV.ptr (3 : Nat) []] ++ (jl 29 ++ ([CV.pure Zy4_10 p2, CV.int IntKind.i64 p3] ++ (jl 168)))) [Blk.mem (CV.pair (CV.whole (1 : Nat)) (CV.pair (CV.whole (2 : Nat)) (CV.pure Zy4_9 p4))), Blk.fvec (58 : Nat) Zy4_5 p5, Blk.fvec (60 : Nat) Zy4_6 p6, Blk.mem (CV.pure Zy4_2 p7)] (0 : Nat)
noncomputable def X_4_0_1_0 : St := St.mk (jl 6 ++ ([CV.bool true] ++ (jl 202))) [] (0 : Nat)
noncomputable def X_4_0_1_1 : St := St.mk (jl 6 ++ ([CV.bool false] ++ (jl 202))) [] (0 : Nat)
noncomputable def X_4_0_1_2 (p0 : Int) (p1 : Int) (p4 : Zt4_7) (p5 : Zt4_0) (p6 : Zt4_1) (p7 : Zt4_3) : St := St.mk ([jk, jk, CV.int IntKind.u32 p0, jk, jk, jk, jk, CV.int IntKind.i64 p1, CV.ptr (0 : Nat) [], CV.ptr (3 : Nat) []] ++ (jl 199)) [Blk.mem (CV.pair (CV.whole (1 : Nat)) (CV.pair (CV.whole (2 : Nat)) (CV.pure Zy4_9 p4))), Blk.fvec (58 : Nat) Zy4_5 p5, Blk.fvec (60 : Nat) Zy4_6 p6, Blk.mem (CV.pure Zy4_2 p7)] (0 : Nat)
inductive Sp.E_4_0_1 where
  | e0
  | e1
  | e2 (p0 : Int) (p1 : Int) (p4 : Zt4_7) (p5 : Zt4_0) (p6 : Zt4_1) (p7 : Zt4_3)
noncomputable def Sp.B_4_0_1 {R : Type} (r : Option Sp.E_4_0_1) (k0 : Option R) (k1 : Option R) (k2 : (Int) → (Int) → (Zt4_7) → (Zt4_0) → (Zt4_1) → (Zt4_3) → Option R) : Option R := match r with
  | none => none
  | some (.e0) => k0
  | some (.e1) => k1
  | some (.e2 p0 p1 p4 p5 p6 p7) => k2 p0 p1 p4 p5 p6 p7
noncomputable def Sp.L_4_0_1 : Nat → (Int) → (Int) → (List Int) → (Int) → (Int × Bool × Unit) → (List (Int × Int × Int × Int × Int × Int × Bool × Int × Unit)) → (List (Int × Int × Int × Int × Int × List Int × Int × Unit)) → (Int × Int × Int × Int × Int × Int × Unit) → Option Sp.E_4_0_1
  | 0, _, _, _, _, _, _, _, _ => none
  | m + 1, p0, p1, p2, p3, p4, p5, p6, p7 => bif decide (p3 < (3 : Int)) then gd (inB p3 (3 : Nat)) (bif List.getD p2 (Int.toNat p3) (0 : Int) == (0 : Int) then some (Sp.E_4_0_1.e0) else gd (Sp.p_14 p7 (p5, p6, p4) [(39 : Int), (1 : Int)] p1) (bif (↑(List.length ((Sp.v_14 p7 (p5, p6, p4) [(39 : Int), (1 : Int)] p1).2.2.1)) : Int) != (4 : Int) then some (Sp.E_4_0_1.e1) else gd (inB (0 : Int) (List.length ((Sp.v_14 p7 (p5, p6, p4) [(39 : Int), (1 : Int)] p1).2.2.1))) (bif List.getD ((Sp.v_14 p7 (p5, p6, p4) [(39 : Int), (1 : Int)] p1).2.2.1) (0 : Nat) (0 : Int) != (103 : Int) then some (Sp.E_4_0_1.e1) else gd (inB (1 : Int) (List.length ((Sp.v_14 p7 (p5, p6, p4) [(39 : Int), (1 : Int)] p1).2.2.1))) (bif List.getD ((Sp.v_14 p7 (p5, p6, p4) [(39 : Int), (1 : Int)] p1).2.2.1) (1 : Nat) (0 : Int) != (1 : Int) then some (Sp.E_4_0_1.e1) else gd (inB (2 : Int) (List.length ((Sp.v_14 p7 (p5, p6, p4) [(39 : Int), (1 : Int)] p1).2.2.1))) (gd (inB (3 : Int) (List.length ((Sp.v_14 p7 (p5, p6, p4) [(39 : Int), (1 : Int)] p1).2.2.1))) (gd (Sp.p_19 (Sp.orI IntKind.i64 (IntKind.wrap IntKind.i64 (IntKind.wrap IntKind.i64 (List.getD ((Sp.v_14 p7 (p5, p6, p4) [(39 : Int), (1 : Int)] p1).2.2.1) (2 : Nat) (0 : Int)) * (256 : Int))) (IntKind.wrap IntKind.i64 (List.getD ((Sp.v_14 p7 (p5, p6, p4) [(39 : Int), (1 : Int)] p1).2.2.1) (3 : Nat) (0 : Int)))) (1 : Int)) (gd (Sp.p_14 ((Sp.v_14 p7 (p5, p6, p4) [(39 : Int), (1 : Int)] p1).1) (p5, p6, p4) [(39 : Int), (2 : Int), IntKind.wrap IntKind.u8 (Int.fdiv (Int.tmod (IntKind.wrap IntKind.i64 ((Sp.v_19 (Sp.orI IntKind.i64 (IntKind.wrap IntKind.i64 (IntKind.wrap IntKind.i64 (List.getD ((Sp.v_14 p7 (p5, p6, p4) [(39 : Int), (1 : Int)] p1).2.2.1) (2 : Nat) (0 : Int)) * (256 : Int))) (IntKind.wrap IntKind.i64 (List.getD ((Sp.v_14 p7 (p5, p6, p4) [(39 : Int), (1 : Int)] p1).2.2.1) (3 : Nat) (0 : Int)))) (1 : Int)).1 + IntKind.wrap IntKind.i64 (List.getD p2 (Int.toNat p3) (0 : Int)))) (65536 : Int)) (256 : Int)), IntKind.wrap IntKind.u8 (Int.tmod (IntKind.wrap IntKind.i64 ((Sp.v_19 (Sp.orI IntKind.i64 (IntKind.wrap IntKind.i64 (IntKind.wrap IntKind.i64 (List.getD ((Sp.v_14 p7 (p5, p6, p4) [(39 : Int), (1 : Int)] p1).2.2.1) (2 : Nat) (0 : Int)) * (256 : Int))) (IntKind.wrap IntKind.i64 (List.getD ((Sp.v_14 p7 (p5, p6, p4) [(39 : Int), (1 : Int)] p1).2.2.1) (3 : Nat) (0 : Int)))) (1 : Int)).1 + IntKind.wrap IntKind.i64 (List.getD p2 (Int.toNat p3) (0 : Int)))) (65536 : Int))] p1) (bif p3 == (2 : Int) then Sp.B_4_1 (Sp.J_4_1 p0 p1 ((Sp.v_14 ((Sp.v_14 p7 (p5, p6, p4) [(39 : Int), (1 : Int)] p1).1) (p5, p6, p4) [(39 : Int), (2 : Int), IntKind.wrap IntKind.u8 (Int.fdiv (Int.tmod (IntKind.wrap IntKind.i64 ((Sp.v_19 (Sp.orI IntKind.i64 (IntKind.wrap IntKind.i64 (IntKind.wrap IntKind.i64 (List.getD ((Sp.v_14 p7 (p5, p6, p4) [(39 : Int), (1 : Int)] p1).2.2.1) (2 : Nat) (0 : Int)) * (256 : Int))) (IntKind.wrap IntKind.i64 (List.getD ((Sp.v_14 p7 (p5, p6, p4) [(39 : Int), (1 : Int)] p1).2.2.1) (3 : Nat) (0 : Int)))) (1 : Int)).1 + IntKind.wrap IntKind.i64 (List.getD p2 (Int.toNat p3) (0 : Int)))) (65536 : Int)) (256 : Int)), IntKind.wrap IntKind.u8 (Int.tmod (IntKind.wrap IntKind.i64 ((Sp.v_19 (Sp.orI IntKind.i64 (IntKind.wrap IntKind.i64 (IntKind.wrap IntKind.i64 (List.getD ((Sp.v_14 p7 (p5, p6, p4) [(39 : Int), (1 : Int)] p1).2.2.1) (2 : Nat) (0 : Int)) * (256 : Int))) (IntKind.wrap IntKind.i64 (List.getD ((Sp.v_14 p7 (p5, p6, p4) [(39 : Int), (1 : Int)] p1).2.2.1) (3 : Nat) (0 : Int)))) (1 : Int)).1 + IntKind.wrap IntKind.i64 (List.getD p2 (Int.toNat p3) (0 : Int)))) (65536 : Int))] p1).2.2.1) (Sp.orI IntKind.i64 (IntKind.wrap IntKind.i64 (IntKind.wrap IntKind.i64 (List.getD ((Sp.v_14 p7 (p5, p6, p4) [(39 : Int), (1 : Int)] p1).2.2.1) (2 : Nat) (0 : Int)) * (256 : Int))) (IntKind.wrap IntKind.i64 (List.getD ((Sp.v_14 p7 (p5, p6, p4) [(39 : Int), (1 : Int)] p1).2.2.1) (3 : Nat) (0 : Int)))) (Int.tmod (IntKind.wrap IntKind.i64 ((Sp.v_19 (Sp.orI IntKind.i64 (IntKind.wrap IntKind.i64 (IntKind.wrap IntKind.i64 (List.getD ((Sp.v_14 p7 (p5, p6, p4) [(39 : Int), (1 : Int)] p1).2.2.1) (2 : Nat) (0 : Int)) * (256 : Int))) (IntKind.wrap IntKind.i64 (List.getD ((Sp.v_14 p7 (p5, p6, p4) [(39 : Int), (1 : Int)] p1).2.2.1) (3 : Nat) (0 : Int)))) (1 : Int)).1 + IntKind.wrap IntKind.i64 (List.getD p2 (Int.toNat p3) (0 : Int)))) (65536 : Int)) (54 : Int) p2 p3 p4 p5 p6 ((Sp.v_14 ((Sp.v_14 p7 (p5, p6, p4) [(39 : Int), (1 : Int)] p1).1) (p5, p6, p4) [(39 : Int), (2 : Int), IntKind.wrap IntKind.u8 (Int.fdiv (Int.tmod (IntKind.wrap IntKind.i64 ((Sp.v_19 (Sp.orI IntKind.i64 (IntKind.wrap IntKind.i64 (IntKind.wrap IntKind.i64 (List.getD ((Sp.v_14 p7 (p5, p6, p4) [(39 : Int), (1 : Int)] p1).2.2.1) (2 : Nat) (0 : Int)) * (256 : Int))) (IntKind.wrap IntKind.i64 (List.getD ((Sp.v_14 p7 (p5, p6, p4) [(39 : Int), (1 : Int)] p1).2.2.1) (3 : Nat) (0 : Int)))) (1 : Int)).1 + IntKind.wrap IntKind.i64 (List.getD p2 (Int.toNat p3) (0 : Int)))) (65536 : Int)) (256 : Int)), IntKind.wrap IntKind.u8 (Int.tmod (IntKind.wrap IntKind.i64 ((Sp.v_19 (Sp.orI IntKind.i64 (IntKind.wrap IntKind.i64 (IntKind.wrap IntKind.i64 (List.getD ((Sp.v_14 p7 (p5, p6, p4) [(39 : Int), (1 : Int)] p1).2.2.1) (2 : Nat) (0 : Int)) * (256 : Int))) (IntKind.wrap IntKind.i64 (List.getD ((Sp.v_14 p7 (p5, p6, p4) [(39 : Int), (1 : Int)] p1).2.2.1) (3 : Nat) (0 : Int)))) (1 : Int)).1 + IntKind.wrap IntKind.i64 (List.getD p2 (Int.toNat p3) (0 : Int)))) (65536 : Int))] p1).1)) (some (Sp.E_4_0_1.e1)) fun y24 y25 y26 y27 y28 y29 y30 y31 y32 y33 y34 y35 => Sp.L_4_0_1 m y24 y25 y30 (IntKind.wrap IntKind.i64 (y31 + (1 : Int))) y32 y33 y34 y35 else Sp.B_4_1 (Sp.J_4_1 p0 p1 ((Sp.v_14 ((Sp.v_14 p7 (p5, p6, p4) [(39 : Int), (1 : Int)] p1).1) (p5, p6, p4) [(39 : Int), (2 : Int), IntKind.wrap IntKind.u8 (Int.fdiv (Int.tmod (IntKind.wrap IntKind.i64 ((Sp.v_19 (Sp.orI IntKind.i64 (IntKind.wrap IntKind.i64 (IntKind.wrap IntKind.i64 (List.getD ((Sp.v_14 p7 (p5, p6, p4) [(39 : Int), (1 : Int)] p1).2.2.1) (2 : Nat) (0 : Int)) * (256 : Int))) (IntKind.wrap IntKind.i64 (List.getD ((Sp.v_14 p7 (p5, p6, p4) [(39 : Int), (1 : Int)] p1).2.2.1) (3 : Nat) (0 : Int)))) (1 : Int)).1 + IntKind.wrap IntKind.i64 (List.getD p2 (Int.toNat p3) (0 : Int)))) (65536 : Int)) (256 : Int)), IntKind.wrap IntKind.u8 (Int.tmod (IntKind.wrap IntKind.i64 ((Sp.v_19 (Sp.orI IntKind.i64 (IntKind.wrap IntKind.i64 (IntKind.wrap IntKind.i64 (List.getD ((Sp.v_14 p7 (p5, p6, p4) [(39 : Int), (1 : Int)] p1).2.2.1) (2 : Nat) (0 : Int)) * (256 : Int))) (IntKind.wrap IntKind.i64 (List.getD ((Sp.v_14 p7 (p5, p6, p4) [(39 : Int), (1 : Int)] p1).2.2.1) (3 : Nat) (0 : Int)))) (1 : Int)).1 + IntKind.wrap IntKind.i64 (List.getD p2 (Int.toNat p3) (0 : Int)))) (65536 : Int))] p1).2.2.1) (Sp.orI IntKind.i64 (IntKind.wrap IntKind.i64 (IntKind.wrap IntKind.i64 (List.getD ((Sp.v_14 p7 (p5, p6, p4) [(39 : Int), (1 : Int)] p1).2.2.1) (2 : Nat) (0 : Int)) * (256 : Int))) (IntKind.wrap IntKind.i64 (List.getD ((Sp.v_14 p7 (p5, p6, p4) [(39 : Int), (1 : Int)] p1).2.2.1) (3 : Nat) (0 : Int)))) (Int.tmod (IntKind.wrap IntKind.i64 ((Sp.v_19 (Sp.orI IntKind.i64 (IntKind.wrap IntKind.i64 (IntKind.wrap IntKind.i64 (List.getD ((Sp.v_14 p7 (p5, p6, p4) [(39 : Int), (1 : Int)] p1).2.2.1) (2 : Nat) (0 : Int)) * (256 : Int))) (IntKind.wrap IntKind.i64 (List.getD ((Sp.v_14 p7 (p5, p6, p4) [(39 : Int), (1 : Int)] p1).2.2.1) (3 : Nat) (0 : Int)))) (1 : Int)).1 + IntKind.wrap IntKind.i64 (List.getD p2 (Int.toNat p3) (0 : Int)))) (65536 : Int)) (53 : Int) p2 p3 p4 p5 p6 ((Sp.v_14 ((Sp.v_14 p7 (p5, p6, p4) [(39 : Int), (1 : Int)] p1).1) (p5, p6, p4) [(39 : Int), (2 : Int), IntKind.wrap IntKind.u8 (Int.fdiv (Int.tmod (IntKind.wrap IntKind.i64 ((Sp.v_19 (Sp.orI IntKind.i64 (IntKind.wrap IntKind.i64 (IntKind.wrap IntKind.i64 (List.getD ((Sp.v_14 p7 (p5, p6, p4) [(39 : Int), (1 : Int)] p1).2.2.1) (2 : Nat) (0 : Int)) * (256 : Int))) (IntKind.wrap IntKind.i64 (List.getD ((Sp.v_14 p7 (p5, p6, p4) [(39 : Int), (1 : Int)] p1).2.2.1) (3 : Nat) (0 : Int)))) (1 : Int)).1 + IntKind.wrap IntKind.i64 (List.getD p2 (Int.toNat p3) (0 : Int)))) (65536 : Int)) (256 : Int)), IntKind.wrap IntKind.u8 (Int.tmod (IntKind.wrap IntKind.i64 ((Sp.v_19 (Sp.orI IntKind.i64 (IntKind.wrap IntKind.i64 (IntKind.wrap IntKind.i64 (List.getD ((Sp.v_14 p7 (p5, p6, p4) [(39 : Int), (1 : Int)] p1).2.2.1) (2 : Nat) (0 : Int)) * (256 : Int))) (IntKind.wrap IntKind.i64 (List.getD ((Sp.v_14 p7 (p5, p6, p4) [(39 : Int), (1 : Int)] p1).2.2.1) (3 : Nat) (0 : Int)))) (1 : Int)).1 + IntKind.wrap IntKind.i64 (List.getD p2 (Int.toNat p3) (0 : Int)))) (65536 : Int))] p1).1)) (some (Sp.E_4_0_1.e1)) fun y36 y37 y38 y39 y40 y41 y42 y43 y44 y45 y46 y47 => Sp.L_4_0_1 m y36 y37 y42 (IntKind.wrap IntKind.i64 (y43 + (1 : Int))) y44 y45 y46 y47)))))))) else some (Sp.E_4_0_1.e2 p0 p1 p4 p5 p6 p7)
noncomputable def G_4_0_1 {R : Type} (p0 : Int) (p1 : Int) (p2 : List Int) (p3 : Int) (p4 : Zt4_7) (p5 : Zt4_0) (p6 : Zt4_1) (p7 : Zt4_3) (k : Ex → St → Option R) : Option R := Sp.B_4_0_1 (Sp.L_4_0_1 FU p0 p1 p2 p3 p4 p5 p6 p7) (k Ex.ret (X_4_0_1_0)) (k Ex.ret (X_4_0_1_1)) (fun p0 p1 p4 p5 p6 p7 => k (Ex.exit (0 : Nat)) (X_4_0_1_2 p0 p1 p4 p5 p6 p7))
noncomputable def m_4_0_1 : St → Bool := fun T => match T.sl.getD 2 .junk, T.sl.getD 7 .junk, T.sl.getD 8 .junk, T.sl.getD 9 .junk, T.sl.getD 39 .junk, T.sl.getD 40 .junk, T.hp with
  | CV.int IntKind.u32 p0, CV.int IntKind.i64 p1, CV.ptr (0 : Nat) [], CV.ptr (3 : Nat) [], CV.pure (Ty.arr (3 : Nat) (Ty.int IntKind.u16)) p2, CV.int IntKind.i64 p3, ((Blk.mem (CV.pair (CV.whole (1 : Nat)) (CV.pair (CV.whole (2 : Nat)) (CV.pure (Ty.pair (Ty.int IntKind.i64) (Ty.pair Ty.bool Ty.unit)) p4)))) :: (Blk.fvec (58 : Nat) (Ty.pair (Ty.int IntKind.i64) (Ty.pair (Ty.int IntKind.i64) (Ty.pair (Ty.int IntKind.i64) (Ty.pair (Ty.int IntKind.i64) (Ty.pair (Ty.int IntKind.i64) (Ty.pair (Ty.int IntKind.i64) (Ty.pair Ty.bool (Ty.pair (Ty.int IntKind.i64) Ty.unit)))))))) p5) :: (Blk.fvec (60 : Nat) (Ty.pair (Ty.int IntKind.i64) (Ty.pair (Ty.int IntKind.i64) (Ty.pair (Ty.int IntKind.i64) (Ty.pair (Ty.int IntKind.i64) (Ty.pair (Ty.int IntKind.i64) (Ty.pair (Ty.slice (Ty.int IntKind.i64)) (Ty.pair (Ty.int IntKind.i64) Ty.unit))))))) p6) :: (Blk.mem (CV.pure (Ty.pair (Ty.int IntKind.i64) (Ty.pair (Ty.int IntKind.i64) (Ty.pair (Ty.int IntKind.i64) (Ty.pair (Ty.int IntKind.i64) (Ty.pair (Ty.int IntKind.i64) (Ty.pair (Ty.int IntKind.i64) Ty.unit)))))) p7)) :: []) => shapeOK T 209 [2, 7, 8, 9, 39, 40] (0 : Nat)
  | _, _, _, _, _, _, _ => false
noncomputable def o_4_0_1 {R : Type} (G : (Int) → (Int) → (List Int) → (Int) → (Zt4_7) → (Zt4_0) → (Zt4_1) → (Zt4_3) → (Ex → St → Option R) → Option R) : St → (Ex → St → Option R) → Option R := fun T k => match T.sl.getD 2 .junk, T.sl.getD 7 .junk, T.sl.getD 8 .junk, T.sl.getD 9 .junk, T.sl.getD 39 .junk, T.sl.getD 40 .junk, T.hp with
  | CV.int IntKind.u32 p0, CV.int IntKind.i64 p1, CV.ptr (0 : Nat) [], CV.ptr (3 : Nat) [], CV.pure (Ty.arr (3 : Nat) (Ty.int IntKind.u16)) p2, CV.int IntKind.i64 p3, ((Blk.mem (CV.pair (CV.whole (1 : Nat)) (CV.pair (CV.whole (2 : Nat)) (CV.pure (Ty.pair (Ty.int IntKind.i64) (Ty.pair Ty.bool Ty.unit)) p4)))) :: (Blk.fvec (58 : Nat) (Ty.pair (Ty.int IntKind.i64) (Ty.pair (Ty.int IntKind.i64) (Ty.pair (Ty.int IntKind.i64) (Ty.pair (Ty.int IntKind.i64) (Ty.pair (Ty.int IntKind.i64) (Ty.pair (Ty.int IntKind.i64) (Ty.pair Ty.bool (Ty.pair (Ty.int IntKind.i64) Ty.unit)))))))) p5) :: (Blk.fvec (60 : Nat) (Ty.pair (Ty.int IntKind.i64) (Ty.pair (Ty.int IntKind.i64) (Ty.pair (Ty.int IntKind.i64) (Ty.pair (Ty.int IntKind.i64) (Ty.pair (Ty.int IntKind.i64) (Ty.pair (Ty.slice (Ty.int IntKind.i64)) (Ty.pair (Ty.int IntKind.i64) Ty.unit))))))) p6) :: (Blk.mem (CV.pure (Ty.pair (Ty.int IntKind.i64) (Ty.pair (Ty.int IntKind.i64) (Ty.pair (Ty.int IntKind.i64) (Ty.pair (Ty.int IntKind.i64) (Ty.pair (Ty.int IntKind.i64) (Ty.pair (Ty.int IntKind.i64) Ty.unit)))))) p7)) :: []) => gd (shapeOK T 209 [2, 7, 8, 9, 39, 40] (0 : Nat)) (G p0 p1 p2 p3 p4 p5 p6 p7 k)
  | _, _, _, _, _, _, _ => none
theorem o_4_0_1_inv {R : Type} {G : (Int) → (Int) → (List Int) → (Int) → (Zt4_7) → (Zt4_0) → (Zt4_1) → (Zt4_3) → (Ex → St → Option R) → Option R} {T : St} {k : Ex → St → Option R} {r : R} (h : o_4_0_1 G T k = some r) : ∃ p0 p1 p2 p3 p4 p5 p6 p7, T = T_4_0_1 p0 p1 p2 p3 p4 p5 p6 p7 ∧ G p0 p1 p2 p3 p4 p5 p6 p7 k = some r := by
  unfold o_4_0_1 at h
  split at h
  · obtain ⟨hs, h'⟩ := gd_some h
    refine ⟨_, _, _, _, _, _, _, _, (st_of (asg := [(2, _), (7, _), (8, _), (9, _), (39, _), (40, _)]) hs ⟨by assumption, by assumption, by assumption, by assumption, by assumption, by assumption, trivial⟩ (by assumption)).trans ?_, h'⟩
    kernel_rfl
  · cases h
noncomputable def T_4_0 (p0 : Int) (p1 : Int) (p2 : List Int) (p3 : Int) (p4 : Zt4_7) (p5 : Zt4_0) (p6 : Zt4_1) (p7 : Zt4_3) : St := St.mk ([jk, jk, CV.int IntKind.u32 p0, jk, jk, jk, jk, CV.int IntKind.i64 p1, CV.ptr (0 : Nat) [], CV.ptr (3 : Nat) []] ++ (jl 29 ++ ([CV.pure Zy4_10 p2, CV.int IntKind.i64 p3] ++ (jl 168)))) [Blk.mem (CV.pair (CV.whole (1 : Nat)) (CV.pair (CV.whole (2 : Nat)) (CV.pure Zy4_9 p4))), Blk.vec (58 : Nat) Zy4_5 p5, Blk.vec (60 : Nat) Zy4_6 p6, Blk.mem (CV.pure Zy4_2 p7)] (0 : Nat)
noncomputable def X_4_0_0 : St := St.mk (jl 6 ++ ([CV.bool true] ++ (jl 202))) [] (0 : Nat)
noncomputable def X_4_0_1 : St := St.mk (jl 6 ++ ([CV.bool false] ++ (jl 202))) [] (0 : Nat)
noncomputable def X_4_0_2 (p0 : Int) (p1 : Int) (p4 : Zt4_7) (p5 : Zt4_0) (p6 : Zt4_1) (p7 : Zt4_3) : St := St.mk ([jk, jk, CV.int IntKind.u32 p0, jk, jk, jk, jk, CV.int IntKind.i64 p1, CV.ptr (0 : Nat) [], CV.ptr (3 : Nat) []] ++ (jl 199)) [Blk.mem (CV.pair (CV.whole (1 : Nat)) (CV.pair (CV.whole (2 : Nat)) (CV.pure Zy4_9 p4))), Blk.vec (58 : Nat) Zy4_5 p5, Blk.vec (60 : Nat) Zy4_6 p6, Blk.mem (CV.pure Zy4_2 p7)] (0 : Nat)
noncomputable def X_4_0_3 : St := St.mk (jl 6 ++ ([CV.bool true] ++ (jl 202))) [] (0 : Nat)
noncomputable def X_4_0_4 : St := St.mk (jl 6 ++ ([CV.bool false] ++ (jl 202))) [] (0 : Nat)
noncomputable def X_4_0_5 (p0 : Int) (p1 : Int) (p4 : Zt4_7) (p5 : Zt4_0) (p6 : Zt4_1) (p7 : Zt4_3) : St := St.mk ([jk, jk, CV.int IntKind.u32 p0, jk, jk, jk, jk, CV.int IntKind.i64 p1, CV.ptr (0 : Nat) [], CV.ptr (3 : Nat) []] ++ (jl 199)) [Blk.mem (CV.pair (CV.whole (1 : Nat)) (CV.pair (CV.whole (2 : Nat)) (CV.pure Zy4_9 p4))), Blk.fvec (58 : Nat) Zy4_5 p5, Blk.fvec (60 : Nat) Zy4_6 p6, Blk.mem (CV.pure Zy4_2 p7)] (0 : Nat)
inductive Sp.E_4_0 where
  | e0
  | e1
  | e2 (p0 : Int) (p1 : Int) (p4 : Zt4_7) (p5 : Zt4_0) (p6 : Zt4_1) (p7 : Zt4_3)
  | e3
  | e4
  | e5 (p0 : Int) (p1 : Int) (p4 : Zt4_7) (p5 : Zt4_0) (p6 : Zt4_1) (p7 : Zt4_3)
noncomputable def Sp.B_4_0 {R : Type} (r : Option Sp.E_4_0) (k0 : Option R) (k1 : Option R) (k2 : (Int) → (Int) → (Zt4_7) → (Zt4_0) → (Zt4_1) → (Zt4_3) → Option R) (k3 : Option R) (k4 : Option R) (k5 : (Int) → (Int) → (Zt4_7) → (Zt4_0) → (Zt4_1) → (Zt4_3) → Option R) : Option R := match r with
  | none => none
  | some (.e0) => k0
  | some (.e1) => k1
  | some (.e2 p0 p1 p4 p5 p6 p7) => k2 p0 p1 p4 p5 p6 p7
  | some (.e3) => k3
  | some (.e4) => k4
  | some (.e5 p0 p1 p4 p5 p6 p7) => k5 p0 p1 p4 p5 p6 p7
noncomputable def Sp.L_4_0 : Nat → (Int) → (Int) → (List Int) → (Int) → (Int × Bool × Unit) → (List (Int × Int × Int × Int × Int × Int × Bool × Int × Unit)) → (List (Int × Int × Int × Int × Int × List Int × Int × Unit)) → (Int × Int × Int × Int × Int × Int × Unit) → Option Sp.E_4_0
  | 0, _, _, _, _, _, _, _, _ => none
  | m + 1, p0, p1, p2, p3, p4, p5, p6, p7 => bif decide (p3 < (3 : Int)) then gd (inB p3 (3 : Nat)) (bif List.getD p2 (Int.toNat p3) (0 : Int) == (0 : Int) then some (Sp.E_4_0.e0) else gd (Sp.p_14 p7 (p5, p6, p4) [(39 : Int), (1 : Int)] p1) (bif (↑(List.length ((Sp.v_14 p7 (p5, p6, p4) [(39 : Int), (1 : Int)] p1).2.2.1)) : Int) != (4 : Int) then some (Sp.E_4_0.e1) else gd (inB (0 : Int) (List.length ((Sp.v_14 p7 (p5, p6, p4) [(39 : Int), (1 : Int)] p1).2.2.1))) (bif List.getD ((Sp.v_14 p7 (p5, p6, p4) [(39 : Int), (1 : Int)] p1).2.2.1) (0 : Nat) (0 : Int) != (103 : Int) then some (Sp.E_4_0.e1) else gd (inB (1 : Int) (List.length ((Sp.v_14 p7 (p5, p6, p4) [(39 : Int), (1 : Int)] p1).2.2.1))) (bif List.getD ((Sp.v_14 p7 (p5, p6, p4) [(39 : Int), (1 : Int)] p1).2.2.1) (1 : Nat) (0 : Int) != (1 : Int) then some (Sp.E_4_0.e1) else gd (inB (2 : Int) (List.length ((Sp.v_14 p7 (p5, p6, p4) [(39 : Int), (1 : Int)] p1).2.2.1))) (gd (inB (3 : Int) (List.length ((Sp.v_14 p7 (p5, p6, p4) [(39 : Int), (1 : Int)] p1).2.2.1))) (gd (Sp.p_19 (Sp.orI IntKind.i64 (IntKind.wrap IntKind.i64 (IntKind.wrap IntKind.i64 (List.getD ((Sp.v_14 p7 (p5, p6, p4) [(39 : Int), (1 : Int)] p1).2.2.1) (2 : Nat) (0 : Int)) * (256 : Int))) (IntKind.wrap IntKind.i64 (List.getD ((Sp.v_14 p7 (p5, p6, p4) [(39 : Int), (1 : Int)] p1).2.2.1) (3 : Nat) (0 : Int)))) (1 : Int)) (gd (Sp.p_14 ((Sp.v_14 p7 (p5, p6, p4) [(39 : Int), (1 : Int)] p1).1) (p5, p6, p4) [(39 : Int), (2 : Int), IntKind.wrap IntKind.u8 (Int.fdiv (Int.tmod (IntKind.wrap IntKind.i64 ((Sp.v_19 (Sp.orI IntKind.i64 (IntKind.wrap IntKind.i64 (IntKind.wrap IntKind.i64 (List.getD ((Sp.v_14 p7 (p5, p6, p4) [(39 : Int), (1 : Int)] p1).2.2.1) (2 : Nat) (0 : Int)) * (256 : Int))) (IntKind.wrap IntKind.i64 (List.getD ((Sp.v_14 p7 (p5, p6, p4) [(39 : Int), (1 : Int)] p1).2.2.1) (3 : Nat) (0 : Int)))) (1 : Int)).1 + IntKind.wrap IntKind.i64 (List.getD p2 (Int.toNat p3) (0 : Int)))) (65536 : Int)) (256 : Int)), IntKind.wrap IntKind.u8 (Int.tmod (IntKind.wrap IntKind.i64 ((Sp.v_19 (Sp.orI IntKind.i64 (IntKind.wrap IntKind.i64 (IntKind.wrap IntKind.i64 (List.getD ((Sp.v_14 p7 (p5, p6, p4) [(39 : Int), (1 : Int)] p1).2.2.1) (2 : Nat) (0 : Int)) * (256 : Int))) (IntKind.wrap IntKind.i64 (List.getD ((Sp.v_14 p7 (p5, p6, p4) [(39 : Int), (1 : Int)] p1).2.2.1) (3 : Nat) (0 : Int)))) (1 : Int)).1 + IntKind.wrap IntKind.i64 (List.getD p2 (Int.toNat p3) (0 : Int)))) (65536 : Int))] p1) (bif p3 == (2 : Int) then Sp.B_4_1 (Sp.J_4_1 p0 p1 ((Sp.v_14 ((Sp.v_14 p7 (p5, p6, p4) [(39 : Int), (1 : Int)] p1).1) (p5, p6, p4) [(39 : Int), (2 : Int), IntKind.wrap IntKind.u8 (Int.fdiv (Int.tmod (IntKind.wrap IntKind.i64 ((Sp.v_19 (Sp.orI IntKind.i64 (IntKind.wrap IntKind.i64 (IntKind.wrap IntKind.i64 (List.getD ((Sp.v_14 p7 (p5, p6, p4) [(39 : Int), (1 : Int)] p1).2.2.1) (2 : Nat) (0 : Int)) * (256 : Int))) (IntKind.wrap IntKind.i64 (List.getD ((Sp.v_14 p7 (p5, p6, p4) [(39 : Int), (1 : Int)] p1).2.2.1) (3 : Nat) (0 : Int)))) (1 : Int)).1 + IntKind.wrap IntKind.i64 (List.getD p2 (Int.toNat p3) (0 : Int)))) (65536 : Int)) (256 : Int)), IntKind.wrap IntKind.u8 (Int.tmod (IntKind.wrap IntKind.i64 ((Sp.v_19 (Sp.orI IntKind.i64 (IntKind.wrap IntKind.i64 (IntKind.wrap IntKind.i64 (List.getD ((Sp.v_14 p7 (p5, p6, p4) [(39 : Int), (1 : Int)] p1).2.2.1) (2 : Nat) (0 : Int)) * (256 : Int))) (IntKind.wrap IntKind.i64 (List.getD ((Sp.v_14 p7 (p5, p6, p4) [(39 : Int), (1 : Int)] p1).2.2.1) (3 : Nat) (0 : Int)))) (1 : Int)).1 + IntKind.wrap IntKind.i64 (List.getD p2 (Int.toNat p3) (0 : Int)))) (65536 : Int))] p1).2.2.1) (Sp.orI IntKind.i64 (IntKind.wrap IntKind.i64 (IntKind.wrap IntKind.i64 (List.getD ((Sp.v_14 p7 (p5, p6, p4) [(39 : Int), (1 : Int)] p1).2.2.1) (2 : Nat) (0 : Int)) * (256 : Int))) (IntKind.wrap IntKind.i64 (List.getD ((Sp.v_14 p7 (p5, p6, p4) [(39 : Int), (1 : Int)] p1).2.2.1) (3 : Nat) (0 : Int)))) (Int.tmod (IntKind.wrap IntKind.i64 ((Sp.v_19 (Sp.orI IntKind.i64 (IntKind.wrap IntKind.i64 (IntKind.wrap IntKind.i64 (List.getD ((Sp.v_14 p7 (p5, p6, p4) [(39 : Int), (1 : Int)] p1).2.2.1) (2 : Nat) (0 : Int)) * (256 : Int))) (IntKind.wrap IntKind.i64 (List.getD ((Sp.v_14 p7 (p5, p6, p4) [(39 : Int), (1 : Int)] p1).2.2.1) (3 : Nat) (0 : Int)))) (1 : Int)).1 + IntKind.wrap IntKind.i64 (List.getD p2 (Int.toNat p3) (0 : Int)))) (65536 : Int)) (54 : Int) p2 p3 p4 p5 p6 ((Sp.v_14 ((Sp.v_14 p7 (p5, p6, p4) [(39 : Int), (1 : Int)] p1).1) (p5, p6, p4) [(39 : Int), (2 : Int), IntKind.wrap IntKind.u8 (Int.fdiv (Int.tmod (IntKind.wrap IntKind.i64 ((Sp.v_19 (Sp.orI IntKind.i64 (IntKind.wrap IntKind.i64 (IntKind.wrap IntKind.i64 (List.getD ((Sp.v_14 p7 (p5, p6, p4) [(39 : Int), (1 : Int)] p1).2.2.1) (2 : Nat) (0 : Int)) * (256 : Int))) (IntKind.wrap IntKind.i64 (List.getD ((Sp.v_14 p7 (p5, p6, p4) [(39 : Int), (1 : Int)] p1).2.2.1) (3 : Nat) (0 : Int)))) (1 : Int)).1 + IntKind.wrap IntKind.i64 (List.getD p2 (Int.toNat p3) (0 : Int)))) (65536 : Int)) (256 : Int)), IntKind.wrap IntKind.u8 (Int.tmod (IntKind.wrap IntKind.i64 ((Sp.v_19 (Sp.orI IntKind.i64 (IntKind.wrap IntKind.i64 (IntKind.wrap IntKind.i64 (List.getD ((Sp.v_14 p7 (p5, p6, p4) [(39 : Int), (1 : Int)] p1).2.2.1) (2 : Nat) (0 : Int)) * (256 : Int))) (IntKind.wrap IntKind.i64 (List.getD ((Sp.v_14 p7 (p5, p6, p4) [(39 : Int), (1 : Int)] p1).2.2.1) (3 : Nat) (0 : Int)))) (1 : Int)).1 + IntKind.wrap IntKind.i64 (List.getD p2 (Int.toNat p3) (0 : Int)))) (65536 : Int))] p1).1)) (some (Sp.E_4_0.e1)) fun y24 y25 y26 y27 y28 y29 y30 y31 y32 y33 y34 y35 => Sp.B_4_0_1 (Sp.L_4_0_1 m y24 y25 y30 (IntKind.wrap IntKind.i64 (y31 + (1 : Int))) y32 y33 y34 y35) (some (Sp.E_4_0.e3)) (some (Sp.E_4_0.e4)) (fun p0 p1 p4 p5 p6 p7 => some (Sp.E_4_0.e5 p0 p1 p4 p5 p6 p7)) else Sp.B_4_1 (Sp.J_4_1 p0 p1 ((Sp.v_14 ((Sp.v_14 p7 (p5, p6, p4) [(39 : Int), (1 : Int)] p1).1) (p5, p6, p4) [(39 : Int), (2 : Int), IntKind.wrap IntKind.u8 (Int.fdiv (Int.tmod (IntKind.wrap IntKind.i64 ((Sp.v_19 (Sp.orI IntKind.i64 (IntKind.wrap IntKind.i64 (IntKind.wrap IntKind.i64 (List.getD ((Sp.v_14 p7 (p5, p6, p4) [(39 : Int), (1 : Int)] p1).2.2.1) (2 : Nat) (0 : Int)) * (256 : Int))) (IntKind.wrap IntKind.i64 (List.getD ((Sp.v_14 p7 (p5, p6, p4) [(39 : Int), (1 : Int)] p1).2.2.1) (3 : Nat) (0 : Int)))) (1 : Int)).1 + IntKind.wrap IntKind.i64 (List.getD p2 (Int.toNat p3) (0 : Int)))) (65536 : Int)) (256 : Int)), IntKind.wrap IntKind.u8 (Int.tmod (IntKind.wrap IntKind.i64 ((Sp.v_19 (Sp.orI IntKind.i64 (IntKind.wrap IntKind.i64 (IntKind.wrap IntKind.i64 (List.getD ((Sp.v_14 p7 (p5, p6, p4) [(39 : Int), (1 : Int)] p1).2.2.1) (2 : Nat) (0 : Int)) * (256 : Int))) (IntKind.wrap IntKind.i64 (List.getD ((Sp.v_14 p7 (p5, p6, p4) [(39 : Int), (1 : Int)] p1).2.2.1) (3 : Nat) (0 : Int)))) (1 : Int)).1 + IntKind.wrap IntKind.i64 (List.getD p2 (Int.toNat p3) (0 : Int)))) (65536 : Int))] p1).2.2.1) (Sp.orI IntKind.i64 (IntKind.wrap IntKind.i64 (IntKind.wrap IntKind.i64 (List.getD ((Sp.v_14 p7 (p5, p6, p4) [(39 : Int), (1 : Int)] p1).2.2.1) (2 : Nat) (0 : Int)) * (256 : Int))) (IntKind.wrap IntKind.i64 (List.getD ((Sp.v_14 p7 (p5, p6, p4) [(39 : Int), (1 : Int)] p1).2.2.1) (3 : Nat) (0 : Int)))) (Int.tmod (IntKind.wrap IntKind.i64 ((Sp.v_19 (Sp.orI IntKind.i64 (IntKind.wrap IntKind.i64 (IntKind.wrap IntKind.i64 (List.getD ((Sp.v_14 p7 (p5, p6, p4) [(39 : Int), (1 : Int)] p1).2.2.1) (2 : Nat) (0 : Int)) * (256 : Int))) (IntKind.wrap IntKind.i64 (List.getD ((Sp.v_14 p7 (p5, p6, p4) [(39 : Int), (1 : Int)] p1).2.2.1) (3 : Nat) (0 : Int)))) (1 : Int)).1 + IntKind.wrap IntKind.i64 (List.getD p2 (Int.toNat p3) (0 : Int)))) (65536 : Int)) (53 : Int) p2 p3 p4 p5 p6 ((Sp.v_14 ((Sp.v_14 p7 (p5, p6, p4) [(39 : Int), (1 : Int)] p1).1) (p5, p6, p4) [(39 : Int), (2 : Int), IntKind.wrap IntKind.u8 (Int.fdiv (Int.tmod (IntKind.wrap IntKind.i64 ((Sp.v_19 (Sp.orI IntKind.i64 (IntKind.wrap IntKind.i64 (IntKind.wrap IntKind.i64 (List.getD ((Sp.v_14 p7 (p5, p6, p4) [(39 : Int), (1 : Int)] p1).2.2.1) (2 : Nat) (0 : Int)) * (256 : Int))) (IntKind.wrap IntKind.i64 (List.getD ((Sp.v_14 p7 (p5, p6, p4) [(39 : Int), (1 : Int)] p1).2.2.1) (3 : Nat) (0 : Int)))) (1 : Int)).1 + IntKind.wrap IntKind.i64 (List.getD p2 (Int.toNat p3) (0 : Int)))) (65536 : Int)) (256 : Int)), IntKind.wrap IntKind.u8 (Int.tmod (IntKind.wrap IntKind.i64 ((Sp.v_19 (Sp.orI IntKind.i64 (IntKind.wrap IntKind.i64 (IntKind.wrap IntKind.i64 (List.getD ((Sp.v_14 p7 (p5, p6, p4) [(39 : Int), (1 : Int)] p1).2.2.1) (2 : Nat) (0 : Int)) * (256 : Int))) (IntKind.wrap IntKind.i64 (List.getD ((Sp.v_14 p7 (p5, p6, p4) [(39 : Int), (1 : Int)] p1).2.2.1) (3 : Nat) (0 : Int)))) (1 : Int)).1 + IntKind.wrap IntKind.i64 (List.getD p2 (Int.toNat p3) (0 : Int)))) (65536 : Int))] p1).1)) (some (Sp.E_4_0.e1)) fun y36 y37 y38 y39 y40 y41 y42 y43 y44 y45 y46 y47 => Sp.B_4_0_1 (Sp.L_4_0_1 m y36 y37 y42 (IntKind.wrap IntKind.i64 (y43 + (1 : Int))) y44 y45 y46 y47) (some (Sp.E_4_0.e3)) (some (Sp.E_4_0.e4)) (fun p0 p1 p4 p5 p6 p7 => some (Sp.E_4_0.e5 p0 p1 p4 p5 p6 p7)))))))))) else some (Sp.E_4_0.e2 p0 p1 p4 p5 p6 p7)
noncomputable def G_4_0 {R : Type} (p0 : Int) (p1 : Int) (p2 : List Int) (p3 : Int) (p4 : Zt4_7) (p5 : Zt4_0) (p6 : Zt4_1) (p7 : Zt4_3) (k : Ex → St → Option R) : Option R := Sp.B_4_0 (Sp.L_4_0 FU p0 p1 p2 p3 p4 p5 p6 p7) (k Ex.ret (X_4_0_0)) (k Ex.ret (X_4_0_1)) (fun p0 p1 p4 p5 p6 p7 => k (Ex.exit (0 : Nat)) (X_4_0_2 p0 p1 p4 p5 p6 p7)) (k Ex.ret (X_4_0_3)) (k Ex.ret (X_4_0_4)) (fun p0 p1 p4 p5 p6 p7 => k (Ex.exit (0 : Nat)) (X_4_0_5 p0 p1 p4 p5 p6 p7))
noncomputable def m_4_0 : St → Bool := fun T => match T.sl.getD 2 .junk, T.sl.getD 7 .junk, T.sl.getD 8 .junk, T.sl.getD 9 .junk, T.sl.getD 39 .junk, T.sl.getD 40 .junk, T.hp with
  | CV.int IntKind.u32 p0, CV.int IntKind.i64 p1, CV.ptr (0 : Nat) [], CV.ptr (3 : Nat) [], CV.pure (Ty.arr (3 : Nat) (Ty.int IntKind.u16)) p2, CV.int IntKind.i64 p3, ((Blk.mem (CV.pair (CV.whole (1 : Nat)) (CV.pair (CV.whole (2 : Nat)) (CV.pure (Ty.pair (Ty.int IntKind.i64) (Ty.pair Ty.bool Ty.unit)) p4)))) :: (Blk.vec (58 : Nat) (Ty.pair (Ty.int IntKind.i64) (Ty.pair (Ty.int IntKind.i64) (Ty.pair (Ty.int IntKind.i64) (Ty.pair (Ty.int IntKind.i64) (Ty.pair (Ty.int IntKind.i64) (Ty.pair (Ty.int IntKind.i64) (Ty.pair Ty.bool (Ty.pair (Ty.int IntKind.i64) Ty.unit)))))))) p5) :: (Blk.vec (60 : Nat) (Ty.pair (Ty.int IntKind.i64) (Ty.pair (Ty.int IntKind.i64) (Ty.pair (Ty.int IntKind.i64) (Ty.pair (Ty.int IntKind.i64) (Ty.pair (Ty.int IntKind.i64) (Ty.pair (Ty.slice (Ty.int IntKind.i64)) (Ty.pair (Ty.int IntKind.i64) Ty.unit))))))) p6) :: (Blk.mem (CV.pure (Ty.pair (Ty.int IntKind.i64) (Ty.pair (Ty.int IntKind.i64) (Ty.pair (Ty.int IntKind.i64) (Ty.pair (Ty.int IntKind.i64) (Ty.pair (Ty.int IntKind.i64) (Ty.pair (Ty.int IntKind.i64) Ty.unit)))))) p7)) :: []) => shapeOK T 209 [2, 7, 8, 9, 39, 40] (0 : Nat)
  | _, _, _, _, _, _, _ => false
noncomputable def o_4_0 {R : Type} (G : (Int) → (Int) → (List Int) → (Int) → (Zt4_7) → (Zt4_0) → (Zt4_1) → (Zt4_3) → (Ex → St → Option R) → Option R) : St → (Ex → St → Option R) → Option R := fun T k => match T.sl.getD 2 .junk, T.sl.getD 7 .junk, T.sl.getD 8 .junk, T.sl.getD 9 .junk, T.sl.getD 39 .junk, T.sl.getD 40 .junk, T.hp with
  | CV.int IntKind.u32 p0, CV.int IntKind.i64 p1, CV.ptr (0 : Nat) [], CV.ptr (3 : Nat) [], CV.pure (Ty.arr (3 : Nat) (Ty.int IntKind.u16)) p2, CV.int IntKind.i64 p3, ((Blk.mem (CV.pair (CV.whole (1 : Nat)) (CV.pair (CV.whole (2 : Nat)) (CV.pure (Ty.pair (Ty.int IntKind.i64) (Ty.pair Ty.bool Ty.unit)) p4)))) :: (Blk.vec (58 : Nat) (Ty.pair (Ty.int IntKind.i64) (Ty.pair (Ty.int IntKind.i64) (Ty.pair (Ty.int IntKind.i64) (Ty.pair (Ty.int IntKind.i64) (Ty.pair (Ty.int IntKind.i64) (Ty.pair (Ty.int IntKind.i64) (Ty.pair Ty.bool (Ty.pair (Ty.int IntKind.i64) Ty.unit)))))))) p5) :: (Blk.vec (60 : Nat) (Ty.pair (Ty.int IntKind.i64) (Ty.pair (Ty.int IntKind.i64) (Ty.pair (Ty.int IntKind.i64) (Ty.pair (Ty.int IntKind.i64) (Ty.pair (Ty.int IntKind.i64) (Ty.pair (Ty.slice (Ty.int IntKind.i64)) (Ty.pair (Ty.int IntKind.i64) Ty.unit))))))) p6) :: (Blk.mem (CV.pure (Ty.pair (Ty.int IntKind.i64) (Ty.pair (Ty.int IntKind.i64) (Ty.pair (Ty.int IntKind.i64) (Ty.pair (Ty.int IntKind.i64) (Ty.pair (Ty.int IntKind.i64) (Ty.pair (Ty.int IntKind.i64) Ty.unit)))))) p7)) :: []) => gd (shapeOK T 209 [2, 7, 8, 9, 39, 40] (0 : Nat)) (G p0 p1 p2 p3 p4 p5 p6 p7 k)
  | _, _, _, _, _, _, _ => none
theorem o_4_0_inv {R : Type} {G : (Int) → (Int) → (List Int) → (Int) → (Zt4_7) → (Zt4_0) → (Zt4_1) → (Zt4_3) → (Ex → St → Option R) → Option R} {T : St} {k : Ex → St → Option R} {r : R} (h : o_4_0 G T k = some r) : ∃ p0 p1 p2 p3 p4 p5 p6 p7, T = T_4_0 p0 p1 p2 p3 p4 p5 p6 p7 ∧ G p0 p1 p2 p3 p4 p5 p6 p7 k = some r := by
  unfold o_4_0 at h
  split at h
  · obtain ⟨hs, h'⟩ := gd_some h
    refine ⟨_, _, _, _, _, _, _, _, (st_of (asg := [(2, _), (7, _), (8, _), (9, _), (39, _), (40, _)]) hs ⟨by assumption, by assumption, by assumption, by assumption, by assumption, by assumption, trivial⟩ (by assumption)).trans ?_, h'⟩
    kernel_rfl
  · cases h
noncomputable def O_4_4_1 {R : Type} : St → (Ex → St → Option R) → Option R := fun T k => o_4_1 G_4_1 T k
noncomputable def O_4_4_0 {R : Type} : St → (Ex → St → Option R) → Option R := fun T k => bif m_4_0 T then o_4_0 G_4_0 T k else bif m_4_0_1 T then o_4_0_1 G_4_0_1 T k else none
theorem body_4_1 {R : Type} (K1 : Ex → St → Option R) (p0 : Int) (p1 : Int) (p2 : List Int) (p3 : Int) (p4 : Int) (p5 : Int) (p6 : List Int) (p7 : Int) (p8 : Zt4_7) (p9 : Zt4_0) (p10 : Zt4_1) (p11 : Zt4_3) : evJ (evCodeL sm_4 FU (ovr noO (evFn sm_4 fns FU 0)) .nil ir4_b1) (T_4_1 p0 p1 p2 p3 p4 p5 p6 p7 p8 p9 p10 p11) K1 =
  bif decide (p3 < (1 : Int)) then K1 Ex.ret X_4_1_0 else gd (Sp.p_18 p2 [(127 : Int), (39 : Int), p5]) (bif !(Sp.v_18 p2 [(127 : Int), (39 : Int), p5]).1 then K1 Ex.ret X_4_1_0 else bif p11.2.2.1 != (0 : Int) then K1 Ex.ret X_4_1_0 else gd (Sp.p_14 p11 (p9, p10, p8) [(39 : Int), (2 : Int), IntKind.wrap IntKind.u8 (Int.fdiv p4 (256 : Int)), IntKind.wrap IntKind.u8 p4] p1) (gd (Sp.p_18 ((Sp.v_14 p11 (p9, p10, p8) [(39 : Int), (2 : Int), IntKind.wrap IntKind.u8 (Int.fdiv p4 (256 : Int)), IntKind.wrap IntKind.u8 p4] p1).2.2.1) [(127 : Int), (39 : Int), (36 : Int)]) (bif !(Sp.v_18 ((Sp.v_14 p11 (p9, p10, p8) [(39 : Int), (2 : Int), IntKind.wrap IntKind.u8 (Int.fdiv p4 (256 : Int)), IntKind.wrap IntKind.u8 p4] p1).2.2.1) [(127 : Int), (39 : Int), (36 : Int)]).1 then K1 Ex.ret X_4_1_0 else K1 Ex.normal (X_4_1_1 p0 p1 p2 p3 p4 p5 p6 p7 p8 p9 p10 p11)))) := by kernel_rfl
theorem Bgd_4_1 {R : Type} {c : Bool} {x : Option R} {y : Option Sp.E_4_1} {k0 : Option R} {k1 : (Int) → (Int) → (List Int) → (Int) → (Int) → (Int) → (List Int) → (Int) → (Zt4_7) → (Zt4_0) → (Zt4_1) → (Zt4_3) → Option R} (h : x = Sp.B_4_1 y k0 k1) : gd c x = Sp.B_4_1 (gd c y) k0 k1 := by cases c; rfl; exact h
theorem Bcond_4_1 {R : Type} {c : Bool} {x x' : Option R} {y y' : Option Sp.E_4_1} {k0 : Option R} {k1 : (Int) → (Int) → (List Int) → (Int) → (Int) → (Int) → (List Int) → (Int) → (Zt4_7) → (Zt4_0) → (Zt4_1) → (Zt4_3) → Option R} (h : x = Sp.B_4_1 y k0 k1) (h' : x' = Sp.B_4_1 y' k0 k1) : (bif c then x else x') = Sp.B_4_1 (bif c then y else y') k0 k1 := by cases c; exact h'; exact h
theorem loop_4_1 {R : Type} (k : Ex → St → Option R) (p0 : Int) (p1 : Int) (p2 : List Int) (p3 : Int) (p4 : Int) (p5 : Int) (p6 : List Int) (p7 : Int) (p8 : Zt4_7) (p9 : Zt4_0) (p10 : Zt4_1) (p11 : Zt4_3) : evJ (evCodeL sm_4 FU (ovr noO (evFn sm_4 fns FU 0)) .nil ir4_b1) (T_4_1 p0 p1 p2 p3 p4 p5 p6 p7 p8 p9 p10 p11) k = Sp.B_4_1 (Sp.J_4_1 p0 p1 p2 p3 p4 p5 p6 p7 p8 p9 p10 p11) (k Ex.ret (X_4_1_0)) (fun p0 p1 p2 p3 p4 p5 p6 p7 p8 p9 p10 p11 => k Ex.normal (X_4_1_1 p0 p1 p2 p3 p4 p5 p6 p7 p8 p9 p10 p11)) := by
  rw [body_4_1, Sp.J_4_1]
  repeat' first | apply Bgd_4_1 | apply Bcond_4_1 | rfl
theorem ok_4_1 {R : Type} (T : St) (k : Ex → St → Option R) (r : R) (h0 : o_4_1 G_4_1 T k = some r) : evCode sm_4 FU (evFn sm_4 fns FU 0) ir4_b1 T k = some r := by
  obtain ⟨p0, p1, p2, p3, p4, p5, p6, p7, p8, p9, p10, p11, rfl, h⟩ := o_4_1_inv h0
  refine bodyL_sound (t := .nil) noO_ok trivial (((show ∀ (b : St → (Ex → St → Option R) → Option R) (T : St) (k : Ex → St → Option R), b T k = evJ b T k from fun _ _ _ => rfl) _ _ _).trans ((loop_4_1 k p0 p1 p2 p3 p4 p5 p6 p7 p8 p9 p10 p11).trans h))
theorem OK_4_4_1 {R : Type} (T : St) (k : Ex → St → Option R) (r : R) (h : O_4_4_1 T k = some r) : evCode sm_4 FU (evFn sm_4 fns FU 0) ir4_b1 T k = some r := ok_4_1 T k r h
theorem body_4_0_1 {R : Type} (K0 : St → Option R) (K1 : Ex → St → Option R) (p0 : Int) (p1 : Int) (p2 : List Int) (p3 : Int) (p4 : Zt4_7) (p5 : Zt4_0) (p6 : Zt4_1) (p7 : Zt4_3) : evLB (evCodeL sm_4 FU (ovr noO (evFn sm_4 fns FU 0)) (ir4_bt0 O_4_4_1) ir4_b0) (St.norm ir4_v0) (T_4_0_1 p0 p1 p2 p3 p4 p5 p6 p7) K0 K1 =
  bif decide (p3 < (3 : Int)) then gd (inB p3 (3 : Nat)) (bif List.getD p2 (Int.toNat p3) (0 : Int) == (0 : Int) then K1 Ex.ret X_4_0_1_0 else gd (Sp.p_14 p7 (p5, p6, p4) [(39 : Int), (1 : Int)] p1) (bif (↑(List.length ((Sp.v_14 p7 (p5, p6, p4) [(39 : Int), (1 : Int)] p1).2.2.1)) : Int) != (4 : Int) then K1 Ex.ret X_4_0_1_1 else gd (inB (0 : Int) (List.length ((Sp.v_14 p7 (p5, p6, p4) [(39 : Int), (1 : Int)] p1).2.2.1))) (bif List.getD ((Sp.v_14 p7 (p5, p6, p4) [(39 : Int), (1 : Int)] p1).2.2.1) (0 : Nat) (0 : Int) != (103 : Int) then K1 Ex.ret X_4_0_1_1 else gd (inB (1 : Int) (List.length ((Sp.v_14 p7 (p5, p6, p4) [(39 : Int), (1 : Int)] p1).2.2.1))) (bif List.getD ((Sp.v_14 p7 (p5, p6, p4) [(39 : Int), (1 : Int)] p1).2.2.1) (1 : Nat) (0 : Int) != (1 : Int) then K1 Ex.ret X_4_0_1_1 else gd (inB (2 : Int) (List.length ((Sp.v_14 p7 (p5, p6, p4) [(39 : Int), (1 : Int)] p1).2.2.1))) (gd (inB (3 : Int) (List.length ((Sp.v_14 p7 (p5, p6, p4) [(39 : Int), (1 : Int)] p1).2.2.1))) (gd (Sp.p_19 (Sp.orI IntKind.i64 (IntKind.wrap IntKind.i64 (IntKind.wrap IntKind.i64 (List.getD ((Sp.v_14 p7 (p5, p6, p4) [(39 : Int), (1 : Int)] p1).2.2.1) (2 : Nat) (0 : Int)) * (256 : Int))) (IntKind.wrap IntKind.i64 (List.getD ((Sp.v_14 p7 (p5, p6, p4) [(39 : Int), (1 : Int)] p1).2.2.1) (3 : Nat) (0 : Int)))) (1 : Int)) (gd (Sp.p_14 ((Sp.v_14 p7 (p5, p6, p4) [(39 : Int), (1 : Int)] p1).1) (p5, p6, p4) [(39 : Int), (2 : Int), IntKind.wrap IntKind.u8 (Int.fdiv (Int.tmod (IntKind.wrap IntKind.i64 ((Sp.v_19 (Sp.orI IntKind.i64 (IntKind.wrap IntKind.i64 (IntKind.wrap IntKind.i64 (List.getD ((Sp.v_14 p7 (p5, p6, p4) [(39 : Int), (1 : Int)] p1).2.2.1) (2 : Nat) (0 : Int)) * (256 : Int))) (IntKind.wrap IntKind.i64 (List.getD ((Sp.v_14 p7 (p5, p6, p4) [(39 : Int), (1 : Int)] p1).2.2.1) (3 : Nat) (0 : Int)))) (1 : Int)).1 + IntKind.wrap IntKind.i64 (List.getD p2 (Int.toNat p3) (0 : Int)))) (65536 : Int)) (256 : Int)), IntKind.wrap IntKind.u8 (Int.tmod (IntKind.wrap IntKind.i64 ((Sp.v_19 (Sp.orI IntKind.i64 (IntKind.wrap IntKind.i64 (IntKind.wrap IntKind.i64 (List.getD ((Sp.v_14 p7 (p5, p6, p4) [(39 : Int), (1 : Int)] p1).2.2.1) (2 : Nat) (0 : Int)) * (256 : Int))) (IntKind.wrap IntKind.i64 (List.getD ((Sp.v_14 p7 (p5, p6, p4) [(39 : Int), (1 : Int)] p1).2.2.1) (3 : Nat) (0 : Int)))) (1 : Int)).1 + IntKind.wrap IntKind.i64 (List.getD p2 (Int.toNat p3) (0 : Int)))) (65536 : Int))] p1) (bif p3 == (2 : Int) then Sp.B_4_1 (Sp.J_4_1 p0 p1 ((Sp.v_14 ((Sp.v_14 p7 (p5, p6, p4) [(39 : Int), (1 : Int)] p1).1) (p5, p6, p4) [(39 : Int), (2 : Int), IntKind.wrap IntKind.u8 (Int.fdiv (Int.tmod (IntKind.wrap IntKind.i64 ((Sp.v_19 (Sp.orI IntKind.i64 (IntKind.wrap IntKind.i64 (IntKind.wrap IntKind.i64 (List.getD ((Sp.v_14 p7 (p5, p6, p4) [(39 : Int), (1 : Int)] p1).2.2.1) (2 : Nat) (0 : Int)) * (256 : Int))) (IntKind.wrap IntKind.i64 (List.getD ((Sp.v_14 p7 (p5, p6, p4) [(39 : Int), (1 : Int)] p1).2.2.1) (3 : Nat) (0 : Int)))) (1 : Int)).1 + IntKind.wrap IntKind.i64 (List.getD p2 (Int.toNat p3) (0 : Int)))) (65536 : Int)) (256 : Int)), IntKind.wrap IntKind.u8 (Int.tmod (IntKind.wrap IntKind.i64 ((Sp.v_19 (Sp.orI IntKind.i64 (IntKind.wrap IntKind.i64 (IntKind.wrap IntKind.i64 (List.getD ((Sp.v_14 p7 (p5, p6, p4) [(39 : Int), (1 : Int)] p1).2.2.1) (2 : Nat) (0 : Int)) * (256 : Int))) (IntKind.wrap IntKind.i64 (List.getD ((Sp.v_14 p7 (p5, p6, p4) [(39 : Int), (1 : Int)] p1).2.2.1) (3 : Nat) (0 : Int)))) (1 : Int)).1 + IntKind.wrap IntKind.i64 (List.getD p2 (Int.toNat p3) (0 : Int)))) (65536 : Int))] p1).2.2.1) (Sp.orI IntKind.i64 (IntKind.wrap IntKind.i64 (IntKind.wrap IntKind.i64 (List.getD ((Sp.v_14 p7 (p5, p6, p4) [(39 : Int), (1 : Int)] p1).2.2.1) (2 : Nat) (0 : Int)) * (256 : Int))) (IntKind.wrap IntKind.i64 (List.getD ((Sp.v_14 p7 (p5, p6, p4) [(39 : Int), (1 : Int)] p1).2.2.1) (3 : Nat) (0 : Int)))) (Int.tmod (IntKind.wrap IntKind.i64 ((Sp.v_19 (Sp.orI IntKind.i64 (IntKind.wrap IntKind.i64 (IntKind.wrap IntKind.i64 (List.getD ((Sp.v_14 p7 (p5, p6, p4) [(39 : Int), (1 : Int)] p1).2.2.1) (2 : Nat) (0 : Int)) * (256 : Int))) (IntKind.wrap IntKind.i64 (List.getD ((Sp.v_14 p7 (p5, p6, p4) [(39 : Int), (1 : Int)] p1).2.2.1) (3 : Nat) (0 : Int)))) (1 : Int)).1 + IntKind.wrap IntKind.i64 (List.getD p2 (Int.toNat p3) (0 : Int)))) (65536 : Int)) (54 : Int) p2 p3 p4 p5 p6 ((Sp.v_14 ((Sp.v_14 p7 (p5, p6, p4) [(39 : Int), (1 : Int)] p1).1) (p5, p6, p4) [(39 : Int), (2 : Int), IntKind.wrap IntKind.u8 (Int.fdiv (Int.tmod (IntKind.wrap IntKind.i64 ((Sp.v_19 (Sp.orI IntKind.i64 (IntKind.wrap IntKind.i64 (IntKind.wrap IntKind.i64 (List.getD ((Sp.v_14 p7 (p5, p6, p4) [(39 : Int), (1 : Int)] p1).2.2.1) (2 : Nat) (0 : Int)) * (256 : Int))) (IntKind.wrap IntKind.i64 (List.getD ((Sp.v_14 p7 (p5, p6, p4) [(39 : Int), (1 : Int)] p1).2.2.1) (3 : Nat) (0 : Int)))) (1 : Int)).1 + IntKind.wrap IntKind.i64 (List.getD p2 (Int.toNat p3) (0 : Int)))) (65536 : Int)) (256 : Int)), IntKind.wrap IntKind.u8 (Int.tmod (IntKind.wrap IntKind.i64 ((Sp.v_19 (Sp.orI IntKind.i64 (IntKind.wrap IntKind.i64 (IntKind.wrap IntKind.i64 (List.getD ((Sp.v_14 p7 (p5, p6, p4) [(39 : Int), (1 : Int)] p1).2.2.1) (2 : Nat) (0 : Int)) * (256 : Int))) (IntKind.wrap IntKind.i64 (List.getD ((Sp.v_14 p7 (p5, p6, p4) [(39 : Int), (1 : Int)] p1).2.2.1) (3 : Nat) (0 : Int)))) (1 : Int)).1 + IntKind.wrap IntKind.i64 (List.getD p2 (Int.toNat p3) (0 : Int)))) (65536 : Int))] p1).1)) (K1 Ex.ret X_4_0_1_1) fun y24 y25 y26 y27 y28 y29 y30 y31 y32 y33 y34 y35 => K0 (T_4_0_1 y24 y25 y30 (IntKind.wrap IntKind.i64 (y31 + (1 : Int))) y32 y33 y34 y35) else Sp.B_4_1 (Sp.J_4_1 p0 p1 ((Sp.v_14 ((Sp.v_14 p7 (p5, p6, p4) [(39 : Int), (1 : Int)] p1).1) (p5, p6, p4) [(39 : Int), (2 : Int), IntKind.wrap IntKind.u8 (Int.fdiv (Int.tmod (IntKind.wrap IntKind.i64 ((Sp.v_19 (Sp.orI IntKind.i64 (IntKind.wrap IntKind.i64 (IntKind.wrap IntKind.i64 (List.getD ((Sp.v_14 p7 (p5, p6, p4) [(39 : Int), (1 : Int)] p1).2.2.1) (2 : Nat) (0 : Int)) * (256 : Int))) (IntKind.wrap IntKind.i64 (List.getD ((Sp.v_14 p7 (p5, p6, p4) [(39 : Int), (1 : Int)] p1).2.2.1) (3 : Nat) (0 : Int)))) (1 : Int)).1 + IntKind.wrap IntKind.i64 (List.getD p2 (Int.toNat p3) (0 : Int)))) (65536 : Int)) (256 : Int)), IntKind.wrap IntKind.u8 (Int.tmod (IntKind.wrap IntKind.i64 ((Sp.v_19 (Sp.orI IntKind.i64 (IntKind.wrap IntKind.i64 (IntKind.wrap IntKind.i64 (List.getD ((Sp.v_14 p7 (p5, p6, p4) [(39 : Int), (1 : Int)] p1).2.2.1) (2 : Nat) (0 : Int)) * (256 : Int))) (IntKind.wrap IntKind.i64 (List.getD ((Sp.v_14 p7 (p5, p6, p4) [(39 : Int), (1 : Int)] p1).2.2.1) (3 : Nat) (0 : Int)))) (1 : Int)).1 + IntKind.wrap IntKind.i64 (List.getD p2 (Int.toNat p3) (0 : Int)))) (65536 : Int))] p1).2.2.1) (Sp.orI IntKind.i64 (IntKind.wrap IntKind.i64 (IntKind.wrap IntKind.i64 (List.getD ((Sp.v_14 p7 (p5, p6, p4) [(39 : Int), (1 : Int)] p1).2.2.1) (2 : Nat) (0 : Int)) * (256 : Int))) (IntKind.wrap IntKind.i64 (List.getD ((Sp.v_14 p7 (p5, p6, p4) [(39 : Int), (1 : Int)] p1).2.2.1) (3 : Nat) (0 : Int)))) (Int.tmod (IntKind.wrap IntKind.i64 ((Sp.v_19 (Sp.orI IntKind.i64 (IntKind.wrap IntKind.i64 (IntKind.wrap IntKind.i64 (List.getD ((Sp.v_14 p7 (p5, p6, p4) [(39 : Int), (1 : Int)] p1).2.2.1) (2 : Nat) (0 : Int)) * (256 : Int))) (IntKind.wrap IntKind.i64 (List.getD ((Sp.v_14 p7 (p5, p6, p4) [(39 : Int), (1 : Int)] p1).2.2.1) (3 : Nat) (0 : Int)))) (1 : Int)).1 + IntKind.wrap IntKind.i64 (List.getD p2 (Int.toNat p3) (0 : Int)))) (65536 : Int)) (53 : Int) p2 p3 p4 p5 p6 ((Sp.v_14 ((Sp.v_14 p7 (p5, p6, p4) [(39 : Int), (1 : Int)] p1).1) (p5, p6, p4) [(39 : Int), (2 : Int), IntKind.wrap IntKind.u8 (Int.fdiv (Int.tmod (IntKind.wrap IntKind.i64 ((Sp.v_19 (Sp.orI IntKind.i64 (IntKind.wrap IntKind.i64 (IntKind.wrap IntKind.i64 (List.getD ((Sp.v_14 p7 (p5, p6, p4) [(39 : Int), (1 : Int)] p1).2.2.1) (2 : Nat) (0 : Int)) * (256 : Int))) (IntKind.wrap IntKind.i64 (List.getD ((Sp.v_14 p7 (p5, p6, p4) [(39 : Int), (1 : Int)] p1).2.2.1) (3 : Nat) (0 : Int)))) (1 : Int)).1 + IntKind.wrap IntKind.i64 (List.getD p2 (Int.toNat p3) (0 : Int)))) (65536 : Int)) (256 : Int)), IntKind.wrap IntKind.u8 (Int.tmod (IntKind.wrap IntKind.i64 ((Sp.v_19 (Sp.orI IntKind.i64 (IntKind.wrap IntKind.i64 (IntKind.wrap IntKind.i64 (List.getD ((Sp.v_14 p7 (p5, p6, p4) [(39 : Int), (1 : Int)] p1).2.2.1) (2 : Nat) (0 : Int)) * (256 : Int))) (IntKind.wrap IntKind.i64 (List.getD ((Sp.v_14 p7 (p5, p6, p4) [(39 : Int), (1 : Int)] p1).2.2.1) (3 : Nat) (0 : Int)))) (1 : Int)).1 + IntKind.wrap IntKind.i64 (List.getD p2 (Int.toNat p3) (0 : Int)))) (65536 : Int))] p1).1)) (K1 Ex.ret X_4_0_1_1) fun y36 y37 y38 y39 y40 y41 y42 y43 y44 y45 y46 y47 => K0 (T_4_0_1 y36 y37 y42 (IntKind.wrap IntKind.i64 (y43 + (1 : Int))) y44 y45 y46 y47))))))))) else K1 (Ex.exit (0 : Nat)) (X_4_0_1_2 p0 p1 p4 p5 p6 p7) := by kernel_rfl
theorem Bgd_4_0_1 {R : Type} {c : Bool} {x : Option R} {y : Option Sp.E_4_0_1} {k0 : Option R} {k1 : Option R} {k2 : (Int) → (Int) → (Zt4_7) → (Zt4_0) → (Zt4_1) → (Zt4_3) → Option R} (h : x = Sp.B_4_0_1 y k0 k1 k2) : gd c x = Sp.B_4_0_1 (gd c y) k0 k1 k2 := by cases c; rfl; exact h
theorem Bcond_4_0_1 {R : Type} {c : Bool} {x x' : Option R} {y y' : Option Sp.E_4_0_1} {k0 : Option R} {k1 : Option R} {k2 : (Int) → (Int) → (Zt4_7) → (Zt4_0) → (Zt4_1) → (Zt4_3) → Option R} (h : x = Sp.B_4_0_1 y k0 k1 k2) (h' : x' = Sp.B_4_0_1 y' k0 k1 k2) : (bif c then x else x') = Sp.B_4_0_1 (bif c then y else y') k0 k1 k2 := by cases c; exact h'; exact h
theorem Bin_4_0_1_4_1 {R : Type} {r : Option Sp.E_4_1} {k0 : Option R} {k1 : Option R} {k2 : (Int) → (Int) → (Zt4_7) → (Zt4_0) → (Zt4_1) → (Zt4_3) → Option R} {f0 : Option R} {f1 : (Int) → (Int) → (List Int) → (Int) → (Int) → (Int) → (List Int) → (Int) → (Zt4_7) → (Zt4_0) → (Zt4_1) → (Zt4_3) → Option R} {g0 : Option Sp.E_4_0_1} {g1 : (Int) → (Int) → (List Int) → (Int) → (Int) → (Int) → (List Int) → (Int) → (Zt4_7) → (Zt4_0) → (Zt4_1) → (Zt4_3) → Option Sp.E_4_0_1} (h0 : f0 = Sp.B_4_0_1 g0 k0 k1 k2) (h1 : ∀ z0 z1 z2 z3 z4 z5 z6 z7 z8 z9 z10 z11, f1 z0 z1 z2 z3 z4 z5 z6 z7 z8 z9 z10 z11 = Sp.B_4_0_1 (g1 z0 z1 z2 z3 z4 z5 z6 z7 z8 z9 z10 z11) k0 k1 k2) : Sp.B_4_1 r f0 f1 = Sp.B_4_0_1 (Sp.B_4_1 r g0 g1) k0 k1 k2 := by
  cases r with
  | none => rfl
  | some e => cases e with
    | e0 => exact h0
    | e1 z0 z1 z2 z3 z4 z5 z6 z7 z8 z9 z10 z11 => exact h1 _ _ _ _ _ _ _ _ _ _ _ _
theorem loop_4_0_1 {R : Type} (k : Ex → St → Option R) : ∀ (m : Nat) (p0 : Int) (p1 : Int) (p2 : List Int) (p3 : Int) (p4 : Zt4_7) (p5 : Zt4_0) (p6 : Zt4_1) (p7 : Zt4_3), evLoopN (evCodeL sm_4 FU (ovr noO (evFn sm_4 fns FU 0)) (ir4_bt0 O_4_4_1) ir4_b0) (St.norm ir4_v0) m (T_4_0_1 p0 p1 p2 p3 p4 p5 p6 p7) k = Sp.B_4_0_1 (Sp.L_4_0_1 m p0 p1 p2 p3 p4 p5 p6 p7) (k Ex.ret (X_4_0_1_0)) (k Ex.ret (X_4_0_1_1)) (fun p0 p1 p4 p5 p6 p7 => k (Ex.exit (0 : Nat)) (X_4_0_1_2 p0 p1 p4 p5 p6 p7))
  | 0, _, _, _, _, _, _, _, _ => rfl
  | m + 1, p0, p1, p2, p3, p4, p5, p6, p7 => by
    rw [evLoopN_succ, body_4_0_1, Sp.L_4_0_1]
    repeat' first | apply Bgd_4_0_1 | apply Bcond_4_0_1 | (apply Bin_4_0_1_4_1 <;> intros) | exact loop_4_0_1 k m _ _ _ _ _ _ _ _ | rfl
theorem ok_4_0_1 {R : Type} (T : St) (k : Ex → St → Option R) (r : R) (h0 : o_4_0_1 G_4_0_1 T k = some r) : evLoopN (evCode sm_4 FU (evFn sm_4 fns FU 0) ir4_b0) (St.norm ir4_v0) FU T k = some r := by
  obtain ⟨p0, p1, p2, p3, p4, p5, p6, p7, rfl, h⟩ := o_4_0_1_inv h0
  refine evLoopN_L (t := (ir4_bt0 O_4_4_1)) noO_ok (ir4_bt0ok (fun T k r => OK_4_4_1 T k r)) _ _ _ _ ?_
  rw [loop_4_0_1]
  exact h
theorem body_4_0 {R : Type} (K0 : St → Option R) (K1 : Ex → St → Option R) (p0 : Int) (p1 : Int) (p2 : List Int) (p3 : Int) (p4 : Zt4_7) (p5 : Zt4_0) (p6 : Zt4_1) (p7 : Zt4_3) : evLB (evCodeL sm_4 FU (ovr noO (evFn sm_4 fns FU 0)) (ir4_bt0 O_4_4_1) ir4_b0) (St.norm ir4_v0) (T_4_0 p0 p1 p2 p3 p4 p5 p6 p7) K0 K1 =
  bif decide (p3 < (3 : Int)) then gd (inB p3 (3 : Nat)) (bif List.getD p2 (Int.toNat p3) (0 : Int) == (0 : Int) then K1 Ex.ret X_4_0_0 else gd (Sp.p_14 p7 (p5, p6, p4) [(39 : Int), (1 : Int)] p1) (bif (↑(List.length ((Sp.v_14 p7 (p5, p6, p4) [(39 : Int), (1 : Int)] p1).2.2.1)) : Int) != (4 : Int) then K1 Ex.ret X_4_0_1 else gd (inB (0 : Int) (List.length ((Sp.v_14 p7 (p5, p6, p4) [(39 : Int), (1 : Int)] p1).2.2.1))) (bif List.getD ((Sp.v_14 p7 (p5, p6, p4) [(39 : Int), (1 : Int)] p1).2.2.1) (0 : Nat) (0 : Int) != (103 : Int) then K1 Ex.ret X_4_0_1 else gd (inB (1 : Int) (List.length ((Sp.v_14 p7 (p5, p6, p4) [(39 : Int), (1 : Int)] p1).2.2.1))) (bif List.getD ((Sp.v_14 p7 (p5, p6, p4) [(39 : Int), (1 : Int)] p1).2.2.1) (1 : Nat) (0 : Int) != (1 : Int) then K1 Ex.ret X_4_0_1 else gd (inB (2 : Int) (List.length ((Sp.v_14 p7 (p5, p6, p4) [(39 : Int), (1 : Int)] p1).2.2.1))) (gd (inB (3 : Int) (List.length ((Sp.v_14 p7 (p5, p6, p4) [(39 : Int), (1 : Int)] p1).2.2.1))) (gd (Sp.p_19 (Sp.orI IntKind.i64 (IntKind.wrap IntKind.i64 (IntKind.wrap IntKind.i64 (List.getD ((Sp.v_14 p7 (p5, p6, p4) [(39 : Int), (1 : Int)] p1).2.2.1) (2 : Nat) (0 : Int)) * (256 : Int))) (IntKind.wrap IntKind.i64 (List.getD ((Sp.v_14 p7 (p5, p6, p4) [(39 : Int), (1 : Int)] p1).2.2.1) (3 : Nat) (0 : Int)))) (1 : Int)) (gd (Sp.p_14 ((Sp.v_14 p7 (p5, p6, p4) [(39 : Int), (1 : Int)] p1).1) (p5, p6, p4) [(39 : Int), (2 : Int), IntKind.wrap IntKind.u8 (Int.fdiv (Int.tmod (IntKind.wrap IntKind.i64 ((Sp.v_19 (Sp.orI IntKind.i64 (IntKind.wrap IntKind.i64 (IntKind.wrap IntKind.i64 (List.getD ((Sp.v_14 p7 (p5, p6, p4) [(39 : Int), (1 : Int)] p1).2.2.1) (2 : Nat) (0 : Int)) * (256 : Int))) (IntKind.wrap IntKind.i64 (List.getD ((Sp.v_14 p7 (p5, p6, p4) [(39 : Int), (1 : Int)] p1).2.2.1) (3 : Nat) (0 : Int)))) (1 : Int)).1 + IntKind.wrap IntKind.i64 (List.getD p2 (Int.toNat p3) (0 : Int)))) (65536 : Int)) (256 : Int)), IntKind.wrap IntKind.u8 (Int.tmod (IntKind.wrap IntKind.i64 ((Sp.v_19 (Sp.orI IntKind.i64 (IntKind.wrap IntKind.i64 (IntKind.wrap IntKind.i64 (List.getD ((Sp.v_14 p7 (p5, p6, p4) [(39 : Int), (1 : Int)] p1).2.2.1) (2 : Nat) (0 : Int)) * (256 : Int))) (IntKind.wrap IntKind.i64 (List.getD ((Sp.v_14 p7 (p5, p6, p4) [(39 : Int), (1 : Int)] p1).2.2.1) (3 : Nat) (0 : Int)))) (1 : Int)).1 + IntKind.wrap IntKind.i64 (List.getD p2 (Int.toNat p3) (0 : Int)))) (65536 : Int))] p1) (bif p3 == (2 : Int) then Sp.B_4_1 (Sp.J_4_1 p0 p1 ((Sp.v_14 ((Sp.v_14 p7 (p5, p6, p4) [(39 : Int), (1 : Int)] p1).1) (p5, p6, p4) [(39 : Int), (2 : Int), IntKind.wrap IntKind.u8 (Int.fdiv (Int.tmod (IntKind.wrap IntKind.i64 ((Sp.v_19 (Sp.orI IntKind.i64 (IntKind.wrap IntKind.i64 (IntKind.wrap IntKind.i64 (List.getD ((Sp.v_14 p7 (p5, p6, p4) [(39 : Int), (1 : Int)] p1).2.2.1) (2 : Nat) (0 : Int)) * (256 : Int))) (IntKind.wrap IntKind.i64 (List.getD ((Sp.v_14 p7 (p5, p6, p4) [(39 : Int), (1 : Int)] p1).2.2.1) (3 : Nat) (0 : Int)))) (1 : Int)).1 + IntKind.wrap IntKind.i64 (List.getD p2 (Int.toNat p3) (0 : Int)))) (65536 : Int)) (256 : Int)), IntKind.wrap IntKind.u8 (Int.tmod (IntKind.wrap IntKind.i64 ((Sp.v_19 (Sp.orI IntKind.i64 (IntKind.wrap IntKind.i64 (IntKind.wrap IntKind.i64 (List.getD ((Sp.v_14 p7 (p5, p6, p4) [(39 : Int), (1 : Int)] p1).2.2.1) (2 : Nat) (0 : Int)) * (256 : Int))) (IntKind.wrap IntKind.i64 (List.getD ((Sp.v_14 p7 (p5, p6, p4) [(39 : Int), (1 : Int)] p1).2.2.1) (3 : Nat) (0 : Int)))) (1 : Int)).1 + IntKind.wrap IntKind.i64 (List.getD p2 (Int.toNat p3) (0 : Int)))) (65536 : Int))] p1).2.2.1) (Sp.orI IntKind.i64 (IntKind.wrap IntKind.i64 (IntKind.wrap IntKind.i64 (List.getD ((Sp.v_14 p7 (p5, p6, p4) [(39 : Int), (1 : Int)] p1).2.2.1) (2 : Nat) (0 : Int)) * (256 : Int))) (IntKind.wrap IntKind.i64 (List.getD ((Sp.v_14 p7 (p5, p6, p4) [(39 : Int), (1 : Int)] p1).2.2.1) (3 : Nat) (0 : Int)))) (Int.tmod (IntKind.wrap IntKind.i64 ((Sp.v_19 (Sp.orI IntKind.i64 (IntKind.wrap IntKind.i64 (IntKind.wrap IntKind.i64 (List.getD ((Sp.v_14 p7 (p5, p6, p4) [(39 : Int), (1 : Int)] p1).2.2.1) (2 : Nat) (0 : Int)) * (256 : Int))) (IntKind.wrap IntKind.i64 (List.getD ((Sp.v_14 p7 (p5, p6, p4) [(39 : Int), (1 : Int)] p1).2.2.1) (3 : Nat) (0 : Int)))) (1 : Int)).1 + IntKind.wrap IntKind.i64 (List.getD p2 (Int.toNat p3) (0 : Int)))) (65536 : Int)) (54 : Int) p2 p3 p4 p5 p6 ((Sp.v_14 ((Sp.v_14 p7 (p5, p6, p4) [(39 : Int), (1 : Int)] p1).1) (p5, p6, p4) [(39 : Int), (2 : Int), IntKind.wrap IntKind.u8 (Int.fdiv (Int.tmod (IntKind.wrap IntKind.i64 ((Sp.v_19 (Sp.orI IntKind.i64 (IntKind.wrap IntKind.i64 (IntKind.wrap IntKind.i64 (List.getD ((Sp.v_14 p7 (p5, p6, p4) [(39 : Int), (1 : Int)] p1).2.2.1) (2 : Nat) (0 : Int)) * (256 : Int))) (IntKind.wrap IntKind.i64 (List.getD ((Sp.v_14 p7 (p5, p6, p4) [(39 : Int), (1 : Int)] p1).2.2.1) (3 : Nat) (0 : Int)))) (1 : Int)).1 + IntKind.wrap IntKind.i64 (List.getD p2 (Int.toNat p3) (0 : Int)))) (65536 : Int)) (256 : Int)), IntKind.wrap IntKind.u8 (Int.tmod (IntKind.wrap IntKind.i64 ((Sp.v_19 (Sp.orI IntKind.i64 (IntKind.wrap IntKind.i64 (IntKind.wrap IntKind.i64 (List.getD ((Sp.v_14 p7 (p5, p6, p4) [(39 : Int), (1 : Int)] p1).2.2.1) (2 : Nat) (0 : Int)) * (256 : Int))) (IntKind.wrap IntKind.i64 (List.getD ((Sp.v_14 p7 (p5, p6, p4) [(39 : Int), (1 : Int)] p1).2.2.1) (3 : Nat) (0 : Int)))) (1 : Int)).1 + IntKind.wrap IntKind.i64 (List.getD p2 (Int.toNat p3) (0 : Int)))) (65536 : Int))] p1).1)) (K1 Ex.ret X_4_0_1) fun y24 y25 y26 y27 y28 y29 y30 y31 y32 y33 y34 y35 => K0 (T_4_0_1 y24 y25 y30 (IntKind.wrap IntKind.i64 (y31 + (1 : Int))) y32 y33 y34 y35) else Sp.B_4_1 (Sp.J_4_1 p0 p1 ((Sp.v_14 ((Sp.v_14 p7 (p5, p6, p4) [(39 : Int), (1 : Int)] p1).1) (p5, p6, p4) [(39 : Int), (2 : Int), IntKind.wrap IntKind.u8 (Int.fdiv (Int.tmod (IntKind.wrap IntKind.i64 ((Sp.v_19 (Sp.orI IntKind.i64 (IntKind.wrap IntKind.i64 (IntKind.wrap IntKind.i64 (List.getD ((Sp.v_14 p7 (p5, p6, p4) [(39 : Int), (1 : Int)] p1).2.2.1) (2 : Nat) (0 : Int)) * (256 : Int))) (IntKind.wrap IntKind.i64 (List.getD ((Sp.v_14 p7 (p5, p6, p4) [(39 : Int), (1 : Int)] p1).2.2.1) (3 : Nat) (0 : Int)))) (1 : Int)).1 + IntKind.wrap IntKind.i64 (List.getD p2 (Int.toNat p3) (0 : Int)))) (65536 : Int)) (256 : Int)), IntKind.wrap IntKind.u8 (Int.tmod (IntKind.wrap IntKind.i64 ((Sp.v_19 (Sp.orI IntKind.i64 (IntKind.wrap IntKind.i64 (IntKind.wrap IntKind.i64 (List.getD ((Sp.v_14 p7 (p5, p6, p4) [(39 : Int), (1 : Int)] p1).2.2.1) (2 : Nat) (0 : Int)) * (256 : Int))) (IntKind.wrap IntKind.i64 (List.getD ((Sp.v_14 p7 (p5, p6, p4) [(39 : Int), (1 : Int)] p1).2.2.1) (3 : Nat) (0 : Int)))) (1 : Int)).1 + IntKind.wrap IntKind.i64 (List.getD p2 (Int.toNat p3) (0 : Int)))) (65536 : Int))] p1).2.2.1) (Sp.orI IntKind.i64 (IntKind.wrap IntKind.i64 (IntKind.wrap IntKind.i64 (List.getD ((Sp.v_14 p7 (p5, p6, p4) [(39 : Int), (1 : Int)] p1).2.2.1) (2 : Nat) (0 : Int)) * (256 : Int))) (IntKind.wrap IntKind.i64 (List.getD ((Sp.v_14 p7 (p5, p6, p4) [(39 : Int), (1 : Int)] p1).2.2.1) (3 : Nat) (0 : Int)))) (Int.tmod (IntKind.wrap IntKind.i64 ((Sp.v_19 (Sp.orI IntKind.i64 (IntKind.wrap IntKind.i64 (IntKind.wrap IntKind.i64 (List.getD ((Sp.v_14 p7 (p5, p6, p4) [(39 : Int), (1 : Int)] p1).2.2.1) (2 : Nat) (0 : Int)) * (256 : Int))) (IntKind.wrap IntKind.i64 (List.getD ((Sp.v_14 p7 (p5, p6, p4) [(39 : Int), (1 : Int)] p1).2.2.1) (3 : Nat) (0 : Int)))) (1 : Int)).1 + IntKind.wrap IntKind.i64 (List.getD p2 (Int.toNat p3) (0 : Int)))) (65536 : Int)) (53 : Int) p2 p3 p4 p5 p6 ((Sp.v_14 ((Sp.v_14 p7 (p5, p6, p4) [(39 : Int), (1 : Int)] p1).1) (p5, p6, p4) [(39 : Int), (2 : Int), IntKind.wrap IntKind.u8 (Int.fdiv (Int.tmod (IntKind.wrap IntKind.i64 ((Sp.v_19 (Sp.orI IntKind.i64 (IntKind.wrap IntKind.i64 (IntKind.wrap IntKind.i64 (List.getD ((Sp.v_14 p7 (p5, p6, p4) [(39 : Int), (1 : Int)] p1).2.2.1) (2 : Nat) (0 : Int)) * (256 : Int))) (IntKind.wrap IntKind.i64 (List.getD ((Sp.v_14 p7 (p5, p6, p4) [(39 : Int), (1 : Int)] p1).2.2.1) (3 : Nat) (0 : Int)))) (1 : Int)).1 + IntKind.wrap IntKind.i64 (List.getD p2 (Int.toNat p3) (0 : Int)))) (65536 : Int)) (256 : Int)), IntKind.wrap IntKind.u8 (Int.tmod (IntKind.wrap IntKind.i64 ((Sp.v_19 (Sp.orI IntKind.i64 (IntKind.wrap IntKind.i64 (IntKind.wrap IntKind.i64 (List.getD ((Sp.v_14 p7 (p5, p6, p4) [(39 : Int), (1 : Int)] p1).2.2.1) (2 : Nat) (0 : Int)) * (256 : Int))) (IntKind.wrap IntKind.i64 (List.getD ((Sp.v_14 p7 (p5, p6, p4) [(39 : Int), (1 : Int)] p1).2.2.1) (3 : Nat) (0 : Int)))) (1 : Int)).1 + IntKind.wrap IntKind.i64 (List.getD p2 (Int.toNat p3) (0 : Int)))) (65536 : Int))] p1).1)) (K1 Ex.ret X_4_0_1) fun y36 y37 y38 y39 y40 y41 y42 y43 y44 y45 y46 y47 => K0 (T_4_0_1 y36 y37 y42 (IntKind.wrap IntKind.i64 (y43 + (1 : Int))) y44 y45 y46 y47))))))))) else K1 (Ex.exit (0 : Nat)) (X_4_0_2 p0 p1 p4 p5 p6 p7) := by kernel_rfl
theorem Bgd_4_0 {R : Type} {c : Bool} {x : Option R} {y : Option Sp.E_4_0} {k0 : Option R} {k1 : Option R} {k2 : (Int) → (Int) → (Zt4_7) → (Zt4_0) → (Zt4_1) → (Zt4_3) → Option R} {k3 : Option R} {k4 : Option R} {k5 : (Int) → (Int) → (Zt4_7) → (Zt4_0) → (Zt4_1) → (Zt4_3) → Option R} (h : x = Sp.B_4_0 y k0 k1 k2 k3 k4 k5) : gd c x = Sp.B_4_0 (gd c y) k0 k1 k2 k3 k4 k5 := by cases c; rfl; exact h
theorem Bcond_4_0 {R : Type} {c : Bool} {x x' : Option R} {y y' : Option Sp.E_4_0} {k0 : Option R} {k1 : Option R} {k2 : (Int) → (Int) → (Zt4_7) → (Zt4_0) → (Zt4_1) → (Zt4_3) → Option R} {k3 : Option R} {k4 : Option R} {k5 : (Int) → (Int) → (Zt4_7) → (Zt4_0) → (Zt4_1) → (Zt4_3) → Option R} (h : x = Sp.B_4_0 y k0 k1 k2 k3 k4 k5) (h' : x' = Sp.B_4_0 y' k0 k1 k2 k3 k4 k5) : (bif c then x else x') = Sp.B_4_0 (bif c then y else y') k0 k1 k2 k3 k4 k5 := by cases c; exact h'; exact h
theorem Bin_4_0_4_0_1 {R : Type} {r : Option Sp.E_4_0_1} {k0 : Option R} {k1 : Option R} {k2 : (Int) → (Int) → (Zt4_7) → (Zt4_0) → (Zt4_1) → (Zt4_3) → Option R} {k3 : Option R} {k4 : Option R} {k5 : (Int) → (Int) → (Zt4_7) → (Zt4_0) → (Zt4_1) → (Zt4_3) → Option R} {f0 : Option R} {f1 : Option R} {f2 : (Int) → (Int) → (Zt4_7) → (Zt4_0) → (Zt4_1) → (Zt4_3) → Option R} {g0 : Option Sp.E_4_0} {g1 : Option Sp.E_4_0} {g2 : (Int) → (Int) → (Zt4_7) → (Zt4_0) → (Zt4_1) → (Zt4_3) → Option Sp.E_4_0} (h0 : f0 = Sp.B_4_0 g0 k0 k1 k2 k3 k4 k5) (h1 : f1 = Sp.B_4_0 g1 k0 k1 k2 k3 k4 k5) (h2 : ∀ z0 z1 z2 z3 z4 z5, f2 z0 z1 z2 z3 z4 z5 = Sp.B_4_0 (g2 z0 z1 z2 z3 z4 z5) k0 k1 k2 k3 k4 k5) : Sp.B_4_0_1 r f0 f1 f2 = Sp.B_4_0 (Sp.B_4_0_1 r g0 g1 g2) k0 k1 k2 k3 k4 k5 := by
  cases r with
  | none => rfl
  | some e => cases e with
    | e0 => exact h0
    | e1 => exact h1
    | e2 z0 z1 z2 z3 z4 z5 => exact h2 _ _ _ _ _ _
theorem Bin_4_0_4_1 {R : Type} {r : Option Sp.E_4_1} {k0 : Option R} {k1 : Option R} {k2 : (Int) → (Int) → (Zt4_7) → (Zt4_0) → (Zt4_1) → (Zt4_3) → Option R} {k3 : Option R} {k4 : Option R} {k5 : (Int) → (Int) → (Zt4_7) → (Zt4_0) → (Zt4_1) → (Zt4_3) → Option R} {f0 : Option R} {f1 : (Int) → (Int) → (List Int) → (Int) → (Int) → (Int) → (List Int) → (Int) → (Zt4_7) → (Zt4_0) → (Zt4_1) → (Zt4_3) → Option R} {g0 : Option Sp.E_4_0} {g1 : (Int) → (Int) → (List Int) → (Int) → (Int) → (Int) → (List Int) → (Int) → (Zt4_7) → (Zt4_0) → (Zt4_1) → (Zt4_3) → Option Sp.E_4_0} (h0 : f0 = Sp.B_4_0 g0 k0 k1 k2 k3 k4 k5) (h1 : ∀ z0 z1 z2 z3 z4 z5 z6 z7 z8 z9 z10 z11, f1 z0 z1 z2 z3 z4 z5 z6 z7 z8 z9 z10 z11 = Sp.B_4_0 (g1 z0 z1 z2 z3 z4 z5 z6 z7 z8 z9 z10 z11) k0 k1 k2 k3 k4 k5) : Sp.B_4_1 r f0 f1 = Sp.B_4_0 (Sp.B_4_1 r g0 g1) k0 k1 k2 k3 k4 k5 := by
  cases r with
  | none => rfl
  | some e => cases e with
    | e0 => exact h0
    | e1 z0 z1 z2 z3 z4 z5 z6 z7 z8 z9 z10 z11 => exact h1 _ _ _ _ _ _ _ _ _ _ _ _
theorem loop_4_0 {R : Type} (k : Ex → St → Option R) : ∀ (m : Nat) (p0 : Int) (p1 : Int) (p2 : List Int) (p3 : Int) (p4 : Zt4_7) (p5 : Zt4_0) (p6 : Zt4_1) (p7 : Zt4_3), evLoopN (evCodeL sm_4 FU (ovr noO (evFn sm_4 fns FU 0)) (ir4_bt0 O_4_4_1) ir4_b0) (St.norm ir4_v0) m (T_4_0 p0 p1 p2 p3 p4 p5 p6 p7) k = Sp.B_4_0 (Sp.L_4_0 m p0 p1 p2 p3 p4 p5 p6 p7) (k Ex.ret (X_4_0_0)) (k Ex.ret (X_4_0_1)) (fun p0 p1 p4 p5 p6 p7 => k (Ex.exit (0 : Nat)) (X_4_0_2 p0 p1 p4 p5 p6 p7)) (k Ex.ret (X_4_0_3)) (k Ex.ret (X_4_0_4)) (fun p0 p1 p4 p5 p6 p7 => k (Ex.exit (0 : Nat)) (X_4_0_5 p0 p1 p4 p5 p6 p7))
  | 0, _, _, _, _, _, _, _, _ => rfl
  | m + 1, p0, p1, p2, p3, p4, p5, p6, p7 => by
    rw [evLoopN_succ, body_4_0, Sp.L_4_0]
    repeat' first | (refine (loop_4_0_1 k m _ _ _ _ _ _ _ _).trans ?_; apply Bin_4_0_4_0_1 <;> intros) | apply Bgd_4_0 | apply Bcond_4_0 | (apply Bin_4_0_4_0_1 <;> intros) | (apply Bin_4_0_4_1 <;> intros) | exact loop_4_0 k m _ _ _ _ _ _ _ _ | rfl
theorem ok_4_0 {R : Type} (T : St) (k : Ex → St → Option R) (r : R) (h0 : o_4_0 G_4_0 T k = some r) : evLoopN (evCode sm_4 FU (evFn sm_4 fns FU 0) ir4_b0) (St.norm ir4_v0) FU T k = some r := by
  obtain ⟨p0, p1, p2, p3, p4, p5, p6, p7, rfl, h⟩ := o_4_0_inv h0
  refine evLoopN_L (t := (ir4_bt0 O_4_4_1)) noO_ok (ir4_bt0ok (fun T k r => OK_4_4_1 T k r)) _ _ _ _ ?_
  rw [loop_4_0]
  exact h
theorem OK_4_4_0 {R : Type} (T : St) (k : Ex → St → Option R) (r : R) (h : O_4_4_0 T k = some r) : evLoopN (evCode sm_4 FU (evFn sm_4 fns FU 0) ir4_b0) (St.norm ir4_v0) FU T k = some r := by
  unfold O_4_4_0 at h
  cases hm : m_4_0 T
  rotate_left
  · rw [hm, cond_true] at h; exact ok_4_0 T k r h
  rw [hm, cond_false] at h
  clear hm
  cases hm : m_4_0_1 T
  rotate_left
  · rw [hm, cond_true] at h; exact ok_4_0_1 T k r h
  rw [hm, cond_false] at h
  clear hm
  cases h
noncomputable def F_4 (a0 : Int) (a1 : (List Int)) (a2 : Int) : Option (Bool) :=
  gd Sp.p_8 (bif !Sp.v_8.1 then some false else gd Sp.p_12 (gd (Sp.p_14 (Sp.v_12.1) ([], [], (0 : Int), false, PUnit.unit) [(16 : Int), (3 : Int)] (IntKind.wrap IntKind.i64 a0)) (gd (Sp.p_18 ((Sp.v_14 (Sp.v_12.1) ([], [], (0 : Int), false, PUnit.unit) [(16 : Int), (3 : Int)] (IntKind.wrap IntKind.i64 a0)).2.2.1) [(80 : Int), (3 : Int)]) (bif !(Sp.v_18 ((Sp.v_14 (Sp.v_12.1) ([], [], (0 : Int), false, PUnit.unit) [(16 : Int), (3 : Int)] (IntKind.wrap IntKind.i64 a0)).2.2.1) [(80 : Int), (3 : Int)]).1 then some false else Sp.B_4_0 (Sp.L_4_0 (4611686018427387904 : Nat) a2 (IntKind.wrap IntKind.i64 a0) a1 (0 : Int) ((0 : Int), false, PUnit.unit) [] [] ((Sp.v_14 (Sp.v_12.1) ([], [], (0 : Int), false, PUnit.unit) [(16 : Int), (3 : Int)] (IntKind.wrap IntKind.i64 a0)).1)) (some true) (some false) (fun y12 y13 y14 y15 y16 y17 => gd (Sp.p_13 y17 (IntKind.wrap IntKind.i64 (y13 + Int.tmod (IntKind.wrap IntKind.i64 y12) (12000000 : Int)))) (gd (Sp.p_14 ((Sp.v_13 y17 (IntKind.wrap IntKind.i64 (y13 + Int.tmod (IntKind.wrap IntKind.i64 y12) (12000000 : Int)))).1) (y15, y16, y14) [(16 : Int), (3 : Int)] (IntKind.wrap IntKind.i64 (y13 + Int.tmod (IntKind.wrap IntKind.i64 y12) (12000000 : Int)))) (gd (Sp.p_14 ((Sp.v_14 ((Sp.v_13 y17 (IntKind.wrap IntKind.i64 (y13 + Int.tmod (IntKind.wrap IntKind.i64 y12) (12000000 : Int)))).1) (y15, y16, y14) [(16 : Int), (3 : Int)] (IntKind.wrap IntKind.i64 (y13 + Int.tmod (IntKind.wrap IntKind.i64 y12) (12000000 : Int)))).1) (y15, y16, y14) [(39 : Int), (1 : Int)] (IntKind.wrap IntKind.i64 (y13 + Int.tmod (IntKind.wrap IntKind.i64 y12) (12000000 : Int)))) (bif decide (IntKind.wrap IntKind.i64 (y13 + Int.tmod (IntKind.wrap IntKind.i64 y12) (12000000 : Int)) < IntKind.wrap IntKind.i64 (y13 + (10000000 : Int))) then gd (Sp.p_18 ((Sp.v_14 ((Sp.v_14 ((Sp.v_13 y17 (IntKind.wrap IntKind.i64 (y13 + Int.tmod (IntKind.wrap IntKind.i64 y12) (12000000 : Int)))).1) (y15, y16, y14) [(16 : Int), (3 : Int)] (IntKind.wrap IntKind.i64 (y13 + Int.tmod (IntKind.wrap IntKind.i64 y12) (12000000 : Int)))).1) (y15, y16, y14) [(39 : Int), (1 : Int)] (IntKind.wrap IntKind.i64 (y13 + Int.tmod (IntKind.wrap IntKind.i64 y12) (12000000 : Int)))).2.2.1) [(127 : Int), (39 : Int), (55 : Int)]) (some ((Sp.v_18 ((Sp.v_14 ((Sp.v_14 ((Sp.v_13 y17 (IntKind.wrap IntKind.i64 (y13 + Int.tmod (IntKind.wrap IntKind.i64 y12) (12000000 : Int)))).1) (y15, y16, y14) [(16 : Int), (3 : Int)] (IntKind.wrap IntKind.i64 (y13 + Int.tmod (IntKind.wrap IntKind.i64 y12) (12000000 : Int)))).1) (y15, y16, y14) [(39 : Int), (1 : Int)] (IntKind.wrap IntKind.i64 (y13 + Int.tmod (IntKind.wrap IntKind.i64 y12) (12000000 : Int)))).2.2.1) [(127 : Int), (39 : Int), (55 : Int)]).1)) else bif (↑(List.length ((Sp.v_14 ((Sp.v_14 ((Sp.v_13 y17 (IntKind.wrap IntKind.i64 (y13 + Int.tmod (IntKind.wrap IntKind.i64 y12) (12000000 : Int)))).1) (y15, y16, y14) [(16 : Int), (3 : Int)] (IntKind.wrap IntKind.i64 (y13 + Int.tmod (IntKind.wrap IntKind.i64 y12) (12000000 : Int)))).1) (y15, y16, y14) [(39 : Int), (1 : Int)] (IntKind.wrap IntKind.i64 (y13 + Int.tmod (IntKind.wrap IntKind.i64 y12) (12000000 : Int)))).2.2.1)) : Int) != (4 : Int) then some false else gd (inB (0 : Int) (List.length ((Sp.v_14 ((Sp.v_14 ((Sp.v_13 y17 (IntKind.wrap IntKind.i64 (y13 + Int.tmod (IntKind.wrap IntKind.i64 y12) (12000000 : Int)))).1) (y15, y16, y14) [(16 : Int), (3 : Int)] (IntKind.wrap IntKind.i64 (y13 + Int.tmod (IntKind.wrap IntKind.i64 y12) (12000000 : Int)))).1) (y15, y16, y14) [(39 : Int), (1 : Int)] (IntKind.wrap IntKind.i64 (y13 + Int.tmod (IntKind.wrap IntKind.i64 y12) (12000000 : Int)))).2.2.1))) (bif List.getD ((Sp.v_14 ((Sp.v_14 ((Sp.v_13 y17 (IntKind.wrap IntKind.i64 (y13 + Int.tmod (IntKind.wrap IntKind.i64 y12) (12000000 : Int)))).1) (y15, y16, y14) [(16 : Int), (3 : Int)] (IntKind.wrap IntKind.i64 (y13 + Int.tmod (IntKind.wrap IntKind.i64 y12) (12000000 : Int)))).1) (y15, y16, y14) [(39 : Int), (1 : Int)] (IntKind.wrap IntKind.i64 (y13 + Int.tmod (IntKind.wrap IntKind.i64 y12) (12000000 : Int)))).2.2.1) (0 : Nat) (0 : Int) != (103 : Int) then some false else gd (inB (2 : Int) (List.length ((Sp.v_14 ((Sp.v_14 ((Sp.v_13 y17 (IntKind.wrap IntKind.i64 (y13 + Int.tmod (IntKind.wrap IntKind.i64 y12) (12000000 : Int)))).1) (y15, y16, y14) [(16 : Int), (3 : Int)] (IntKind.wrap IntKind.i64 (y13 + Int.tmod (IntKind.wrap IntKind.i64 y12) (12000000 : Int)))).1) (y15, y16, y14) [(39 : Int), (1 : Int)] (IntKind.wrap IntKind.i64 (y13 + Int.tmod (IntKind.wrap IntKind.i64 y12) (12000000 : Int)))).2.2.1))) (gd (inB (3 : Int) (List.length ((Sp.v_14 ((Sp.v_14 ((Sp.v_13 y17 (IntKind.wrap IntKind.i64 (y13 + Int.tmod (IntKind.wrap IntKind.i64 y12) (12000000 : Int)))).1) (y15, y16, y14) [(16 : Int), (3 : Int)] (IntKind.wrap IntKind.i64 (y13 + Int.tmod (IntKind.wrap IntKind.i64 y12) (12000000 : Int)))).1) (y15, y16, y14) [(39 : Int), (1 : Int)] (IntKind.wrap IntKind.i64 (y13 + Int.tmod (IntKind.wrap IntKind.i64 y12) (12000000 : Int)))).2.2.1))) (gd (Sp.p_19 (Sp.orI IntKind.i64 (IntKind.wrap IntKind.i64 (IntKind.wrap IntKind.i64 (List.getD ((Sp.v_14 ((Sp.v_14 ((Sp.v_13 y17 (IntKind.wrap IntKind.i64 (y13 + Int.tmod (IntKind.wrap IntKind.i64 y12) (12000000 : Int)))).1) (y15, y16, y14) [(16 : Int), (3 : Int)] (IntKind.wrap IntKind.i64 (y13 + Int.tmod (IntKind.wrap IntKind.i64 y12) (12000000 : Int)))).1) (y15, y16, y14) [(39 : Int), (1 : Int)] (IntKind.wrap IntKind.i64 (y13 + Int.tmod (IntKind.wrap IntKind.i64 y12) (12000000 : Int)))).2.2.1) (2 : Nat) (0 : Int)) * (256 : Int))) (IntKind.wrap IntKind.i64 (List.getD ((Sp.v_14 ((Sp.v_14 ((Sp.v_13 y17 (IntKind.wrap IntKind.i64 (y13 + Int.tmod (IntKind.wrap IntKind.i64 y12) (12000000 : Int)))).1) (y15, y16, y14) [(16 : Int), (3 : Int)] (IntKind.wrap IntKind.i64 (y13 + Int.tmod (IntKind.wrap IntKind.i64 y12) (12000000 : Int)))).1) (y15, y16, y14) [(39 : Int), (1 : Int)] (IntKind.wrap IntKind.i64 (y13 + Int.tmod (IntKind.wrap IntKind.i64 y12) (12000000 : Int)))).2.2.1) (3 : Nat) (0 : Int)))) (1 : Int)) (gd (Sp.p_14 ((Sp.v_14 ((Sp.v_14 ((Sp.v_13 y17 (IntKind.wrap IntKind.i64 (y13 + Int.tmod (IntKind.wrap IntKind.i64 y12) (12000000 : Int)))).1) (y15, y16, y14) [(16 : Int), (3 : Int)] (IntKind.wrap IntKind.i64 (y13 + Int.tmod (IntKind.wrap IntKind.i64 y12) (12000000 : Int)))).1) (y15, y16, y14) [(39 : Int), (1 : Int)] (IntKind.wrap IntKind.i64 (y13 + Int.tmod (IntKind.wrap IntKind.i64 y12) (12000000 : Int)))).1) (y15, y16, y14) [(39 : Int), (2 : Int), IntKind.wrap IntKind.u8 (Int.fdiv ((Sp.v_19 (Sp.orI IntKind.i64 (IntKind.wrap IntKind.i64 (IntKind.wrap IntKind.i64 (List.getD ((Sp.v_14 ((Sp.v_14 ((Sp.v_13 y17 (IntKind.wrap IntKind.i64 (y13 + Int.tmod (IntKind.wrap IntKind.i64 y12) (12000000 : Int)))).1) (y15, y16, y14) [(16 : Int), (3 : Int)] (IntKind.wrap IntKind.i64 (y13 + Int.tmod (IntKind.wrap IntKind.i64 y12) (12000000 : Int)))).1) (y15, y16, y14) [(39 : Int), (1 : Int)] (IntKind.wrap IntKind.i64 (y13 + Int.tmod (IntKind.wrap IntKind.i64 y12) (12000000 : Int)))).2.2.1) (2 : Nat) (0 : Int)) * (256 : Int))) (IntKind.wrap IntKind.i64 (List.getD ((Sp.v_14 ((Sp.v_14 ((Sp.v_13 y17 (IntKind.wrap IntKind.i64 (y13 + Int.tmod (IntKind.wrap IntKind.i64 y12) (12000000 : Int)))).1) (y15, y16, y14) [(16 : Int), (3 : Int)] (IntKind.wrap IntKind.i64 (y13 + Int.tmod (IntKind.wrap IntKind.i64 y12) (12000000 : Int)))).1) (y15, y16, y14) [(39 : Int), (1 : Int)] (IntKind.wrap IntKind.i64 (y13 + Int.tmod (IntKind.wrap IntKind.i64 y12) (12000000 : Int)))).2.2.1) (3 : Nat) (0 : Int)))) (1 : Int)).1) (256 : Int)), IntKind.wrap IntKind.u8 ((Sp.v_19 (Sp.orI IntKind.i64 (IntKind.wrap IntKind.i64 (IntKind.wrap IntKind.i64 (List.getD ((Sp.v_14 ((Sp.v_14 ((Sp.v_13 y17 (IntKind.wrap IntKind.i64 (y13 + Int.tmod (IntKind.wrap IntKind.i64 y12) (12000000 : Int)))).1) (y15, y16, y14) [(16 : Int), (3 : Int)] (IntKind.wrap IntKind.i64 (y13 + Int.tmod (IntKind.wrap IntKind.i64 y12) (12000000 : Int)))).1) (y15, y16, y14) [(39 : Int), (1 : Int)] (IntKind.wrap IntKind.i64 (y13 + Int.tmod (IntKind.wrap IntKind.i64 y12) (12000000 : Int)))).2.2.1) (2 : Nat) (0 : Int)) * (256 : Int))) (IntKind.wrap IntKind.i64 (List.getD ((Sp.v_14 ((Sp.v_14 ((Sp.v_13 y17 (IntKind.wrap IntKind.i64 (y13 + Int.tmod (IntKind.wrap IntKind.i64 y12) (12000000 : Int)))).1) (y15, y16, y14) [(16 : Int), (3 : Int)] (IntKind.wrap IntKind.i64 (y13 + Int.tmod (IntKind.wrap IntKind.i64 y12) (12000000 : Int)))).1) (y15, y16, y14) [(39 : Int), (1 : Int)] (IntKind.wrap IntKind.i64 (y13 + Int.tmod (IntKind.wrap IntKind.i64 y12) (12000000 : Int)))).2.2.1) (3 : Nat) (0 : Int)))) (1 : Int)).1)] (IntKind.wrap IntKind.i64 (y13 + Int.tmod (IntKind.wrap IntKind.i64 y12) (12000000 : Int)))) (gd (Sp.p_18 ((Sp.v_14 ((Sp.v_14 ((Sp.v_14 ((Sp.v_13 y17 (IntKind.wrap IntKind.i64 (y13 + Int.tmod (IntKind.wrap IntKind.i64 y12) (12000000 : Int)))).1) (y15, y16, y14) [(16 : Int), (3 : Int)] (IntKind.wrap IntKind.i64 (y13 + Int.tmod (IntKind.wrap IntKind.i64 y12) (12000000 : Int)))).1) (y15, y16, y14) [(39 : Int), (1 : Int)] (IntKind.wrap IntKind.i64 (y13 + Int.tmod (IntKind.wrap IntKind.i64 y12) (12000000 : Int)))).1) (y15, y16, y14) [(39 : Int), (2 : Int), IntKind.wrap IntKind.u8 (Int.fdiv ((Sp.v_19 (Sp.orI IntKind.i64 (IntKind.wrap IntKind.i64 (IntKind.wrap IntKind.i64 (List.getD ((Sp.v_14 ((Sp.v_14 ((Sp.v_13 y17 (IntKind.wrap IntKind.i64 (y13 + Int.tmod (IntKind.wrap IntKind.i64 y12) (12000000 : Int)))).1) (y15, y16, y14) [(16 : Int), (3 : Int)] (IntKind.wrap IntKind.i64 (y13 + Int.tmod (IntKind.wrap IntKind.i64 y12) (12000000 : Int)))).1) (y15, y16, y14) [(39 : Int), (1 : Int)] (IntKind.wrap IntKind.i64 (y13 + Int.tmod (IntKind.wrap IntKind.i64 y12) (12000000 : Int)))).2.2.1) (2 : Nat) (0 : Int)) * (256 : Int))) (IntKind.wrap IntKind.i64 (List.getD ((Sp.v_14 ((Sp.v_14 ((Sp.v_13 y17 (IntKind.wrap IntKind.i64 (y13 + Int.tmod (IntKind.wrap IntKind.i64 y12) (12000000 : Int)))).1) (y15, y16, y14) [(16 : Int), (3 : Int)] (IntKind.wrap IntKind.i64 (y13 + Int.tmod (IntKind.wrap IntKind.i64 y12) (12000000 : Int)))).1) (y15, y16, y14) [(39 : Int), (1 : Int)] (IntKind.wrap IntKind.i64 (y13 + Int.tmod (IntKind.wrap IntKind.i64 y12) (12000000 : Int)))).2.2.1) (3 : Nat) (0 : Int)))) (1 : Int)).1) (256 : Int)), IntKind.wrap IntKind.u8 ((Sp.v_19 (Sp.orI IntKind.i64 (IntKind.wrap IntKind.i64 (IntKind.wrap IntKind.i64 (List.getD ((Sp.v_14 ((Sp.v_14 ((Sp.v_13 y17 (IntKind.wrap IntKind.i64 (y13 + Int.tmod (IntKind.wrap IntKind.i64 y12) (12000000 : Int)))).1) (y15, y16, y14) [(16 : Int), (3 : Int)] (IntKind.wrap IntKind.i64 (y13 + Int.tmod (IntKind.wrap IntKind.i64 y12) (12000000 : Int)))).1) (y15, y16, y14) [(39 : Int), (1 : Int)] (IntKind.wrap IntKind.i64 (y13 + Int.tmod (IntKind.wrap IntKind.i64 y12) (12000000 : Int)))).2.2.1) (2 : Nat) (0 : Int)) * (256 : Int))) (IntKind.wrap IntKind.i64 (List.getD ((Sp.v_14 ((Sp.v_14 ((Sp.v_13 y17 (IntKind.wrap IntKind.i64 (y13 + Int.tmod (IntKind.wrap IntKind.i64 y12) (12000000 : Int)))).1) (y15, y16, y14) [(16 : Int), (3 : Int)] (IntKind.wrap IntKind.i64 (y13 + Int.tmod (IntKind.wrap IntKind.i64 y12) (12000000 : Int)))).1) (y15, y16, y14) [(39 : Int), (1 : Int)] (IntKind.wrap IntKind.i64 (y13 + Int.tmod (IntKind.wrap IntKind.i64 y12) (12000000 : Int)))).2.2.1) (3 : Nat) (0 : Int)))) (1 : Int)).1)] (IntKind.wrap IntKind.i64 (y13 + Int.tmod (IntKind.wrap IntKind.i64 y12) (12000000 : Int)))).2.2.1) [(103 : Int), (2 : Int)]) (bif (Sp.v_18 ((Sp.v_14 ((Sp.v_14 ((Sp.v_14 ((Sp.v_13 y17 (IntKind.wrap IntKind.i64 (y13 + Int.tmod (IntKind.wrap IntKind.i64 y12) (12000000 : Int)))).1) (y15, y16, y14) [(16 : Int), (3 : Int)] (IntKind.wrap IntKind.i64 (y13 + Int.tmod (IntKind.wrap IntKind.i64 y12) (12000000 : Int)))).1) (y15, y16, y14) [(39 : Int), (1 : Int)] (IntKind.wrap IntKind.i64 (y13 + Int.tmod (IntKind.wrap IntKind.i64 y12) (12000000 : Int)))).1) (y15, y16, y14) [(39 : Int), (2 : Int), IntKind.wrap IntKind.u8 (Int.fdiv ((Sp.v_19 (Sp.orI IntKind.i64 (IntKind.wrap IntKind.i64 (IntKind.wrap IntKind.i64 (List.getD ((Sp.v_14 ((Sp.v_14 ((Sp.v_13 y17 (IntKind.wrap IntKind.i64 (y13 + Int.tmod (IntKind.wrap IntKind.i64 y12) (12000000 : Int)))).1) (y15, y16, y14) [(16 : Int), (3 : Int)] (IntKind.wrap IntKind.i64 (y13 + Int.tmod (IntKind.wrap IntKind.i64 y12) (12000000 : Int)))).1) (y15, y16, y14) [(39 : Int), (1 : Int)] (IntKind.wrap IntKind.i64 (y13 + Int.tmod (IntKind.wrap IntKind.i64 y12) (12000000 : Int)))).2.2.1) (2 : Nat) (0 : Int)) * (256 : Int))) (IntKind.wrap IntKind.i64 (List.getD ((Sp.v_14 ((Sp.v_14 ((Sp.v_13 y17 (IntKind.wrap IntKind.i64 (y13 + Int.tmod (IntKind.wrap IntKind.i64 y12) (12000000 : Int)))).1) (y15, y16, y14) [(16 : Int), (3 : Int)] (IntKind.wrap IntKind.i64 (y13 + Int.tmod (IntKind.wrap IntKind.i64 y12) (12000000 : Int)))).1) (y15, y16, y14) [(39 : Int), (1 : Int)] (IntKind.wrap IntKind.i64 (y13 + Int.tmod (IntKind.wrap IntKind.i64 y12) (12000000 : Int)))).2.2.1) (3 : Nat) (0 : Int)))) (1 : Int)).1) (256 : Int)), IntKind.wrap IntKind.u8 ((Sp.v_19 (Sp.orI IntKind.i64 (IntKind.wrap IntKind.i64 (IntKind.wrap IntKind.i64 (List.getD ((Sp.v_14 ((Sp.v_14 ((Sp.v_13 y17 (IntKind.wrap IntKind.i64 (y13 + Int.tmod (IntKind.wrap IntKind.i64 y12) (12000000 : Int)))).1) (y15, y16, y14) [(16 : Int), (3 : Int)] (IntKind.wrap IntKind.i64 (y13 + Int.tmod (IntKind.wrap IntKind.i64 y12) (12000000 : Int)))).1) (y15, y16, y14) [(39 : Int), (1 : Int)] (IntKind.wrap IntKind.i64 (y13 + Int.tmod (IntKind.wrap IntKind.i64 y12) (12000000 : Int)))).2.2.1) (2 : Nat) (0 : Int)) * (256 : Int))) (IntKind.wrap IntKind.i64 (List.getD ((Sp.v_14 ((Sp.v_14 ((Sp.v_13 y17 (IntKind.wrap IntKind.i64 (y13 + Int.tmod (IntKind.wrap IntKind.i64 y12) (12000000 : Int)))).1) (y15, y16, y14) [(16 : Int), (3 : Int)] (IntKind.wrap IntKind.i64 (y13 + Int.tmod (IntKind.wrap IntKind.i64 y12) (12000000 : Int)))).1) (y15, y16, y14) [(39 : Int), (1 : Int)] (IntKind.wrap IntKind.i64 (y13 + Int.tmod (IntKind.wrap IntKind.i64 y12) (12000000 : Int)))).2.2.1) (3 : Nat) (0 : Int)))) (1 : Int)).1)] (IntKind.wrap IntKind.i64 (y13 + Int.tmod (IntKind.wrap IntKind.i64 y12) (12000000 : Int)))).2.2.1) [(103 : Int), (2 : Int)]).1 then some ((Sp.v_14 ((Sp.v_14 ((Sp.v_14 ((Sp.v_13 y17 (IntKind.wrap IntKind.i64 (y13 + Int.tmod (IntKind.wrap IntKind.i64 y12) (12000000 : Int)))).1) (y15, y16, y14) [(16 : Int), (3 : Int)] (IntKind.wrap IntKind.i64 (y13 + Int.tmod (IntKind.wrap IntKind.i64 y12) (12000000 : Int)))).1) (y15, y16, y14) [(39 : Int), (1 : Int)] (IntKind.wrap IntKind.i64 (y13 + Int.tmod (IntKind.wrap IntKind.i64 y12) (12000000 : Int)))).1) (y15, y16, y14) [(39 : Int), (2 : Int), IntKind.wrap IntKind.u8 (Int.fdiv ((Sp.v_19 (Sp.orI IntKind.i64 (IntKind.wrap IntKind.i64 (IntKind.wrap IntKind.i64 (List.getD ((Sp.v_14 ((Sp.v_14 ((Sp.v_13 y17 (IntKind.wrap IntKind.i64 (y13 + Int.tmod (IntKind.wrap IntKind.i64 y12) (12000000 : Int)))).1) (y15, y16, y14) [(16 : Int), (3 : Int)] (IntKind.wrap IntKind.i64 (y13 + Int.tmod (IntKind.wrap IntKind.i64 y12) (12000000 : Int)))).1) (y15, y16, y14) [(39 : Int), (1 : Int)] (IntKind.wrap IntKind.i64 (y13 + Int.tmod (IntKind.wrap IntKind.i64 y12) (12000000 : Int)))).2.2.1) (2 : Nat) (0 : Int)) * (256 : Int))) (IntKind.wrap IntKind.i64 (List.getD ((Sp.v_14 ((Sp.v_14 ((Sp.v_13 y17 (IntKind.wrap IntKind.i64 (y13 + Int.tmod (IntKind.wrap IntKind.i64 y12) (12000000 : Int)))).1) (y15, y16, y14) [(16 : Int), (3 : Int)] (IntKind.wrap IntKind.i64 (y13 + Int.tmod (IntKind.wrap IntKind.i64 y12) (12000000 : Int)))).1) (y15, y16, y14) [(39 : Int), (1 : Int)] (IntKind.wrap IntKind.i64 (y13 + Int.tmod (IntKind.wrap IntKind.i64 y12) (12000000 : Int)))).2.2.1) (3 : Nat) (0 : Int)))) (1 : Int)).1) (256 : Int)), IntKind.wrap IntKind.u8 ((Sp.v_19 (Sp.orI IntKind.i64 (IntKind.wrap IntKind.i64 (IntKind.wrap IntKind.i64 (List.getD ((Sp.v_14 ((Sp.v_14 ((Sp.v_13 y17 (IntKind.wrap IntKind.i64 (y13 + Int.tmod (IntKind.wrap IntKind.i64 y12) (12000000 : Int)))).1) (y15, y16, y14) [(16 : Int), (3 : Int)] (IntKind.wrap IntKind.i64 (y13 + Int.tmod (IntKind.wrap IntKind.i64 y12) (12000000 : Int)))).1) (y15, y16, y14) [(39 : Int), (1 : Int)] (IntKind.wrap IntKind.i64 (y13 + Int.tmod (IntKind.wrap IntKind.i64 y12) (12000000 : Int)))).2.2.1) (2 : Nat) (0 : Int)) * (256 : Int))) (IntKind.wrap IntKind.i64 (List.getD ((Sp.v_14 ((Sp.v_14 ((Sp.v_13 y17 (IntKind.wrap IntKind.i64 (y13 + Int.tmod (IntKind.wrap IntKind.i64 y12) (12000000 : Int)))).1) (y15, y16, y14) [(16 : Int), (3 : Int)] (IntKind.wrap IntKind.i64 (y13 + Int.tmod (IntKind.wrap IntKind.i64 y12) (12000000 : Int)))).1) (y15, y16, y14) [(39 : Int), (1 : Int)] (IntKind.wrap IntKind.i64 (y13 + Int.tmod (IntKind.wrap IntKind.i64 y12) (12000000 : Int)))).2.2.1) (3 : Nat) (0 : Int)))) (1 : Int)).1)] (IntKind.wrap IntKind.i64 (y13 + Int.tmod (IntKind.wrap IntKind.i64 y12) (12000000 : Int)))).1.2.2.1 == (1 : Int)) else some false)))))))))) (some true) (some false) fun y18 y19 y20 y21 y22 y23 => gd (Sp.p_13 y23 (IntKind.wrap IntKind.i64 (y19 + Int.tmod (IntKind.wrap IntKind.i64 y18) (12000000 : Int)))) (gd (Sp.p_14 ((Sp.v_13 y23 (IntKind.wrap IntKind.i64 (y19 + Int.tmod (IntKind.wrap IntKind.i64 y18) (12000000 : Int)))).1) (y21, y22, y20) [(16 : Int), (3 : Int)] (IntKind.wrap IntKind.i64 (y19 + Int.tmod (IntKind.wrap IntKind.i64 y18) (12000000 : Int)))) (gd (Sp.p_14 ((Sp.v_14 ((Sp.v_13 y23 (IntKind.wrap IntKind.i64 (y19 + Int.tmod (IntKind.wrap IntKind.i64 y18) (12000000 : Int)))).1) (y21, y22, y20) [(16 : Int), (3 : Int)] (IntKind.wrap IntKind.i64 (y19 + Int.tmod (IntKind.wrap IntKind.i64 y18) (12000000 : Int)))).1) (y21, y22, y20) [(39 : Int), (1 : Int)] (IntKind.wrap IntKind.i64 (y19 + Int.tmod (IntKind.wrap IntKind.i64 y18) (12000000 : Int)))) (bif decide (IntKind.wrap IntKind.i64 (y19 + Int.tmod (IntKind.wrap IntKind.i64 y18) (12000000 : Int)) < IntKind.wrap IntKind.i64 (y19 + (10000000 : Int))) then gd (Sp.p_18 ((Sp.v_14 ((Sp.v_14 ((Sp.v_13 y23 (IntKind.wrap IntKind.i64 (y19 + Int.tmod (IntKind.wrap IntKind.i64 y18) (12000000 : Int)))).1) (y21, y22, y20) [(16 : Int), (3 : Int)] (IntKind.wrap IntKind.i64 (y19 + Int.tmod (IntKind.wrap IntKind.i64 y18) (12000000 : Int)))).1) (y21, y22, y20) [(39 : Int), (1 : Int)] (IntKind.wrap IntKind.i64 (y19 + Int.tmod (IntKind.wrap IntKind.i64 y18) (12000000 : Int)))).2.2.1) [(127 : Int), (39 : Int), (55 : Int)]) (some ((Sp.v_18 ((Sp.v_14 ((Sp.v_14 ((Sp.v_13 y23 (IntKind.wrap IntKind.i64 (y19 + Int.tmod (IntKind.wrap IntKind.i64 y18) (12000000 : Int)))).1) (y21, y22, y20) [(16 : Int), (3 : Int)] (IntKind.wrap IntKind.i64 (y19 + Int.tmod (IntKind.wrap IntKind.i64 y18) (12000000 : Int)))).1) (y21, y22, y20) [(39 : Int), (1 : Int)] (IntKind.wrap IntKind.i64 (y19 + Int.tmod (IntKind.wrap IntKind.i64 y18) (12000000 : Int)))).2.2.1) [(127 : Int), (39 : Int), (55 : Int)]).1)) else bif (↑(List.length ((Sp.v_14 ((Sp.v_14 ((Sp.v_13 y23 (IntKind.wrap IntKind.i64 (y19 + Int.tmod (IntKind.wrap IntKind.i64 y18) (12000000 : Int)))).1) (y21, y22, y20) [(16 : Int), (3 : Int)] (IntKind.wrap IntKind.i64 (y19 + Int.tmod (IntKind.wrap IntKind.i64 y18) (12000000 : Int)))).1) (y21, y22, y20) [(39 : Int), (1 : Int)] (IntKind.wrap IntKind.i64 (y19 + Int.tmod (IntKind.wrap IntKind.i64 y18) (12000000 : Int)))).2.2.1)) : Int) != (4 : Int) then some false else gd (inB (0 : Int) (List.length ((Sp.v_14 ((Sp.v_14 ((Sp.v_13 y23 (IntKind.wrap IntKind.i64 (y19 + Int.tmod (IntKind.wrap IntKind.i64 y18) (12000000 : Int)))).1) (y21, y22, y20) [(16 : Int), (3 : Int)] (IntKind.wrap IntKind.i64 (y19 + Int.tmod (IntKind.wrap IntKind.i64 y18) (12000000 : Int)))).1) (y21, y22, y20) [(39 : Int), (1 : Int)] (IntKind.wrap IntKind.i64 (y19 + Int.tmod (IntKind.wrap IntKind.i64 y18) (12000000 : Int)))).2.2.1))) (bif List.getD ((Sp.v_14 ((Sp.v_14 ((Sp.v_13 y23 (IntKind.wrap IntKind.i64 (y19 + Int.tmod (IntKind.wrap IntKind.i64 y18) (12000000 : Int)))).1) (y21, y22, y20) [(16 : Int), (3 : Int)] (IntKind.wrap IntKind.i64 (y19 + Int.tmod (IntKind.wrap IntKind.i64 y18) (12000000 : Int)))).1) (y21, y22, y20) [(39 : Int), (1 : Int)] (IntKind.wrap IntKind.i64 (y19 + Int.tmod (IntKind.wrap IntKind.i64 y18) (12000000 : Int)))).2.2.1) (0 : Nat) (0 : Int) != (103 : Int) then some false else gd (inB (2 : Int) (List.length ((Sp.v_14 ((Sp.v_14 ((Sp.v_13 y23 (IntKind.wrap IntKind.i64 (y19 + Int.tmod (IntKind.wrap IntKind.i64 y18) (12000000 : Int)))).1) (y21, y22, y20) [(16 : Int), (3 : Int)] (IntKind.wrap IntKind.i64 (y19 + Int.tmod (IntKind.wrap IntKind.i64 y18) (12000000 : Int)))).1) (y21, y22, y20) [(39 : Int), (1 : Int)] (IntKind.wrap IntKind.i64 (y19 + Int.tmod (IntKind.wrap IntKind.i64 y18) (12000000 : Int)))).2.2.1))) (gd (inB (3 : Int) (List.length ((Sp.v_14 ((Sp.v_14 ((Sp.v_13 y23 (IntKind.wrap IntKind.i64 (y19 + Int.tmod (IntKind.wrap IntKind.i64 y18) (12000000 : Int)))).1) (y21, y22, y20) [(16 : Int), (3 : Int)] (IntKind.wrap IntKind.i64 (y19 + Int.tmod (IntKind.wrap IntKind.i64 y18) (12000000 : Int)))).1) (y21, y22, y20) [(39 : Int), (1 : Int)] (IntKind.wrap IntKind.i64 (y19 + Int.tmod (IntKind.wrap IntKind.i64 y18) (12000000 : Int)))).2.2.1))) (gd (Sp.p_19 (Sp.orI IntKind.i64 (IntKind.wrap IntKind.i64 (IntKind.wrap IntKind.i64 (List.getD ((Sp.v_14 ((Sp.v_14 ((Sp.v_13 y23 (IntKind.wrap IntKind.i64 (y19 + Int.tmod (IntKind.wrap IntKind.i64 y18) (12000000 : Int)))).1) (y21, y22, y20) [(16 : Int), (3 : Int)] (IntKind.wrap IntKind.i64 (y19 + Int.tmod (IntKind.wrap IntKind.i64 y18) (12000000 : Int)))).1) (y21, y22, y20) [(39 : Int), (1 : Int)] (IntKind.wrap IntKind.i64 (y19 + Int.tmod (IntKind.wrap IntKind.i64 y18) (12000000 : Int)))).2.2.1) (2 : Nat) (0 : Int)) * (256 : Int))) (IntKind.wrap IntKind.i64 (List.getD ((Sp.v_14 ((Sp.v_14 ((Sp.v_13 y23 (IntKind.wrap IntKind.i64 (y19 + Int.tmod (IntKind.wrap IntKind.i64 y18) (12000000 : Int)))).1) (y21, y22, y20) [(16 : Int), (3 : Int)] (IntKind.wrap IntKind.i64 (y19 + Int.tmod (IntKind.wrap IntKind.i64 y18) (12000000 : Int)))).1) (y21, y22, y20) [(39 : Int), (1 : Int)] (IntKind.wrap IntKind.i64 (y19 + Int.tmod (IntKind.wrap IntKind.i64 y18) (12000000 : Int)))).2.2.1) (3 : Nat) (0 : Int)))) (1 : Int)) (gd (Sp.p_14 ((Sp.v_14 ((Sp.v_14 ((Sp.v_13 y23 (IntKind.wrap IntKind.i64 (y19 + Int.tmod (IntKind.wrap IntKind.i64 y18) (12000000 : Int)))).1) (y21, y22, y20) [(16 : Int), (3 : Int)] (IntKind.wrap IntKind.i64 (y19 + Int.tmod (IntKind.wrap IntKind.i64 y18) (12000000 : Int)))).1) (y21, y22, y20) [(39 : Int), (1 : Int)] (IntKind.wrap IntKind.i64 (y19 + Int.tmod (IntKind.wrap IntKind.i64 y18) (12000000 : Int)))).1) (y21, y22, y20) [(39 : Int), (2 : Int), IntKind.wrap IntKind.u8 (Int.fdiv ((Sp.v_19 (Sp.orI IntKind.i64 (IntKind.wrap IntKind.i64 (IntKind.wrap IntKind.i64 (List.getD ((Sp.v_14 ((Sp.v_14 ((Sp.v_13 y23 (IntKind.wrap IntKind.i64 (y19 + Int.tmod (IntKind.wrap IntKind.i64 y18) (12000000 : Int)))).1) (y21, y22, y20) [(16 : Int), (3 : Int)] (IntKind.wrap IntKind.i64 (y19 + Int.tmod (IntKind.wrap IntKind.i64 y18) (12000000 : Int)))).1) (y21, y22, y20) [(39 : Int), (1 : Int)] (IntKind.wrap IntKind.i64 (y19 + Int.tmod (IntKind.wrap IntKind.i64 y18) (12000000 : Int)))).2.2.1) (2 : Nat) (0 : Int)) * (256 : Int))) (IntKind.wrap IntKind.i64 (List.getD ((Sp.v_14 ((Sp.v_14 ((Sp.v_13 y23 (IntKind.wrap IntKind.i64 (y19 + Int.tmod (IntKind.wrap IntKind.i64 y18) (12000000 : Int)))).1) (y21, y22, y20) [(16 : Int), (3 : Int)] (IntKind.wrap IntKind.i64 (y19 + Int.tmod (IntKind.wrap IntKind.i64 y18) (12000000 : Int)))).1) (y21, y22, y20) [(39 : Int), (1 : Int)] (IntKind.wrap IntKind.i64 (y19 + Int.tmod (IntKind.wrap IntKind.i64 y18) (12000000 : Int)))).2.2.1) (3 : Nat) (0 : Int)))) (1 : Int)).1) (256 : Int)), IntKind.wrap IntKind.u8 ((Sp.v_19 (Sp.orI IntKind.i64 (IntKind.wrap IntKind.i64 (IntKind.wrap IntKind.i64 (List.getD ((Sp.v_14 ((Sp.v_14 ((Sp.v_13 y23 (IntKind.wrap IntKind.i64 (y19 + Int.tmod (IntKind.wrap IntKind.i64 y18) (12000000 : Int)))).1) (y21, y22, y20) [(16 : Int), (3 : Int)] (IntKind.wrap IntKind.i64 (y19 + Int.tmod (IntKind.wrap IntKind.i64 y18) (12000000 : Int)))).1) (y21, y22, y20) [(39 : Int), (1 : Int)] (IntKind.wrap IntKind.i64 (y19 + Int.tmod (IntKind.wrap IntKind.i64 y18) (12000000 : Int)))).2.2.1) (2 : Nat) (0 : Int)) * (256 : Int))) (IntKind.wrap IntKind.i64 (List.getD ((Sp.v_14 ((Sp.v_14 ((Sp.v_13 y23 (IntKind.wrap IntKind.i64 (y19 + Int.tmod (IntKind.wrap IntKind.i64 y18) (12000000 : Int)))).1) (y21, y22, y20) [(16 : Int), (3 : Int)] (IntKind.wrap IntKind.i64 (y19 + Int.tmod (IntKind.wrap IntKind.i64 y18) (12000000 : Int)))).1) (y21, y22, y20) [(39 : Int), (1 : Int)] (IntKind.wrap IntKind.i64 (y19 + Int.tmod (IntKind.wrap IntKind.i64 y18) (12000000 : Int)))).2.2.1) (3 : Nat) (0 : Int)))) (1 : Int)).1)] (IntKind.wrap IntKind.i64 (y19 + Int.tmod (IntKind.wrap IntKind.i64 y18) (12000000 : Int)))) (gd (Sp.p_18 ((Sp.v_14 ((Sp.v_14 ((Sp.v_14 ((Sp.v_13 y23 (IntKind.wrap IntKind.i64 (y19 + Int.tmod (IntKind.wrap IntKind.i64 y18) (12000000 : Int)))).1) (y21, y22, y20) [(16 : Int), (3 : Int)] (IntKind.wrap IntKind.i64 (y19 + Int.tmod (IntKind.wrap IntKind.i64 y18) (12000000 : Int)))).1) (y21, y22, y20) [(39 : Int), (1 : Int)] (IntKind.wrap IntKind.i64 (y19 + Int.tmod (IntKind.wrap IntKind.i64 y18) (12000000 : Int)))).1) (y21, y22, y20) [(39 : Int), (2 : Int), IntKind.wrap IntKind.u8 (Int.fdiv ((Sp.v_19 (Sp.orI IntKind.i64 (IntKind.wrap IntKind.i64 (IntKind.wrap IntKind.i64 (List.getD ((Sp.v_14 ((Sp.v_14 ((Sp.v_13 y23 (IntKind.wrap IntKind.i64 (y19 + Int.tmod (IntKind.wrap IntKind.i64 y18) (12000000 : Int)))).1) (y21, y22, y20) [(16 : Int), (3 : Int)] (IntKind.wrap IntKind.i64 (y19 + Int.tmod (IntKind.wrap IntKind.i64 y18) (12000000 : Int)))).1) (y21, y22, y20) [(39 : Int), (1 : Int)] (IntKind.wrap IntKind.i64 (y19 + Int.tmod (IntKind.wrap IntKind.i64 y18) (12000000 : Int)))).2.2.1) (2 : Nat) (0 : Int)) * (256 : Int))) (IntKind.wrap IntKind.i64 (List.getD ((Sp.v_14 ((Sp.v_14 ((Sp.v_13 y23 (IntKind.wrap IntKind.i64 (y19 + Int.tmod (IntKind.wrap IntKind.i64 y18) (12000000 : Int)))).1) (y21, y22, y20) [(16 : Int), (3 : Int)] (IntKind.wrap IntKind.i64 (y19 + Int.tmod (IntKind.wrap IntKind.i64 y18) (12000000 : Int)))).1) (y21, y22, y20) [(39 : Int), (1 : Int)] (IntKind.wrap IntKind.i64 (y19 + Int.tmod (IntKind.wrap IntKind.i64 y18) (12000000 : Int)))).2.2.1) (3 : Nat) (0 : Int)))) (1 : Int)).1) (256 : Int)), IntKind.wrap IntKind.u8 ((Sp.v_19 (Sp.orI IntKind.i64 (IntKind.wrap IntKind.i64 (IntKind.wrap IntKind.i64 (List.getD ((Sp.v_14 ((Sp.v_14 ((Sp.v_13 y23 (IntKind.wrap IntKind.i64 (y19 + Int.tmod (IntKind.wrap IntKind.i64 y18) (12000000 : Int)))).1) (y21, y22, y20) [(16 : Int), (3 : Int)] (IntKind.wrap IntKind.i64 (y19 + Int.tmod (IntKind.wrap IntKind.i64 y18) (12000000 : Int)))).1) (y21, y22, y20) [(39 : Int), (1 : Int)] (IntKind.wrap IntKind.i64 (y19 + Int.tmod (IntKind.wrap IntKind.i64 y18) (12000000 : Int)))).2.2.1) (2 : Nat) (0 : Int)) * (256 : Int))) (IntKind.wrap IntKind.i64 (List.getD ((Sp.v_14 ((Sp.v_14 ((Sp.v_13 y23 (IntKind.wrap IntKind.i64 (y19 + Int.tmod (IntKind.wrap IntKind.i64 y18) (12000000 : Int)))).1) (y21, y22, y20) [(16 : Int), (3 : Int)] (IntKind.wrap IntKind.i64 (y19 + Int.tmod (IntKind.wrap IntKind.i64 y18) (12000000 : Int)))).1) (y21, y22, y20) [(39 : Int), (1 : Int)] (IntKind.wrap IntKind.i64 (y19 + Int.tmod (IntKind.wrap IntKind.i64 y18) (12000000 : Int)))).2.2.1) (3 : Nat) (0 : Int)))) (1 : Int)).1)] (IntKind.wrap IntKind.i64 (y19 + Int.tmod (IntKind.wrap IntKind.i64 y18) (12000000 : Int)))).2.2.1) [(103 : Int), (2 : Int)]) (bif (Sp.v_18 ((Sp.v_14 ((Sp.v_14 ((Sp.v_14 ((Sp.v_13 y23 (IntKind.wrap IntKind.i64 (y19 + Int.tmod (IntKind.wrap IntKind.i64 y18) (12000000 : Int)))).1) (y21, y22, y20) [(16 : Int), (3 : Int)] (IntKind.wrap IntKind.i64 (y19 + Int.tmod (IntKind.wrap IntKind.i64 y18) (12000000 : Int)))).1) (y21, y22, y20) [(39 : Int), (1 : Int)] (IntKind.wrap IntKind.i64 (y19 + Int.tmod (IntKind.wrap IntKind.i64 y18) (12000000 : Int)))).1) (y21, y22, y20) [(39 : Int), (2 : Int), IntKind.wrap IntKind.u8 (Int.fdiv ((Sp.v_19 (Sp.orI IntKind.i64 (IntKind.wrap IntKind.i64 (IntKind.wrap IntKind.i64 (List.getD ((Sp.v_14 ((Sp.v_14 ((Sp.v_13 y23 (IntKind.wrap IntKind.i64 (y19 + Int.tmod (IntKind.wrap IntKind.i64 y18) (12000000 : Int)))).1) (y21, y22, y20) [(16 : Int), (3 : Int)] (IntKind.wrap IntKind.i64 (y19 + Int.tmod (IntKind.wrap IntKind.i64 y18) (12000000 : Int)))).1) (y21, y22, y20) [(39 : Int), (1 : Int)] (IntKind.wrap IntKind.i64 (y19 + Int.tmod (IntKind.wrap IntKind.i64 y18) (12000000 : Int)))).2.2.1) (2 : Nat) (0 : Int)) * (256 : Int))) (IntKind.wrap IntKind.i64 (List.getD ((Sp.v_14 ((Sp.v_14 ((Sp.v_13 y23 (IntKind.wrap IntKind.i64 (y19 + Int.tmod (IntKind.wrap IntKind.i64 y18) (12000000 : Int)))).1) (y21, y22, y20) [(16 : Int), (3 : Int)] (IntKind.wrap IntKind.i64 (y19 + Int.tmod (IntKind.wrap IntKind.i64 y18) (12000000 : Int)))).1) (y21, y22, y20) [(39 : Int), (1 : Int)] (IntKind.wrap IntKind.i64 (y19 + Int.tmod (IntKind.wrap IntKind.i64 y18) (12000000 : Int)))).2.2.1) (3 : Nat) (0 : Int)))) (1 : Int)).1) (256 : Int)), IntKind.wrap IntKind.u8 ((Sp.v_19 (Sp.orI IntKind.i64 (IntKind.wrap IntKind.i64 (IntKind.wrap IntKind.i64 (List.getD ((Sp.v_14 ((Sp.v_14 ((Sp.v_13 y23 (IntKind.wrap IntKind.i64 (y19 + Int.tmod (IntKind.wrap IntKind.i64 y18) (12000000 : Int)))).1) (y21, y22, y20) [(16 : Int), (3 : Int)] (IntKind.wrap IntKind.i64 (y19 + Int.tmod (IntKind.wrap IntKind.i64 y18) (12000000 : Int)))).1) (y21, y22, y20) [(39 : Int), (1 : Int)] (IntKind.wrap IntKind.i64 (y19 + Int.tmod (IntKind.wrap IntKind.i64 y18) (12000000 : Int)))).2.2.1) (2 : Nat) (0 : Int)) * (256 : Int))) (IntKind.wrap IntKind.i64 (List.getD ((Sp.v_14 ((Sp.v_14 ((Sp.v_13 y23 (IntKind.wrap IntKind.i64 (y19 + Int.tmod (IntKind.wrap IntKind.i64 y18) (12000000 : Int)))).1) (y21, y22, y20) [(16 : Int), (3 : Int)] (IntKind.wrap IntKind.i64 (y19 + Int.tmod (IntKind.wrap IntKind.i64 y18) (12000000 : Int)))).1) (y21, y22, y20) [(39 : Int), (1 : Int)] (IntKind.wrap IntKind.i64 (y19 + Int.tmod (IntKind.wrap IntKind.i64 y18) (12000000 : Int)))).2.2.1) (3 : Nat) (0 : Int)))) (1 : Int)).1)] (IntKind.wrap IntKind.i64 (y19 + Int.tmod (IntKind.wrap IntKind.i64 y18) (12000000 : Int)))).2.2.1) [(103 : Int), (2 : Int)]).1 then some ((Sp.v_14 ((Sp.v_14 ((Sp.v_14 ((Sp.v_13 y23 (IntKind.wrap IntKind.i64 (y19 + Int.tmod (IntKind.wrap IntKind.i64 y18) (12000000 : Int)))).1) (y21, y22, y20) [(16 : Int), (3 : Int)] (IntKind.wrap IntKind.i64 (y19 + Int.tmod (IntKind.wrap IntKind.i64 y18) (12000000 : Int)))).1) (y21, y22, y20) [(39 : Int), (1 : Int)] (IntKind.wrap IntKind.i64 (y19 + Int.tmod (IntKind.wrap IntKind.i64 y18) (12000000 : Int)))).1) (y21, y22, y20) [(39 : Int), (2 : Int), IntKind.wrap IntKind.u8 (Int.fdiv ((Sp.v_19 (Sp.orI IntKind.i64 (IntKind.wrap IntKind.i64 (IntKind.wrap IntKind.i64 (List.getD ((Sp.v_14 ((Sp.v_14 ((Sp.v_13 y23 (IntKind.wrap IntKind.i64 (y19 + Int.tmod (IntKind.wrap IntKind.i64 y18) (12000000 : Int)))).1) (y21, y22, y20) [(16 : Int), (3 : Int)] (IntKind.wrap IntKind.i64 (y19 + Int.tmod (IntKind.wrap IntKind.i64 y18) (12000000 : Int)))).1) (y21, y22, y20) [(39 : Int), (1 : Int)] (IntKind.wrap IntKind.i64 (y19 + Int.tmod (IntKind.wrap IntKind.i64 y18) (12000000 : Int)))).2.2.1) (2 : Nat) (0 : Int)) * (256 : Int))) (IntKind.wrap IntKind.i64 (List.getD ((Sp.v_14 ((Sp.v_14 ((Sp.v_13 y23 (IntKind.wrap IntKind.i64 (y19 + Int.tmod (IntKind.wrap IntKind.i64 y18) (12000000 : Int)))).1) (y21, y22, y20) [(16 : Int), (3 : Int)] (IntKind.wrap IntKind.i64 (y19 + Int.tmod (IntKind.wrap IntKind.i64 y18) (12000000 : Int)))).1) (y21, y22, y20) [(39 : Int), (1 : Int)] (IntKind.wrap IntKind.i64 (y19 + Int.tmod (IntKind.wrap IntKind.i64 y18) (12000000 : Int)))).2.2.1) (3 : Nat) (0 : Int)))) (1 : Int)).1) (256 : Int)), IntKind.wrap IntKind.u8 ((Sp.v_19 (Sp.orI IntKind.i64 (IntKind.wrap IntKind.i64 (IntKind.wrap IntKind.i64 (List.getD ((Sp.v_14 ((Sp.v_14 ((Sp.v_13 y23 (IntKind.wrap IntKind.i64 (y19 + Int.tmod (IntKind.wrap IntKind.i64 y18) (12000000 : Int)))).1) (y21, y22, y20) [(16 : Int), (3 : Int)] (IntKind.wrap IntKind.i64 (y19 + Int.tmod (IntKind.wrap IntKind.i64 y18) (12000000 : Int)))).1) (y21, y22, y20) [(39 : Int), (1 : Int)] (IntKind.wrap IntKind.i64 (y19 + Int.tmod (IntKind.wrap IntKind.i64 y18) (12000000 : Int)))).2.2.1) (2 : Nat) (0 : Int)) * (256 : Int))) (IntKind.wrap IntKind.i64 (List.getD ((Sp.v_14 ((Sp.v_14 ((Sp.v_13 y23 (IntKind.wrap IntKind.i64 (y19 + Int.tmod (IntKind.wrap IntKind.i64 y18) (12000000 : Int)))).1) (y21, y22, y20) [(16 : Int), (3 : Int)] (IntKind.wrap IntKind.i64 (y19 + Int.tmod (IntKind.wrap IntKind.i64 y18) (12000000 : Int)))).1) (y21, y22, y20) [(39 : Int), (1 : Int)] (IntKind.wrap IntKind.i64 (y19 + Int.tmod (IntKind.wrap IntKind.i64 y18) (12000000 : Int)))).2.2.1) (3 : Nat) (0 : Int)))) (1 : Int)).1)] (IntKind.wrap IntKind.i64 (y19 + Int.tmod (IntKind.wrap IntKind.i64 y18) (12000000 : Int)))).1.2.2.1 == (1 : Int)) else some false)))))))))))))
theorem fn_4 (a0 : Int) (a1 : (List Int)) (a2 : Int) : evFnL sm_4 FU (ovr noO (evFn sm_4 fns FU 0)) (ir4_t O_4_4_0) ir4 (ofH [(.int .u32), (.arr 3 (.int .u16)), (.int .u32)] (a0, a1, a2, ())) [] bk = F_4 a0 a1 a2 := by kernel_rfl
theorem run_4 (a0 : Int) (a1 : (List Int)) (a2 : Int) {b : Bool} (h : F_4 a0 a1 a2 = some b) : evFn sm_4 fns FU 1 4 (ofH [(.int .u32), (.arr 3 (.int .u16)), (.int .u32)] (a0, a1, a2, ())) [] bk = some b :=
  evFnL_sound (fn := ir4) (t := (ir4_t O_4_4_0)) (o := noO) rfl noO_ok (ir4_tok (fun T k r => OK_4_4_0 T k r)) ((fn_4 _ _ _).trans h)
end
end Go.Ev
namespace Go.Proofs
open Go.Shelf
end Go.Proofs
namespace Go.Ev
open Go Go.Proofs Go.RowKit
set_option maxRecDepth 100000
set_option maxHeartbeats 4000000
noncomputable def smB : Nat → Bool := fun f => [8, 9, 10, 11, 12, 13, 14, 15, 16, 17, 18, 19, 20, 21, 23, 25, 26, 27, 28, 30, 31, 32, 34, 38, 39, 40, 41, 43, 44, 46, 52, 54, 55, 56].contains f
theorem hm0 : Try.prog.follows .mixedOrders = true := by kernel_rfl
theorem key4 : fnKey Try.prog smB 4 = ir4.key := by kernel_rfl
theorem key8 : fnKey Try.prog smB 8 = ir8.key := by kernel_rfl
theorem key9 : fnKey Try.prog smB 9 = ir9.key := by kernel_rfl
theorem key10 : fnKey Try.prog smB 10 = ir10.key := by kernel_rfl
theorem key12 : fnKey Try.prog smB 12 = ir12.key := by kernel_rfl
theorem key13 : fnKey Try.prog smB 13 = ir13.key := by kernel_rfl
theorem key14 : fnKey Try.prog smB 14 = ir14.key := by kernel_rfl
theorem key15 : fnKey Try.prog smB 15 = ir15.key := by kernel_rfl
theorem key16 : fnKey Try.prog smB 16 = ir16.key := by kernel_rfl
theorem key18 : fnKey Try.prog smB 18 = ir18.key := by kernel_rfl
theorem key19 : fnKey Try.prog smB 19 = ir19.key := by kernel_rfl
theorem key22 : fnKey Try.prog smB 22 = ir22.key := by kernel_rfl
theorem key23 : fnKey Try.prog smB 23 = ir23.key := by kernel_rfl
theorem key24 : fnKey Try.prog smB 24 = ir24.key := by kernel_rfl
theorem key25 : fnKey Try.prog smB 25 = ir25.key := by kernel_rfl
theorem key27 : fnKey Try.prog smB 27 = ir27.key := by kernel_rfl
theorem key28 : fnKey Try.prog smB 28 = ir28.key := by kernel_rfl
theorem key31 : fnKey Try.prog smB 31 = ir31.key := by kernel_rfl
theorem key32 : fnKey Try.prog smB 32 = ir32.key := by kernel_rfl
theorem key33 : fnKey Try.prog smB 33 = ir33.key := by kernel_rfl
theorem key35 : fnKey Try.prog smB 35 = ir35.key := by kernel_rfl
theorem key37 : fnKey Try.prog smB 37 = ir37.key := by kernel_rfl
theorem key38 : fnKey Try.prog smB 38 = ir38.key := by kernel_rfl
theorem key39 : fnKey Try.prog smB 39 = ir39.key := by kernel_rfl
theorem key40 : fnKey Try.prog smB 40 = ir40.key := by kernel_rfl
theorem key41 : fnKey Try.prog smB 41 = ir41.key := by kernel_rfl
theorem key43 : fnKey Try.prog smB 43 = ir43.key := by kernel_rfl
theorem key44 : fnKey Try.prog smB 44 = ir44.key := by kernel_rfl
theorem key45 : fnKey Try.prog smB 45 = ir45.key := by kernel_rfl
theorem key46 : fnKey Try.prog smB 46 = ir46.key := by kernel_rfl
theorem key47 : fnKey Try.prog smB 47 = ir47.key := by kernel_rfl
theorem key48 : fnKey Try.prog smB 48 = ir48.key := by kernel_rfl
theorem key49 : fnKey Try.prog smB 49 = ir49.key := by kernel_rfl
theorem key50 : fnKey Try.prog smB 50 = ir50.key := by kernel_rfl
theorem key51 : fnKey Try.prog smB 51 = ir51.key := by kernel_rfl
theorem key53 : fnKey Try.prog smB 53 = ir53.key := by kernel_rfl
theorem key54 : fnKey Try.prog smB 54 = ir54.key := by kernel_rfl
theorem key55 : fnKey Try.prog smB 55 = ir55.key := by kernel_rfl
theorem key56 : fnKey Try.prog smB 56 = ir56.key := by kernel_rfl
theorem key57 : fnKey Try.prog smB 57 = ir57.key := by kernel_rfl
theorem fns_ok : FnsOK Try.prog smB fns := by
  intro f fn h
  unfold fns at h
  split at h
  · simp only [Option.some.injEq] at h; subst h; exact key4
  · simp only [Option.some.injEq] at h; subst h; exact key8
  · simp only [Option.some.injEq] at h; subst h; exact key9
  · simp only [Option.some.injEq] at h; subst h; exact key10
  · simp only [Option.some.injEq] at h; subst h; exact key12
  · simp only [Option.some.injEq] at h; subst h; exact key13
  · simp only [Option.some.injEq] at h; subst h; exact key14
  · simp only [Option.some.injEq] at h; subst h; exact key15
  · simp only [Option.some.injEq] at h; subst h; exact key16
  · simp only [Option.some.injEq] at h; subst h; exact key18
  · simp only [Option.some.injEq] at h; subst h; exact key19
  · simp only [Option.some.injEq] at h; subst h; exact key22
  · simp only [Option.some.injEq] at h; subst h; exact key23
  · simp only [Option.some.injEq] at h; subst h; exact key24
  · simp only [Option.some.injEq] at h; subst h; exact key25
  · simp only [Option.some.injEq] at h; subst h; exact key27
  · simp only [Option.some.injEq] at h; subst h; exact key28
  · simp only [Option.some.injEq] at h; subst h; exact key31
  · simp only [Option.some.injEq] at h; subst h; exact key32
  · simp only [Option.some.injEq] at h; subst h; exact key33
  · simp only [Option.some.injEq] at h; subst h; exact key35
  · simp only [Option.some.injEq] at h; subst h; exact key37
  · simp only [Option.some.injEq] at h; subst h; exact key38
  · simp only [Option.some.injEq] at h; subst h; exact key39
  · simp only [Option.some.injEq] at h; subst h; exact key40
  · simp only [Option.some.injEq] at h; subst h; exact key41
  · simp only [Option.some.injEq] at h; subst h; exact key43
  · simp only [Option.some.injEq] at h; subst h; exact key44
  · simp only [Option.some.injEq] at h; subst h; exact key45
  · simp only [Option.some.injEq] at h; subst h; exact key46
  · simp only [Option.some.injEq] at h; subst h; exact key47
  · simp only [Option.some.injEq] at h; subst h; exact key48
  · simp only [Option.some.injEq] at h; subst h; exact key49
  · simp only [Option.some.injEq] at h; subst h; exact key50
  · simp only [Option.some.injEq] at h; subst h; exact key51
  · simp only [Option.some.injEq] at h; subst h; exact key53
  · simp only [Option.some.injEq] at h; subst h; exact key54
  · simp only [Option.some.injEq] at h; subst h; exact key55
  · simp only [Option.some.injEq] at h; subst h; exact key56
  · simp only [Option.some.injEq] at h; subst h; exact key57
  · cases h
theorem smok_12 : ∀ f s, sm_12 f = some s → SummOK Try.prog f s := by
  intro f s h
  unfold sm_12 at h
  cases h
theorem call_12 {R : Type} (n base : Nat) : CallOK Try.prog base (evFn (R := R) sm_12 fns FU n) := ev_sound hm0 smok_12 (fun f s h => (smok_12 f s h).2.1) fns_ok n
theorem sok_12 : SummOK Try.prog 12 s_12 := summ_shN (by decide) (fun _ => rfl) (fun _ => rfl) (call_12 1) (by kernel_rfl) run_12
theorem smok_27 : ∀ f s, sm_27 f = some s → SummOK Try.prog f s := by
  intro f s h
  unfold sm_27 at h
  cases h
theorem call_27 {R : Type} (n base : Nat) : CallOK Try.prog base (evFn (R := R) sm_27 fns FU n) := ev_sound hm0 smok_27 (fun f s h => (smok_27 f s h).2.1) fns_ok n
theorem sok_27 : SummOK Try.prog 27 s_27 := summ_shN (by decide) (fun _ => rfl) (fun _ => rfl) (call_27 1) (by kernel_rfl) run_27
theorem smok_55 : ∀ f s, sm_55 f = some s → SummOK Try.prog f s := by
  intro f s h
  unfold sm_55 at h
  by_cases h27 : f = 27
  · subst h27
    injection h with h
    subst h
    exact sok_27
  rw [nbeq_ne h27, cond_false] at h
  cases h
theorem call_55 {R : Type} (n base : Nat) : CallOK Try.prog base (evFn (R := R) sm_55 fns FU n) := ev_sound hm0 smok_55 (fun f s h => (smok_55 f s h).2.1) fns_ok n
theorem sok_55 : SummOK Try.prog 55 s_55 := summ_shN (by decide) (fun _ => rfl) (fun _ => rfl) (call_55 1) (by kernel_rfl) run_55
theorem smok_39 : ∀ f s, sm_39 f = some s → SummOK Try.prog f s := by
  intro f s h
  unfold sm_39 at h
  by_cases h55 : f = 55
  · subst h55
    injection h with h
    subst h
    exact sok_55
  rw [nbeq_ne h55, cond_false] at h
  cases h
theorem call_39 {R : Type} (n base : Nat) : CallOK Try.prog base (evFn (R := R) sm_39 fns FU n) := ev_sound hm0 smok_39 (fun f s h => (smok_39 f s h).2.1) fns_ok n
theorem sok_39 : SummOK Try.prog 39 s_39 := summ_shN (by decide) (fun _ => rfl) (fun _ => rfl) (call_39 4) (by kernel_rfl) run_39
theorem smok_40 : ∀ f s, sm_40 f = some s → SummOK Try.prog f s := by
  intro f s h
  unfold sm_40 at h
  cases h
theorem call_40 {R : Type} (n base : Nat) : CallOK Try.prog base (evFn (R := R) sm_40 fns FU n) := ev_sound hm0 smok_40 (fun f s h => (smok_40 f s h).2.1) fns_ok n
theorem sok_40 : SummOK Try.prog 40 s_40 := summ_shN (by decide) (fun _ => rfl) (fun _ => rfl) (call_40 1) (by kernel_rfl) run_40
theorem smok_41 : ∀ f s, sm_41 f = some s → SummOK Try.prog f s := by
  intro f s h
  unfold sm_41 at h
  cases h
theorem call_41 {R : Type} (n base : Nat) : CallOK Try.prog base (evFn (R := R) sm_41 fns FU n) := ev_sound hm0 smok_41 (fun f s h => (smok_41 f s h).2.1) fns_ok n
theorem sok_41 : SummOK Try.prog 41 s_41 := summ_shN (by decide) (fun _ => rfl) (fun _ => rfl) (call_41 1) (by kernel_rfl) run_41
theorem smok_28 : ∀ f s, sm_28 f = some s → SummOK Try.prog f s := by
  intro f s h
  unfold sm_28 at h
  by_cases h27 : f = 27
  · subst h27
    injection h with h
    subst h
    exact sok_27
  rw [nbeq_ne h27, cond_false] at h
  by_cases h39 : f = 39
  · subst h39
    injection h with h
    subst h
    exact sok_39
  rw [nbeq_ne h39, cond_false] at h
  by_cases h40 : f = 40
  · subst h40
    injection h with h
    subst h
    exact sok_40
  rw [nbeq_ne h40, cond_false] at h
  by_cases h41 : f = 41
  · subst h41
    injection h with h
    subst h
    exact sok_41
  rw [nbeq_ne h41, cond_false] at h
  cases h
theorem call_28 {R : Type} (n base : Nat) : CallOK Try.prog base (evFn (R := R) sm_28 fns FU n) := ev_sound hm0 smok_28 (fun f s h => (smok_28 f s h).2.1) fns_ok n
theorem sok_28 : SummOK Try.prog 28 s_28 := summ_shN (by decide) (fun _ => rfl) (fun _ => rfl) (call_28 1) (by kernel_rfl) run_28
theorem smok_38 : ∀ f s, sm_38 f = some s → SummOK Try.prog f s := by
  intro f s h
  unfold sm_38 at h
  by_cases h27 : f = 27
  · subst h27
    injection h with h
    subst h
    exact sok_27
  rw [nbeq_ne h27, cond_false] at h
  cases h
theorem call_38 {R : Type} (n base : Nat) : CallOK Try.prog base (evFn (R := R) sm_38 fns FU n) := ev_sound hm0 smok_38 (fun f s h => (smok_38 f s h).2.1) fns_ok n
theorem sok_38 : SummOK Try.prog 38 s_38 := summ_shN (by decide) (fun _ => rfl) (fun _ => rfl) (call_38 1) (by kernel_rfl) run_38
theorem smok_10 : ∀ f s, sm_10 f = some s → SummOK Try.prog f s := by
  intro f s h
  unfold sm_10 at h
  by_cases h26 : f = 26
  · subst h26
    injection h with h
    subst h
    exact sok_26
  rw [nbeq_ne h26, cond_false] at h
  by_cases h27 : f = 27
  · subst h27
    injection h with h
    subst h
    exact sok_27
  rw [nbeq_ne h27, cond_false] at h
  by_cases h28 : f = 28
  · subst h28
    injection h with h
    subst h
    exact sok_28
  rw [nbeq_ne h28, cond_false] at h
  by_cases h38 : f = 38
  · subst h38
    injection h with h
    subst h
    exact sok_38
  rw [nbeq_ne h38, cond_false] at h
  cases h
theorem call_10 {R : Type} (n base : Nat) : CallOK Try.prog base (evFn (R := R) sm_10 fns FU n) := ev_sound hm0 smok_10 (fun f s h => (smok_10 f s h).2.1) fns_ok n
theorem sok_10 : SummOK Try.prog 10 s_10 := summ_shN (by decide) (fun _ => rfl) (fun _ => rfl) (call_10 4) (by kernel_rfl) run_10
theorem smok_31 : ∀ f s, sm_31 f = some s → SummOK Try.prog f s := by
  intro f s h
  unfold sm_31 at h
  cases h
theorem call_31 {R : Type} (n base : Nat) : CallOK Try.prog base (evFn (R := R) sm_31 fns FU n) := ev_sound hm0 smok_31 (fun f s h => (smok_31 f s h).2.1) fns_ok n
theorem sok_31 : SummOK Try.prog 31 s_31 := summ_shN (by decide) (fun _ => rfl) (fun _ => rfl) (call_31 1) (by kernel_rfl) run_31
theorem smok_15 : ∀ f s, sm_15 f = some s → SummOK Try.prog f s := by
  intro f s h
  unfold sm_15 at h
  by_cases h31 : f = 31
  · subst h31
    injection h with h
    subst h
    exact sok_31
  rw [nbeq_ne h31, cond_false] at h
  cases h
theorem call_15 {R : Type} (n base : Nat) : CallOK Try.prog base (evFn (R := R) sm_15 fns FU n) := ev_sound hm0 smok_15 (fun f s h => (smok_15 f s h).2.1) fns_ok n
theorem sok_15 : SummOK Try.prog 15 s_15 := summ_shN (by decide) (fun _ => rfl) (fun _ => rfl) (call_15 1) (by kernel_rfl) run_15
theorem smok_32 : ∀ f s, sm_32 f = some s → SummOK Try.prog f s := by
  intro f s h
  unfold sm_32 at h
  cases h
theorem call_32 {R : Type} (n base : Nat) : CallOK Try.prog base (evFn (R := R) sm_32 fns FU n) := ev_sound hm0 smok_32 (fun f s h => (smok_32 f s h).2.1) fns_ok n
theorem sok_32 : SummOK Try.prog 32 s_32 := summ_shN (by decide) (fun _ => rfl) (fun _ => rfl) (call_32 1) (by kernel_rfl) run_32
theorem smok_13 : ∀ f s, sm_13 f = some s → SummOK Try.prog f s := by
  intro f s h
  unfold sm_13 at h
  by_cases h15 : f = 15
  · subst h15
    injection h with h
    subst h
    exact sok_15
  rw [nbeq_ne h15, cond_false] at h
  by_cases h31 : f = 31
  · subst h31
    injection h with h
    subst h
    exact sok_31
  rw [nbeq_ne h31, cond_false] at h
  by_cases h32 : f = 32
  · subst h32
    injection h with h
    subst h
    exact sok_32
  rw [nbeq_ne h32, cond_false] at h
  cases h
theorem call_13 {R : Type} (n base : Nat) : CallOK Try.prog base (evFn (R := R) sm_13 fns FU n) := ev_sound hm0 smok_13 (fun f s h => (smok_13 f s h).2.1) fns_ok n
theorem sok_13 : SummOK Try.prog 13 s_13 := summ_shN (by decide) (fun _ => rfl) (fun _ => rfl) (call_13 1) (by kernel_rfl) run_13
theorem smok_16 : ∀ f s, sm_16 f = some s → SummOK Try.prog f s := by
  intro f s h
  unfold sm_16 at h
  by_cases h10 : f = 10
  · subst h10
    injection h with h
    subst h
    exact sok_10
  rw [nbeq_ne h10, cond_false] at h
  cases h
theorem call_16 {R : Type} (n base : Nat) : CallOK Try.prog base (evFn (R := R) sm_16 fns FU n) := ev_sound hm0 smok_16 (fun f s h => (smok_16 f s h).2.1) fns_ok n
theorem sok_16 : SummOK Try.prog 16 s_16 := summ_sh (fun _ => rfl) (fun _ => rfl) (call_16 1) (by kernel_rfl) run_16
theorem smok_19 : ∀ f s, sm_19 f = some s → SummOK Try.prog f s := by
  intro f s h
  unfold sm_19 at h
  by_cases h31 : f = 31
  · subst h31
    injection h with h
    subst h
    exact sok_31
  rw [nbeq_ne h31, cond_false] at h
  cases h
theorem call_19 {R : Type} (n base : Nat) : CallOK Try.prog base (evFn (R := R) sm_19 fns FU n) := ev_sound hm0 smok_19 (fun f s h => (smok_19 f s h).2.1) fns_ok n
theorem sok_19 : SummOK Try.prog 19 s_19 := summ_shN (by decide) (fun _ => rfl) (fun _ => rfl) (call_19 1) (by kernel_rfl) run_19
theorem smok_43 : ∀ f s, sm_43 f = some s → SummOK Try.prog f s := by
  intro f s h
  unfold sm_43 at h
  cases h
theorem call_43 {R : Type} (n base : Nat) : CallOK Try.prog base (evFn (R := R) sm_43 fns FU n) := ev_sound hm0 smok_43 (fun f s h => (smok_43 f s h).2.1) fns_ok n
theorem sok_43 : SummOK Try.prog 43 s_43 := summ_shN (by decide) (fun _ => rfl) (fun _ => rfl) (call_43 1) (by kernel_rfl) run_43
theorem smok_44 : ∀ f s, sm_44 f = some s → SummOK Try.prog f s := by
  intro f s h
  unfold sm_44 at h
  cases h
theorem call_44 {R : Type} (n base : Nat) : CallOK Try.prog base (evFn (R := R) sm_44 fns FU n) := ev_sound hm0 smok_44 (fun f s h => (smok_44 f s h).2.1) fns_ok n
theorem sok_44 : SummOK Try.prog 44 s_44 := summ_shN (by decide) (fun _ => rfl) (fun _ => rfl) (call_44 1) (by kernel_rfl) run_44
theorem smok_46 : ∀ f s, sm_46 f = some s → SummOK Try.prog f s := by
  intro f s h
  unfold sm_46 at h
  cases h
theorem call_46 {R : Type} (n base : Nat) : CallOK Try.prog base (evFn (R := R) sm_46 fns FU n) := ev_sound hm0 smok_46 (fun f s h => (smok_46 f s h).2.1) fns_ok n
theorem sok_46 : SummOK Try.prog 46 s_46 := summ_sh (fun _ => rfl) (fun _ => rfl) (call_46 1) (by kernel_rfl) run_46
theorem smok_56 : ∀ f s, sm_56 f = some s → SummOK Try.prog f s := by
  intro f s h
  unfold sm_56 at h
  cases h
theorem call_56 {R : Type} (n base : Nat) : CallOK Try.prog base (evFn (R := R) sm_56 fns FU n) := ev_sound hm0 smok_56 (fun f s h => (smok_56 f s h).2.1) fns_ok n
theorem sok_56 : SummOK Try.prog 56 s_56 := summ_sh (fun _ => rfl) (fun _ => rfl) (call_56 1) (by kernel_rfl) run_56
theorem smok_14 : ∀ f s, sm_14 f = some s → SummOK Try.prog f s := by
  intro f s h
  unfold sm_14 at h
  by_cases h10 : f = 10
  · subst h10
    injection h with h
    subst h
    exact sok_10
  rw [nbeq_ne h10, cond_false] at h
  by_cases h13 : f = 13
  · subst h13
    injection h with h
    subst h
    exact sok_13
  rw [nbeq_ne h13, cond_false] at h
  by_cases h15 : f = 15
  · subst h15
    injection h with h
    subst h
    exact sok_15
  rw [nbeq_ne h15, cond_false] at h
  by_cases h16 : f = 16
  · subst h16
    injection h with h
    subst h
    exact sok_16
  rw [nbeq_ne h16, cond_false] at h
  by_cases h19 : f = 19
  · subst h19
    injection h with h
    subst h
    exact sok_19
  rw [nbeq_ne h19, cond_false] at h
  by_cases h31 : f = 31
  · subst h31
    injection h with h
    subst h
    exact sok_31
  rw [nbeq_ne h31, cond_false] at h
  by_cases h32 : f = 32
  · subst h32
    injection h with h
    subst h
    exact sok_32
  rw [nbeq_ne h32, cond_false] at h
  by_cases h43 : f = 43
  · subst h43
    injection h with h
    subst h
    exact sok_43
  rw [nbeq_ne h43, cond_false] at h
  by_cases h44 : f = 44
  · subst h44
    injection h with h
    subst h
    exact sok_44
  rw [nbeq_ne h44, cond_false] at h
  by_cases h46 : f = 46
  · subst h46
    injection h with h
    subst h
    exact sok_46
  rw [nbeq_ne h46, cond_false] at h
  by_cases h56 : f = 56
  · subst h56
    injection h with h
    subst h
    exact sok_56
  rw [nbeq_ne h56, cond_false] at h
  cases h
theorem call_14 {R : Type} (n base : Nat) : CallOK Try.prog base (evFn (R := R) sm_14 fns FU n) := ev_sound hm0 smok_14 (fun f s h => (smok_14 f s h).2.1) fns_ok n
theorem sok_14 : SummOK Try.prog 14 s_14 := summ_sh (fun _ => rfl) (fun _ => rfl) (call_14 3) (by kernel_rfl) run_14
theorem smok_18 : ∀ f s, sm_18 f = some s → SummOK Try.prog f s := by
  intro f s h
  unfold sm_18 at h
  cases h
theorem call_18 {R : Type} (n base : Nat) : CallOK Try.prog base (evFn (R := R) sm_18 fns FU n) := ev_sound hm0 smok_18 (fun f s h => (smok_18 f s h).2.1) fns_ok n
theorem sok_18 : SummOK Try.prog 18 s_18 := summ_shN (by decide) (fun _ => rfl) (fun _ => rfl) (call_18 1) (by kernel_rfl) run_18
theorem smok_8 : ∀ f s, sm_8 f = some s → SummOK Try.prog f s := by
  intro f s h
  unfold sm_8 at h
  by_cases h12 : f = 12
  · subst h12
    injection h with h
    subst h
    exact sok_12
  rw [nbeq_ne h12, cond_false] at h
  by_cases h14 : f = 14
  · subst h14
    injection h with h
    subst h
    exact sok_14
  rw [nbeq_ne h14, cond_false] at h
  by_cases h18 : f = 18
  · subst h18
    injection h with h
    subst h
    exact sok_18
  rw [nbeq_ne h18, cond_false] at h
  cases h
theorem call_8 {R : Type} (n base : Nat) : CallOK Try.prog base (evFn (R := R) sm_8 fns FU n) := ev_sound hm0 smok_8 (fun f s h => (smok_8 f s h).2.1) fns_ok n
theorem sok_8 : SummOK Try.prog 8 s_8 := summ_shN (by decide) (fun _ => rfl) (fun _ => rfl) (call_8 1) (by kernel_rfl) run_8
theorem smok_4 : ∀ f s, sm_4 f = some s → SummOK Try.prog f s := by
  intro f s h
  unfold sm_4 at h
  by_cases h8 : f = 8
  · subst h8
    injection h with h
    subst h
    exact sok_8
  rw [nbeq_ne h8, cond_false] at h
  by_cases h12 : f = 12
  · subst h12
    injection h with h
    subst h
    exact sok_12
  rw [nbeq_ne h12, cond_false] at h
  by_cases h13 : f = 13
  · subst h13
    injection h with h
    subst h
    exact sok_13
  rw [nbeq_ne h13, cond_false] at h
  by_cases h14 : f = 14
  · subst h14
    injection h with h
    subst h
    exact sok_14
  rw [nbeq_ne h14, cond_false] at h
  by_cases h18 : f = 18
  · subst h18
    injection h with h
    subst h
    exact sok_18
  rw [nbeq_ne h18, cond_false] at h
  by_cases h19 : f = 19
  · subst h19
    injection h with h
    subst h
    exact sok_19
  rw [nbeq_ne h19, cond_false] at h
  cases h
theorem call_4 {R : Type} (n base : Nat) : CallOK Try.prog base (evFn (R := R) sm_4 fns FU n) := ev_sound hm0 smok_4 (fun f s h => (smok_4 f s h).2.1) fns_ok n
end Go.Ev
