/- Helpers: functions of the program as Lean functions, and what they compute. No condition. -/
import Derived.Test.YtfofdehkgkjbbaaE5P2
import Derived.Test.YtfofdehkgkjbbaaG5P0
import Derived.Test.YtfofdehkgkjbbaaG5P2
import Derived.Test.YtfofdehkgkjbbaaG5P1
import Derived.Test.YtfofdehkgkjbbaaProg
set_option maxRecDepth 10000
set_option linter.unusedVariables false
set_option linter.unusedSimpArgs false
open Go.IntKind (wrap i64 i32 i16 i8 u64 u32 u16 u8)
open List (getD length take drop replicate)
open Go.Ev.Sp
namespace Go.Ev
open Go
set_option maxRecDepth 100000
set_option maxHeartbeats 4000000
set_option linter.unusedVariables false
noncomputable section
noncomputable def sm_87 : Nat → Option Summ := fun f => bif Nat.beq f 83 then some s_83 else none
noncomputable def T_87_0 (p0 : List (List Int)) (p1 : Int) (p2 p3 : List Int) : St := St.mk ([CV.pure (Ty.slice (Ty.arr 32 (Ty.int u8))) p0, jk, CV.ptr 0 [], CV.whole 1, CV.int i64 p1] ++ (jl 14)) [Blk.mem (CV.pure (Ty.arr 32 (Ty.int u8)) p2), Blk.vec 5 (Ty.int u8) p3] 0
noncomputable def X_87_0_0 (p2 p3 : List Int) : St := St.mk ([jk, jk, CV.ptr 0 [], CV.whole 1] ++ (jl 15)) [Blk.mem (CV.pure (Ty.arr 32 (Ty.int u8)) p2), Blk.vec 5 (Ty.int u8) p3] 0
inductive Sp.E_87_0 where
 | e0 (p2 p3 : List Int)
noncomputable def Sp.B_87_0 {R : Type} (r : Option E_87_0) (k0 : List Int → List Int → Option R) : Option R := match r with
 | none => none
 | some (.e0 p2 p3) => k0 p2 p3
noncomputable def Sp.L_87_0 : Nat → List (List Int) → Int → List Int → List Int → Option E_87_0
 | 0, _, _, _, _ => none
 | m + 1, p0, p1, p2, p3 => bif decide (p1 < (↑(length p0) : Int)) then gd (inB p1 (length p0)) (gd (room (length p3 + length (take 32 (drop 0 (getD p0 (Int.toNat p1) (Ty.dflt (Ty.arr 32 (Ty.int u8))))))) 1) (L_87_0 m p0 (wrap i64 (p1 + 1)) p2 (p3 ++ take 32 (drop 0 (getD p0 (Int.toNat p1) (Ty.dflt (Ty.arr 32 (Ty.int u8)))))))) else some (E_87_0.e0 p2 p3)
noncomputable def G_87_0 {R : Type} (p0 : List (List Int)) (p1 : Int) (p2 p3 : List Int) (k : Ex → St → Option R) : Option R := B_87_0 (L_87_0 FU p0 p1 p2 p3) (fun p2 p3 => k (Ex.exit 0) (X_87_0_0 p2 p3))
noncomputable def o_87_0 {R : Type} (G : List (List Int) → Int → List Int → List Int → (Ex → St → Option R) → Option R) : St → (Ex → St → Option R) → Option R := fun T k => match T.sl.getD 0 .junk, T.sl.getD 2 .junk, T.sl.getD 3 .junk, T.sl.getD 4 .junk, T.hp with
 | CV.pure (Ty.slice (Ty.arr 32 (Ty.int u8))) p0, CV.ptr 0 [], CV.whole 1, CV.int i64 p1, ((Blk.mem (CV.pure (Ty.arr 32 (Ty.int u8)) p2)) :: (Blk.vec 5 (Ty.int u8) p3) :: []) => gd (shapeOK T 19 [0, 2, 3, 4] 0) (G p0 p1 p2 p3 k)
 | _, _, _, _, _ => none
theorem o_87_0_inv {R : Type} {G : List (List Int) → Int → List Int → List Int → (Ex → St → Option R) → Option R} {T : St} {k : Ex → St → Option R} {r : R} (h : o_87_0 G T k = some r) : ∃ p0 p1 p2 p3, T = T_87_0 p0 p1 p2 p3 ∧ G p0 p1 p2 p3 k = some r := by
 unfold o_87_0 at h
 split at h
 · obtain ⟨hs, h'⟩ := gd_some h
   refine ⟨_, _, _, _, (st_of (asg := [(0, _), (2, _), (3, _), (4, _)]) hs ⟨by assumption, by assumption, by assumption, by assumption, trivial⟩ (by assumption)).trans ?_, h'⟩
   kernel_rfl
 · cases h
noncomputable def O_87_87_0 {R : Type} : St → (Ex → St → Option R) → Option R := fun T k => o_87_0 G_87_0 T k
theorem body_87_0 {R : Type} (K0 : St → Option R) (K1 : Ex → St → Option R) (p0 : List (List Int)) (p1 : Int) (p2 p3 : List Int) : evLB (evCodeL sm_87 FU (ovr noO (evFn sm_87 fns FU 0)) .nil ir87_b0) (St.norm ir87_v0) (T_87_0 p0 p1 p2 p3) K0 K1 =
 bif decide (p1 < (↑(length p0) : Int)) then gd (inB p1 (length p0)) (gd (room (length p3 + length (take 32 (drop 0 (getD p0 (Int.toNat p1) (Ty.dflt (Ty.arr 32 (Ty.int u8))))))) 1) (K0 (T_87_0 p0 (wrap i64 (p1 + 1)) p2 (p3 ++ take 32 (drop 0 (getD p0 (Int.toNat p1) (Ty.dflt (Ty.arr 32 (Ty.int u8))))))))) else K1 (Ex.exit 0) (X_87_0_0 p2 p3) := by kernel_rfl
theorem Bgd_87_0 {R : Type} {c : Bool} {x : Option R} {y : Option E_87_0} {k0 : List Int → List Int → Option R} (h : x = B_87_0 y k0) : gd c x = B_87_0 (gd c y) k0 := by cases c; rfl; exact h
theorem Bcond_87_0 {R : Type} {c : Bool} {x x' : Option R} {y y' : Option E_87_0} {k0 : List Int → List Int → Option R} (h : x = B_87_0 y k0) (h' : x' = B_87_0 y' k0) : (bif c then x else x') = B_87_0 (bif c then y else y') k0 := by cases c; exact h'; exact h
theorem loop_87_0 {R : Type} (k : Ex → St → Option R) : ∀ (m : Nat) (p0 : List (List Int)) (p1 : Int) (p2 : List Int) (p3 : List Int), evLoopN (evCodeL sm_87 FU (ovr noO (evFn sm_87 fns FU 0)) .nil ir87_b0) (St.norm ir87_v0) m (T_87_0 p0 p1 p2 p3) k = B_87_0 (L_87_0 m p0 p1 p2 p3) (fun p2 p3 => k (Ex.exit (0 : Nat)) (X_87_0_0 p2 p3))
 | 0, _, _, _, _ => rfl
 | m + 1, p0, p1, p2, p3 => by
   rw [evLoopN_succ, body_87_0, L_87_0]
   repeat' first | apply Bgd_87_0 | apply Bcond_87_0 | exact loop_87_0 k m _ _ _ _ | rfl
theorem ok_87_0 {R : Type} (T : St) (k : Ex → St → Option R) (r : R) (h0 : o_87_0 G_87_0 T k = some r) : evLoopN (evCode sm_87 FU (evFn sm_87 fns FU 0) ir87_b0) (St.norm ir87_v0) FU T k = some r := by
 obtain ⟨p0, p1, p2, p3, rfl, h⟩ := o_87_0_inv h0
 refine evLoopN_L (t := .nil) noO_ok trivial _ _ _ _ ?_
 rw [loop_87_0]
 exact h
theorem OK_87_87_0 {R : Type} (T : St) (k : Ex → St → Option R) (r : R) (h : O_87_87_0 T k = some r) : evLoopN (evCode sm_87 FU (evFn sm_87 fns FU 0) ir87_b0) (St.norm ir87_v0) FU T k = some r := ok_87_0 T k r h
noncomputable def F_87 (a0 : (List (List Int))) : Option ((List Int) × Unit) :=
 B_87_0 (L_87_0 4611686018427387904 a0 0 (replicate 32 (0 :Int)) []) fun y2 y3 => gd (p_83 y3) (some ((v_83 y3).1, PUnit.unit))
theorem fn_87 (a0 : (List (List Int))) : evFnL sm_87 FU (ovr noO (evFn sm_87 fns FU 0)) (ir87_t O_87_87_0) ir87 (ofH [(.slice (.arr 32 (.int .u8)))] (a0, ())) [] (pureK [(.arr 32 (.int .u8))]) = F_87 a0 := by kernel_rfl
noncomputable def Sp.p_87 (a0 : (List (List Int))) : Bool := (F_87 a0).isSome
noncomputable def Sp.v_87 (a0 : (List (List Int))) : (List Int) × Unit := (F_87 a0).getD (dfH [(.arr 32 (.int .u8))])
noncomputable def s_87 : Summ := shN [(.slice (.arr 32 (.int .u8)))] [(.arr 32 (.int .u8))] (fun x => p_87 x.1) (fun x => v_87 x.1)
theorem pv_87 (a0 : (List (List Int))) {y : (List Int) × Unit} (h : F_87 a0 = some y) : p_87 a0 = true ∧ v_87 a0 = y := ⟨by rw [p_87, h]; rfl, by rw [v_87, h]; rfl⟩
theorem run_87 (x : HDen [(.slice (.arr 32 (.int .u8)))]) (y : HDen [(.arr 32 (.int .u8))]) (h : F_87 x.1 = some y) : evFn sm_87 fns FU 1 87 (ofH [(.slice (.arr 32 (.int .u8)))] x) [] (pureK [(.arr 32 (.int .u8))]) = some y :=
 evFnL_sound (fn := ir87) (t := (ir87_t O_87_87_0)) (o := noO) rfl noO_ok (ir87_tok (fun T k r => OK_87_87_0 T k r)) ((fn_87 _).trans h)
end
noncomputable section
noncomputable def sm_88 : Nat → Option Summ := fun f => bif Nat.beq f 83 then some s_83 else none
noncomputable def F_88 (a0 a1 : (List Int)) : Option ((List Int) × Unit) :=
 gd (room (1 + length (take 32 (drop 0 a0))) 1) (gd (room (length ([255] ++ take 32 (drop 0 a0)) + length (take 32 (drop 0 a1))) 1) (gd (p_83 ([255] ++ take 32 (drop 0 a0) ++ take 32 (drop 0 a1))) (some ((v_83 ([255] ++ take 32 (drop 0 a0) ++ take 32 (drop 0 a1))).1, PUnit.unit))))
theorem fn_88 (a0 a1 : (List Int)) : evFnL sm_88 FU (ovr noO (evFn sm_88 fns FU 0)) .nil ir88 (ofH [(.arr 32 (.int .u8)), (.arr 32 (.int .u8))] (a0, a1, ())) [] (pureK [(.arr 32 (.int .u8))]) = F_88 a0 a1 := by kernel_rfl
noncomputable def Sp.p_88 (a0 a1 : (List Int)) : Bool := (F_88 a0 a1).isSome
noncomputable def Sp.v_88 (a0 a1 : (List Int)) : (List Int) × Unit := (F_88 a0 a1).getD (dfH [(.arr 32 (.int .u8))])
noncomputable def s_88 : Summ := shN [(.arr 32 (.int .u8)), (.arr 32 (.int .u8))] [(.arr 32 (.int .u8))] (fun x => p_88 x.1 x.2.1) (fun x => v_88 x.1 x.2.1)
theorem pv_88 (a0 a1 : (List Int)) {y : (List Int) × Unit} (h : F_88 a0 a1 = some y) : p_88 a0 a1 = true ∧ v_88 a0 a1 = y := ⟨by rw [p_88, h]; rfl, by rw [v_88, h]; rfl⟩
theorem run_88 (x : HDen [(.arr 32 (.int .u8)), (.arr 32 (.int .u8))]) (y : HDen [(.arr 32 (.int .u8))]) (h : F_88 x.1 x.2.1 = some y) : evFn sm_88 fns FU 1 88 (ofH [(.arr 32 (.int .u8)), (.arr 32 (.int .u8))] x) [] (pureK [(.arr 32 (.int .u8))]) = some y :=
 evFnL_sound (fn := ir88) (t := .nil) (o := noO) rfl noO_ok trivial ((fn_88 _ _).trans h)
end
noncomputable section
abbrev Zt50_0 : Type := Int × List (List Int) × List (List Int) × Unit
abbrev Zy50_1 : Ty := (Ty.arr (32 : Nat) (Ty.int u8))
abbrev Zy50_2 : Ty := (Ty.pair (Ty.int i64) (Ty.pair (Ty.slice (Ty.arr (32 : Nat) (Ty.int u8))) (Ty.pair (Ty.slice (Ty.arr (32 : Nat) (Ty.int u8))) Ty.unit)))
abbrev Zy50_3 : Ty := (.pair (.int .i64) (.pair (.slice (.arr 32 (.int .u8))) (.pair (.slice (.arr 32 (.int .u8))) .unit)))
abbrev Zt50_4 : Type := List (List Int)
noncomputable def sm_50 : Nat → Option Summ := fun f => bif Nat.beq f 84 then some s_84 else bif Nat.beq f 85 then some s_85 else bif Nat.beq f 86 then some s_86 else bif Nat.beq f 87 then some s_87 else bif Nat.beq f 88 then some s_88 else none
noncomputable def T_50_0 (p0 : List Int) (p1 : Int) (p2 : List Int) (p3 : Zt50_0) (p4 : Zt50_4) : St := St.mk ([jk, jk, jk, CV.ptr 0 [], jk, CV.ptr 1 [], jk, CV.pure (Ty.slice (Ty.int i64)) p0, CV.whole 2, CV.int i64 p1] ++ (jl 60)) [Blk.mem (CV.pure Zy50_1 p2), Blk.mem (CV.pure Zy50_2 p3), Blk.vec 27 Zy50_1 p4] 0
noncomputable def X_50_0_0 (p2 : List Int) (p3 : Zt50_0) (p4 : Zt50_4) : St := St.mk ([jk, jk, jk, CV.ptr 0 [], jk, CV.ptr 1 [], jk, jk, CV.whole 2] ++ (jl 61)) [Blk.mem (CV.pure Zy50_1 p2), Blk.mem (CV.pure Zy50_2 p3), Blk.vec 27 Zy50_1 p4] 0
inductive Sp.E_50_0 where
 | e0 (p2 : List Int) (p3 : Zt50_0) (p4 : Zt50_4)
noncomputable def Sp.B_50_0 {R : Type} (r : Option E_50_0) (k0 : List Int → Zt50_0 → Zt50_4 → Option R) : Option R := match r with
 | none => none
 | some (.e0 p2 p3 p4) => k0 p2 p3 p4
noncomputable def Sp.L_50_0 : Nat → List Int → Int → List Int → (Int × List (List Int) × List (List Int) × Unit) → List (List Int) → Option E_50_0
 | 0, _, _, _, _, _ => none
 | m + 1, p0, p1, p2, p3, p4 => bif decide (p1 < 67) then gd (inB p1 (length (p3.2.1))) (gd (inB p1 (length p0)) (gd (p_86 (getD (p3.2.1) (Int.toNat p1) (Ty.dflt (Ty.arr 32 (Ty.int u8)))) (getD p0 (Int.toNat p1) 0) 15) (gd (room (length p4 + 1) 32) (L_50_0 m p0 (wrap i64 (p1 + 1)) p2 p3 (p4 ++ [(v_86 (getD (p3.2.1) (Int.toNat p1) (Ty.dflt (Ty.arr 32 (Ty.int u8)))) (getD p0 (Int.toNat p1) 0) 15).1]))))) else some (E_50_0.e0 p2 p3 p4)
noncomputable def G_50_0 {R : Type} (p0 : List Int) (p1 : Int) (p2 : List Int) (p3 : Zt50_0) (p4 : Zt50_4) (k : Ex → St → Option R) : Option R := B_50_0 (L_50_0 FU p0 p1 p2 p3 p4) (fun p2 p3 p4 => k (Ex.exit 0) (X_50_0_0 p2 p3 p4))
noncomputable def o_50_0 {R : Type} (G : List Int → Int → List Int → Zt50_0 → Zt50_4 → (Ex → St → Option R) → Option R) : St → (Ex → St → Option R) → Option R := fun T k => match T.sl.getD 3 .junk, T.sl.getD 5 .junk, T.sl.getD 7 .junk, T.sl.getD 8 .junk, T.sl.getD 9 .junk, T.hp with
 | CV.ptr 0 [], CV.ptr 1 [], CV.pure (Ty.slice (Ty.int i64)) p0, CV.whole 2, CV.int i64 p1, ((Blk.mem (CV.pure (Ty.arr 32 (Ty.int u8)) p2)) :: (Blk.mem (CV.pure (Ty.pair (Ty.int i64) (Ty.pair (Ty.slice (Ty.arr 32 (Ty.int u8))) (Ty.pair (Ty.slice (Ty.arr 32 (Ty.int u8))) Ty.unit))) p3)) :: (Blk.vec 27 (Ty.arr 32 (Ty.int u8)) p4) :: []) => gd (shapeOK T 70 [3, 5, 7, 8, 9] 0) (G p0 p1 p2 p3 p4 k)
 | _, _, _, _, _, _ => none
theorem o_50_0_inv {R : Type} {G : List Int → Int → List Int → Zt50_0 → Zt50_4 → (Ex → St → Option R) → Option R} {T : St} {k : Ex → St → Option R} {r : R} (h : o_50_0 G T k = some r) : ∃ p0 p1 p2 p3 p4, T = T_50_0 p0 p1 p2 p3 p4 ∧ G p0 p1 p2 p3 p4 k = some r := by
 unfold o_50_0 at h
 split at h
 · obtain ⟨hs, h'⟩ := gd_some h
   refine ⟨_, _, _, _, _, (st_of (asg := [(3, _), (5, _), (7, _), (8, _), (9, _)]) hs ⟨by assumption, by assumption, by assumption, by assumption, by assumption, trivial⟩ (by assumption)).trans ?_, h'⟩
   kernel_rfl
 · cases h
noncomputable def T_50_1 (p0 : List Int) (p1 : Zt50_0) (p2 : List Int) : St := St.mk ([jk, jk, jk, CV.ptr 0 [], jk, CV.ptr 1 [], jk, jk, jk, jk, CV.ptr 2 []] ++ (jl 59)) [Blk.mem (CV.pure Zy50_1 p0), Blk.mem (CV.pure Zy50_2 p1), Blk.mem (CV.pure Zy50_1 p2)] 0
noncomputable def X_50_1_0 (p0 : List Int) (p1 : Zt50_0) (p2 : List Int) : St := St.mk (jl 6 ++ ([CV.bool (Ty.beq Zy50_1 ((v_88 (getD (p1.2.2.1) 1 (Ty.dflt Zy50_1)) p2).1) p0)] ++ (jl 63))) [] 0
noncomputable def X_50_1_1 (p0 : List Int) (p1 : Zt50_0) (p2 : List Int) : St := St.mk (jl 6 ++ ([CV.bool (Ty.beq Zy50_1 ((v_88 p2 (getD (p1.2.2.1) 1 (Ty.dflt Zy50_1))).1) p0)] ++ (jl 63))) [] 0
inductive Sp.E_50_1 where
 | e0 (p0 : List Int) (p1 : Zt50_0) (p2 : List Int)
 | e1 (p0 : List Int) (p1 : Zt50_0) (p2 : List Int)
noncomputable def Sp.B_50_1 {R : Type} (r : Option E_50_1) (k0 k1 : List Int → Zt50_0 → List Int → Option R) : Option R := match r with
 | none => none
 | some (.e0 p0 p1 p2) => k0 p0 p1 p2
 | some (.e1 p0 p1 p2) => k1 p0 p1 p2
noncomputable def Sp.J_50_1 (p0 : List Int) (p1 : Int × List (List Int) × List (List Int) × Unit) (p2 : List Int) : Option E_50_1 :=
 bif wrap i64 (Int.tdiv (p1.1) 2) == 1 then gd (inB 1 (length (p1.2.2.1))) (gd (p_88 (getD (p1.2.2.1) 1 (Ty.dflt (Ty.arr 32 (Ty.int u8)))) p2) (some (E_50_1.e0 p0 p1 p2))) else gd (inB 1 (length (p1.2.2.1))) (gd (p_88 p2 (getD (p1.2.2.1) 1 (Ty.dflt (Ty.arr 32 (Ty.int u8))))) (some (E_50_1.e1 p0 p1 p2)))
noncomputable def G_50_1 {R : Type} (p0 : List Int) (p1 : Zt50_0) (p2 : List Int) (k : Ex → St → Option R) : Option R := B_50_1 (J_50_1 p0 p1 p2) (fun p0 p1 p2 => k Ex.ret (X_50_1_0 p0 p1 p2)) (fun p0 p1 p2 => k Ex.ret (X_50_1_1 p0 p1 p2))
noncomputable def o_50_1 {R : Type} (G : List Int → Zt50_0 → List Int → (Ex → St → Option R) → Option R) : St → (Ex → St → Option R) → Option R := fun T k => match T.sl.getD 3 .junk, T.sl.getD 5 .junk, T.sl.getD 10 .junk, T.hp with
 | CV.ptr 0 [], CV.ptr 1 [], CV.ptr 2 [], ((Blk.mem (CV.pure (Ty.arr 32 (Ty.int u8)) p0)) :: (Blk.mem (CV.pure (Ty.pair (Ty.int i64) (Ty.pair (Ty.slice (Ty.arr 32 (Ty.int u8))) (Ty.pair (Ty.slice (Ty.arr 32 (Ty.int u8))) Ty.unit))) p1)) :: (Blk.mem (CV.pure (Ty.arr 32 (Ty.int u8)) p2)) :: []) => gd (shapeOK T 70 [3, 5, 10] 0) (G p0 p1 p2 k)
 | _, _, _, _ => none
theorem o_50_1_inv {R : Type} {G : List Int → Zt50_0 → List Int → (Ex → St → Option R) → Option R} {T : St} {k : Ex → St → Option R} {r : R} (h : o_50_1 G T k = some r) : ∃ p0 p1 p2, T = T_50_1 p0 p1 p2 ∧ G p0 p1 p2 k = some r := by
 unfold o_50_1 at h
 split at h
 · obtain ⟨hs, h'⟩ := gd_some h
   refine ⟨_, _, _, (st_of (asg := [(3, _), (5, _), (10, _)]) hs ⟨by assumption, by assumption, by assumption, trivial⟩ (by assumption)).trans ?_, h'⟩
   kernel_rfl
 · cases h
noncomputable def O_50_50_0 {R : Type} : St → (Ex → St → Option R) → Option R := fun T k => o_50_0 G_50_0 T k
noncomputable def O_50_50_1 {R : Type} : St → (Ex → St → Option R) → Option R := fun T k => o_50_1 G_50_1 T k
theorem body_50_0 {R : Type} (K0 : St → Option R) (K1 : Ex → St → Option R) (p0 : List Int) (p1 : Int) (p2 : List Int) (p3 : Zt50_0) (p4 : Zt50_4) : evLB (evCodeL sm_50 FU (ovr noO (evFn sm_50 fns FU 0)) .nil ir50_b0) (St.norm ir50_v0) (T_50_0 p0 p1 p2 p3 p4) K0 K1 =
 bif decide (p1 < 67) then gd (inB p1 (length (p3.2.1))) (gd (inB p1 (length p0)) (gd (p_86 (getD (p3.2.1) (Int.toNat p1) (Ty.dflt Zy50_1)) (getD p0 (Int.toNat p1) 0) 15) (gd (room (length p4 + 1) 32) (K0 (T_50_0 p0 (wrap i64 (p1 + 1)) p2 p3 (p4 ++ [(v_86 (getD (p3.2.1) (Int.toNat p1) (Ty.dflt Zy50_1)) (getD p0 (Int.toNat p1) 0) 15).1])))))) else K1 (Ex.exit 0) (X_50_0_0 p2 p3 p4) := by kernel_rfl
theorem Bgd_50_0 {R : Type} {c : Bool} {x : Option R} {y : Option E_50_0} {k0 : List Int → Zt50_0 → Zt50_4 → Option R} (h : x = B_50_0 y k0) : gd c x = B_50_0 (gd c y) k0 := by cases c; rfl; exact h
theorem Bcond_50_0 {R : Type} {c : Bool} {x x' : Option R} {y y' : Option E_50_0} {k0 : List Int → Zt50_0 → Zt50_4 → Option R} (h : x = B_50_0 y k0) (h' : x' = B_50_0 y' k0) : (bif c then x else x') = B_50_0 (bif c then y else y') k0 := by cases c; exact h'; exact h
theorem loop_50_0 {R : Type} (k : Ex → St → Option R) : ∀ (m : Nat) (p0 : List Int) (p1 : Int) (p2 : List Int) (p3 : Zt50_0) (p4 : Zt50_4), evLoopN (evCodeL sm_50 FU (ovr noO (evFn sm_50 fns FU 0)) .nil ir50_b0) (St.norm ir50_v0) m (T_50_0 p0 p1 p2 p3 p4) k = B_50_0 (L_50_0 m p0 p1 p2 p3 p4) (fun p2 p3 p4 => k (Ex.exit (0 : Nat)) (X_50_0_0 p2 p3 p4))
 | 0, _, _, _, _, _ => rfl
 | m + 1, p0, p1, p2, p3, p4 => by
   rw [evLoopN_succ, body_50_0, L_50_0]
   repeat' first | apply Bgd_50_0 | apply Bcond_50_0 | exact loop_50_0 k m _ _ _ _ _ | rfl
theorem ok_50_0 {R : Type} (T : St) (k : Ex → St → Option R) (r : R) (h0 : o_50_0 G_50_0 T k = some r) : evLoopN (evCode sm_50 FU (evFn sm_50 fns FU 0) ir50_b0) (St.norm ir50_v0) FU T k = some r := by
 obtain ⟨p0, p1, p2, p3, p4, rfl, h⟩ := o_50_0_inv h0
 refine evLoopN_L (t := .nil) noO_ok trivial _ _ _ _ ?_
 rw [loop_50_0]
 exact h
theorem OK_50_50_0 {R : Type} (T : St) (k : Ex → St → Option R) (r : R) (h : O_50_50_0 T k = some r) : evLoopN (evCode sm_50 FU (evFn sm_50 fns FU 0) ir50_b0) (St.norm ir50_v0) FU T k = some r := ok_50_0 T k r h
theorem body_50_1 {R : Type} (K1 : Ex → St → Option R) (p0 : List Int) (p1 : Zt50_0) (p2 : List Int) : evJ (evCodeL sm_50 FU (ovr noO (evFn sm_50 fns FU 0)) .nil ir50_b1) (T_50_1 p0 p1 p2) K1 =
 bif wrap i64 (Int.tdiv (p1.1) 2) == 1 then gd (inB 1 (length (p1.2.2.1))) (gd (p_88 (getD (p1.2.2.1) 1 (Ty.dflt Zy50_1)) p2) (K1 Ex.ret (X_50_1_0 p0 p1 p2))) else gd (inB 1 (length (p1.2.2.1))) (gd (p_88 p2 (getD (p1.2.2.1) 1 (Ty.dflt Zy50_1))) (K1 Ex.ret (X_50_1_1 p0 p1 p2))) := by kernel_rfl
theorem Bgd_50_1 {R : Type} {c : Bool} {x : Option R} {y : Option E_50_1} {k0 : List Int → Zt50_0 → List Int → Option R} {k1 : List Int → Zt50_0 → List Int → Option R} (h : x = B_50_1 y k0 k1) : gd c x = B_50_1 (gd c y) k0 k1 := by cases c; rfl; exact h
theorem Bcond_50_1 {R : Type} {c : Bool} {x x' : Option R} {y y' : Option E_50_1} {k0 : List Int → Zt50_0 → List Int → Option R} {k1 : List Int → Zt50_0 → List Int → Option R} (h : x = B_50_1 y k0 k1) (h' : x' = B_50_1 y' k0 k1) : (bif c then x else x') = B_50_1 (bif c then y else y') k0 k1 := by cases c; exact h'; exact h
theorem loop_50_1 {R : Type} (k : Ex → St → Option R) (p0 : List Int) (p1 : Zt50_0) (p2 : List Int) : evJ (evCodeL sm_50 FU (ovr noO (evFn sm_50 fns FU 0)) .nil ir50_b1) (T_50_1 p0 p1 p2) k = B_50_1 (J_50_1 p0 p1 p2) (fun p0 p1 p2 => k Ex.ret (X_50_1_0 p0 p1 p2)) (fun p0 p1 p2 => k Ex.ret (X_50_1_1 p0 p1 p2)) := by
 rw [body_50_1, J_50_1]
 repeat' first | apply Bgd_50_1 | apply Bcond_50_1 | rfl
theorem ok_50_1 {R : Type} (T : St) (k : Ex → St → Option R) (r : R) (h0 : o_50_1 G_50_1 T k = some r) : evCode sm_50 FU (evFn sm_50 fns FU 0) ir50_b1 T k = some r := by
 obtain ⟨p0, p1, p2, rfl, h⟩ := o_50_1_inv h0
 refine bodyL_sound (t := .nil) noO_ok trivial (((show ∀ (b : St → (Ex → St → Option R) → Option R) (T : St) (k : Ex → St → Option R), b T k = evJ b T k from fun _ _ _ => rfl) _ _ _).trans ((loop_50_1 k p0 p1 p2).trans h))
theorem OK_50_50_1 {R : Type} (T : St) (k : Ex → St → Option R) (r : R) (h : O_50_50_1 T k = some r) : evCode sm_50 FU (evFn sm_50 fns FU 0) ir50_b1 T k = some r := ok_50_1 T k r h
noncomputable def F_50 (a0 a1 : (List Int)) (a2 : (Int × ((List (List Int)) × ((List (List Int)) × Unit)))) : Option (Bool × Unit) :=
 gd (p_84 a2) (bif !(v_84 a2).1 then some (false, PUnit.unit) else gd (p_85 a1) (B_50_0 (L_50_0 4611686018427387904 ((v_85 a1).1) 0 a0 a2 []) fun y15 y16 y17 => gd (p_87 y17) (bif Int.tmod (y16.1) (2 :Int) == (1 :Int) then gd (inB 0 (length (y16.2.2.1))) (gd (p_88 (getD (y16.2.2.1) 0 (Ty.dflt (Ty.arr 32 (Ty.int u8)))) ((v_87 y17).1)) (B_50_1 (J_50_1 y15 y16 ((v_88 (getD (y16.2.2.1) 0 (Ty.dflt (Ty.arr 32 (Ty.int u8)))) ((v_87 y17).1)).1)) (fun y18 y19 y20 => some (Ty.beq (Ty.arr 32 (Ty.int u8)) ((v_88 (getD (y19.2.2.1) 1 (Ty.dflt (Ty.arr 32 (Ty.int u8)))) y20).1) y18, PUnit.unit)) fun y21 y22 y23 => some (Ty.beq (Ty.arr 32 (Ty.int u8)) ((v_88 y23 (getD (y22.2.2.1) 1 (Ty.dflt (Ty.arr 32 (Ty.int u8))))).1) y21, PUnit.unit))) else gd (inB 0 (length (y16.2.2.1))) (gd (p_88 ((v_87 y17).1) (getD (y16.2.2.1) 0 (Ty.dflt (Ty.arr 32 (Ty.int u8))))) (B_50_1 (J_50_1 y15 y16 ((v_88 ((v_87 y17).1) (getD (y16.2.2.1) 0 (Ty.dflt (Ty.arr 32 (Ty.int u8))))).1)) (fun y24 y25 y26 => some (Ty.beq (Ty.arr 32 (Ty.int u8)) ((v_88 (getD (y25.2.2.1) 1 (Ty.dflt (Ty.arr 32 (Ty.int u8)))) y26).1) y24, PUnit.unit)) fun y27 y28 y29 => some (Ty.beq (Ty.arr 32 (Ty.int u8)) ((v_88 y29 (getD (y28.2.2.1) 1 (Ty.dflt (Ty.arr 32 (Ty.int u8))))).1) y27, PUnit.unit))))))
theorem fn_50 (a0 a1 : (List Int)) (a2 : (Int × ((List (List Int)) × ((List (List Int)) × Unit)))) : evFnL sm_50 FU (ovr noO (evFn sm_50 fns FU 0)) (ir50_t O_50_50_0 O_50_50_1) ir50 (ofH [(.arr 32 (.int .u8)), (.arr 32 (.int .u8)), Zy50_3] (a0, a1, a2, ())) [] (pureK [.bool]) = F_50 a0 a1 a2 := by kernel_rfl
noncomputable def Sp.p_50 (a0 a1 : (List Int)) (a2 : (Int × ((List (List Int)) × ((List (List Int)) × Unit)))) : Bool := (F_50 a0 a1 a2).isSome
noncomputable def Sp.v_50 (a0 a1 : (List Int)) (a2 : (Int × ((List (List Int)) × ((List (List Int)) × Unit)))) : Bool × Unit := (F_50 a0 a1 a2).getD (dfH [.bool])
noncomputable def s_50 : Summ := shN [(.arr 32 (.int .u8)), (.arr 32 (.int .u8)), Zy50_3] [.bool] (fun x => p_50 x.1 x.2.1 x.2.2.1) (fun x => v_50 x.1 x.2.1 x.2.2.1)
theorem pv_50 (a0 a1 : (List Int)) (a2 : (Int × ((List (List Int)) × ((List (List Int)) × Unit)))) {y : Bool × Unit} (h : F_50 a0 a1 a2 = some y) : p_50 a0 a1 a2 = true ∧ v_50 a0 a1 a2 = y := ⟨by rw [p_50, h]; rfl, by rw [v_50, h]; rfl⟩
theorem run_50 (x : HDen [(.arr 32 (.int .u8)), (.arr 32 (.int .u8)), Zy50_3]) (y : HDen [.bool]) (h : F_50 x.1 x.2.1 x.2.2.1 = some y) : evFn sm_50 fns FU 1 50 (ofH [(.arr 32 (.int .u8)), (.arr 32 (.int .u8)), Zy50_3] x) [] (pureK [.bool]) = some y :=
 evFnL_sound (fn := ir50) (t := (ir50_t O_50_50_0 O_50_50_1)) (o := noO) rfl noO_ok (ir50_tok (fun T k r => OK_50_50_0 T k r) (fun T k r => OK_50_50_1 T k r)) ((fn_50 _ _ _).trans h)
end
noncomputable section
noncomputable def sm_16 : Nat → Option Summ := fun f => bif Nat.beq f 26 then some s_26 else bif Nat.beq f 48 then some s_48 else bif Nat.beq f 49 then some s_49 else bif Nat.beq f 50 then some s_50 else none
noncomputable def F_16 (a0 : (((List Int) × ((List Int) × (Int × Unit))) × ((List Int) × Unit))) (a1 : Int) : Option (Bool × Unit) :=
 gd (p_26 a0 a1) (bif !(v_26 a0 a1).2.1 then some (false, PUnit.unit) else gd (p_48 a0 a1) (gd (sl3 564 (wrap i64 (564 + (v_26 a0 a1).1.2.1)) (↑(length ((v_48 a0 a1).1)) : Int)) (gd (p_49 ((v_26 a0 a1).1.1) (take (Int.toNat (wrap i64 (564 + (v_26 a0 a1).1.2.1)) - 564) (drop 564 ((v_48 a0 a1).1)))) (bif Ty.beq (Ty.arr 32 (Ty.int u8)) ((v_49 ((v_26 a0 a1).1.1) (take (Int.toNat (wrap i64 (564 + (v_26 a0 a1).1.2.1)) - 564) (drop 564 ((v_48 a0 a1).1)))).1) ((v_26 a0 a1).1.2.2.1) then gd (p_50 (a0.2.1) ((v_26 a0 a1).1.2.2.1) ((v_26 a0 a1).1.2.2.2.1)) (some ((v_50 (a0.2.1) ((v_26 a0 a1).1.2.2.1) ((v_26 a0 a1).1.2.2.2.1)).1, PUnit.unit)) else some (false, PUnit.unit)))))
theorem fn_16 (a0 : (((List Int) × ((List Int) × (Int × Unit))) × ((List Int) × Unit))) (a1 : Int) : evFnL sm_16 FU (ovr noO (evFn sm_16 fns FU 0)) .nil ir16 (ofH [(.pair (.pair (.slice (.int .u32)) (.pair (.slice (.int .i64)) (.pair (.int .i64) .unit))) (.pair (.arr 32 (.int .u8)) .unit)), (.int .i64)] (a0, a1, ())) [] (pureK [.bool]) = F_16 a0 a1 := by kernel_rfl
noncomputable def Sp.p_16 (a0 : (((List Int) × ((List Int) × (Int × Unit))) × ((List Int) × Unit))) (a1 : Int) : Bool := (F_16 a0 a1).isSome
noncomputable def Sp.v_16 (a0 : (((List Int) × ((List Int) × (Int × Unit))) × ((List Int) × Unit))) (a1 : Int) : Bool × Unit := (F_16 a0 a1).getD (dfH [.bool])
noncomputable def s_16 : Summ := shN [(.pair (.pair (.slice (.int .u32)) (.pair (.slice (.int .i64)) (.pair (.int .i64) .unit))) (.pair (.arr 32 (.int .u8)) .unit)), (.int .i64)] [.bool] (fun x => p_16 x.1 x.2.1) (fun x => v_16 x.1 x.2.1)
theorem run_16 (x : HDen [(.pair (.pair (.slice (.int .u32)) (.pair (.slice (.int .i64)) (.pair (.int .i64) .unit))) (.pair (.arr 32 (.int .u8)) .unit)), (.int .i64)]) (y : HDen [.bool]) (h : F_16 x.1 x.2.1 = some y) : evFn sm_16 fns FU 1 16 (ofH [(.pair (.pair (.slice (.int .u32)) (.pair (.slice (.int .i64)) (.pair (.int .i64) .unit))) (.pair (.arr 32 (.int .u8)) .unit)), (.int .i64)] x) [] (pureK [.bool]) = some y :=
 evFnL_sound (fn := ir16) (t := .nil) (o := noO) rfl noO_ok trivial ((fn_16 _ _).trans h)
end
noncomputable section
noncomputable def sm_28 : Nat → Option Summ := fun f => bif Nat.beq f 16 then some s_16 else bif Nat.beq f 25 then some s_25 else bif Nat.beq f 48 then some s_48 else bif Nat.beq f 57 then some s_57 else none
noncomputable def T_28_0 (p0 : List Int) (p1 : Int) (p2 : List Int) : St := St.mk (jl 6 ++ ([CV.pure (Ty.slice (Ty.int u32)) p0, CV.whole 0, CV.int i64 p1] ++ (jl 30))) [Blk.vec 42 (Ty.int u32) p2] 0
noncomputable def X_28_0_0 (p2 : List Int) : St := St.mk (jl 7 ++ ([CV.whole 0] ++ (jl 31))) [Blk.vec 42 (Ty.int u32) p2] 0
inductive Sp.E_28_0 where
 | e0 (p2 : List Int)
noncomputable def Sp.B_28_0 {R : Type} (r : Option E_28_0) (k0 : List Int → Option R) : Option R := match r with
 | none => none
 | some (.e0 p2) => k0 p2
noncomputable def Sp.L_28_0 : Nat → List Int → Int → List Int → Option E_28_0
 | 0, _, _, _ => none
 | m + 1, p0, p1, p2 => gd (inB 2 (length p0)) (bif decide (p1 < wrap i64 (getD p0 2 0)) then gd (inB (wrap i64 (564 + p1)) (length p0)) (gd (room (length p2 + 1) 4) (L_28_0 m p0 (wrap i64 (p1 + 1)) (p2 ++ [getD p0 (Int.toNat (wrap i64 (564 + p1))) 0]))) else some (E_28_0.e0 p2))
noncomputable def G_28_0 {R : Type} (p0 : List Int) (p1 : Int) (p2 : List Int) (k : Ex → St → Option R) : Option R := B_28_0 (L_28_0 FU p0 p1 p2) (fun p2 => k (Ex.exit 0) (X_28_0_0 p2))
noncomputable def o_28_0 {R : Type} (G : List Int → Int → List Int → (Ex → St → Option R) → Option R) : St → (Ex → St → Option R) → Option R := fun T k => match T.sl.getD 6 .junk, T.sl.getD 7 .junk, T.sl.getD 8 .junk, T.hp with
 | CV.pure (Ty.slice (Ty.int u32)) p0, CV.whole 0, CV.int i64 p1, ((Blk.vec 42 (Ty.int u32) p2) :: []) => gd (shapeOK T 39 [6, 7, 8] 0) (G p0 p1 p2 k)
 | _, _, _, _ => none
theorem o_28_0_inv {R : Type} {G : List Int → Int → List Int → (Ex → St → Option R) → Option R} {T : St} {k : Ex → St → Option R} {r : R} (h : o_28_0 G T k = some r) : ∃ p0 p1 p2, T = T_28_0 p0 p1 p2 ∧ G p0 p1 p2 k = some r := by
 unfold o_28_0 at h
 split at h
 · obtain ⟨hs, h'⟩ := gd_some h
   refine ⟨_, _, _, (st_of (asg := [(6, _), (7, _), (8, _)]) hs ⟨by assumption, by assumption, by assumption, trivial⟩ (by assumption)).trans ?_, h'⟩
   kernel_rfl
 · cases h
noncomputable def O_28_28_0 {R : Type} : St → (Ex → St → Option R) → Option R := fun T k => o_28_0 G_28_0 T k
theorem body_28_0 {R : Type} (K0 : St → Option R) (K1 : Ex → St → Option R) (p0 : List Int) (p1 : Int) (p2 : List Int) : evLB (evCodeL sm_28 FU (ovr noO (evFn sm_28 fns FU 0)) .nil ir28_b0) (St.norm ir28_v0) (T_28_0 p0 p1 p2) K0 K1 =
 gd (inB 2 (length p0)) (bif decide (p1 < wrap i64 (getD p0 2 0)) then gd (inB (wrap i64 (564 + p1)) (length p0)) (gd (room (length p2 + 1) 4) (K0 (T_28_0 p0 (wrap i64 (p1 + 1)) (p2 ++ [getD p0 (Int.toNat (wrap i64 (564 + p1))) 0])))) else K1 (Ex.exit 0) (X_28_0_0 p2)) := by kernel_rfl
theorem Bgd_28_0 {R : Type} {c : Bool} {x : Option R} {y : Option E_28_0} {k0 : List Int → Option R} (h : x = B_28_0 y k0) : gd c x = B_28_0 (gd c y) k0 := by cases c; rfl; exact h
theorem Bcond_28_0 {R : Type} {c : Bool} {x x' : Option R} {y y' : Option E_28_0} {k0 : List Int → Option R} (h : x = B_28_0 y k0) (h' : x' = B_28_0 y' k0) : (bif c then x else x') = B_28_0 (bif c then y else y') k0 := by cases c; exact h'; exact h
theorem loop_28_0 {R : Type} (k : Ex → St → Option R) : ∀ (m : Nat) (p0 : List Int) (p1 : Int) (p2 : List Int), evLoopN (evCodeL sm_28 FU (ovr noO (evFn sm_28 fns FU 0)) .nil ir28_b0) (St.norm ir28_v0) m (T_28_0 p0 p1 p2) k = B_28_0 (L_28_0 m p0 p1 p2) (fun p2 => k (Ex.exit (0 : Nat)) (X_28_0_0 p2))
 | 0, _, _, _ => rfl
 | m + 1, p0, p1, p2 => by
   rw [evLoopN_succ, body_28_0, L_28_0]
   repeat' first | apply Bgd_28_0 | apply Bcond_28_0 | exact loop_28_0 k m _ _ _ | rfl
theorem ok_28_0 {R : Type} (T : St) (k : Ex → St → Option R) (r : R) (h0 : o_28_0 G_28_0 T k = some r) : evLoopN (evCode sm_28 FU (evFn sm_28 fns FU 0) ir28_b0) (St.norm ir28_v0) FU T k = some r := by
 obtain ⟨p0, p1, p2, rfl, h⟩ := o_28_0_inv h0
 refine evLoopN_L (t := .nil) noO_ok trivial _ _ _ _ ?_
 rw [loop_28_0]
 exact h
theorem OK_28_28_0 {R : Type} (T : St) (k : Ex → St → Option R) (r : R) (h : O_28_28_0 T k = some r) : evLoopN (evCode sm_28 FU (evFn sm_28 fns FU 0) ir28_b0) (St.norm ir28_v0) FU T k = some r := ok_28_0 T k r h
noncomputable def F_28 (a0 : (((List Int) × ((List Int) × (Int × Unit))) × ((List Int) × Unit))) (a1 : Int) : Option ((List Int) × Int × Unit) :=
 gd (p_25 a0) (bif !(v_25 a0).1 then some ([], 1, PUnit.unit) else gd (p_57 a1) (bif !(v_57 a1).1 then some ([], 2, PUnit.unit) else gd (p_16 a0 a1) (bif !(v_16 a0 a1).1 then some ([], 14, PUnit.unit) else gd (p_48 a0 a1) (B_28_0 (L_28_0 4611686018427387904 ((v_48 a0 a1).1) 0 []) fun y1 => some (y1, 0, PUnit.unit)))))
theorem fn_28 (a0 : (((List Int) × ((List Int) × (Int × Unit))) × ((List Int) × Unit))) (a1 : Int) : evFnL sm_28 FU (ovr noO (evFn sm_28 fns FU 0)) (ir28_t O_28_28_0) ir28 (ofH [(.pair (.pair (.slice (.int .u32)) (.pair (.slice (.int .i64)) (.pair (.int .i64) .unit))) (.pair (.arr 32 (.int .u8)) .unit)), (.int .i64)] (a0, a1, ())) [] (pureK [(.slice (.int .u32)), (.int .i64)]) = F_28 a0 a1 := by kernel_rfl
noncomputable def Sp.p_28 (a0 : (((List Int) × ((List Int) × (Int × Unit))) × ((List Int) × Unit))) (a1 : Int) : Bool := (F_28 a0 a1).isSome
noncomputable def Sp.v_28 (a0 : (((List Int) × ((List Int) × (Int × Unit))) × ((List Int) × Unit))) (a1 : Int) : (List Int) × Int × Unit := (F_28 a0 a1).getD (dfH [(.slice (.int .u32)), (.int .i64)])
noncomputable def s_28 : Summ := shS [(.pair (.pair (.slice (.int .u32)) (.pair (.slice (.int .i64)) (.pair (.int .i64) .unit))) (.pair (.arr 32 (.int .u8)) .unit)), (.int .i64)] [(.slice (.int .u32)), (.int .i64)] (fun x => p_28 x.1 x.2.1) (fun x => v_28 x.1 x.2.1)
theorem pv_28 (a0 : (((List Int) × ((List Int) × (Int × Unit))) × ((List Int) × Unit))) (a1 : Int) {y : (List Int) × Int × Unit} (h : F_28 a0 a1 = some y) : p_28 a0 a1 = true ∧ v_28 a0 a1 = y := ⟨by rw [p_28, h]; rfl, by rw [v_28, h]; rfl⟩
theorem run_28 (x : HDen [(.pair (.pair (.slice (.int .u32)) (.pair (.slice (.int .i64)) (.pair (.int .i64) .unit))) (.pair (.arr 32 (.int .u8)) .unit)), (.int .i64)]) (y : HDen [(.slice (.int .u32)), (.int .i64)]) (h : F_28 x.1 x.2.1 = some y) : evFn sm_28 fns FU 1 28 (ofH [(.pair (.pair (.slice (.int .u32)) (.pair (.slice (.int .i64)) (.pair (.int .i64) .unit))) (.pair (.arr 32 (.int .u8)) .unit)), (.int .i64)] x) [] (pureK [(.slice (.int .u32)), (.int .i64)]) = some y :=
 evFnL_sound (fn := ir28) (t := (ir28_t O_28_28_0)) (o := noO) rfl noO_ok (ir28_tok (fun T k r => OK_28_28_0 T k r)) ((fn_28 _ _).trans h)
end
noncomputable section
abbrev Zt62_0 : Type := Int × List (List Int) × List (List Int) × Unit
abbrev Zy62_1 : Ty := (Ty.pair (Ty.int i64) (Ty.pair (Ty.slice (Ty.arr (32 : Nat) (Ty.int u8))) (Ty.pair (Ty.slice (Ty.arr (32 : Nat) (Ty.int u8))) Ty.unit)))
abbrev Zy62_2 : Ty := (.pair (.int .i64) (.pair (.slice (.arr 32 (.int .u8))) (.pair (.slice (.arr 32 (.int .u8))) .unit)))
abbrev Zy62_3 : Ty := (Ty.arr (32 : Nat) (Ty.int u8))
noncomputable def sm_62 : Nat → Option Summ := fun f => none
noncomputable def T_62_0 (p0 : Int) (p1 p2 : Zt62_0) : St := St.mk ([jk, jk, CV.ptr 0 [], CV.ptr 1 [], jk, CV.int i64 p0] ++ (jl 60)) [Blk.mem (CV.pure Zy62_1 p1), Blk.mem (CV.pure Zy62_1 p2)] 0
noncomputable def X_62_0_0 : St := St.mk ([jk, jk, jk, jk, CV.bool false] ++ (jl 61)) [] 0
noncomputable def X_62_0_1 (p1 p2 : Zt62_0) : St := St.mk ([jk, jk, CV.ptr 0 [], CV.ptr 1 []] ++ (jl 62)) [Blk.mem (CV.pure Zy62_1 p1), Blk.mem (CV.pure Zy62_1 p2)] 0
inductive Sp.E_62_0 where
 | e0
 | e1 (p1 p2 : Zt62_0)
noncomputable def Sp.B_62_0 {R : Type} (r : Option E_62_0) (k0 : Option R) (k1 : Zt62_0 → Zt62_0 → Option R) : Option R := match r with
 | none => none
 | some (.e0) => k0
 | some (.e1 p1 p2) => k1 p1 p2
noncomputable def Sp.L_62_0 : Nat → Int → (Int × List (List Int) × List (List Int) × Unit) → (Int × List (List Int) × List (List Int) × Unit) → Option E_62_0
 | 0, _, _, _ => none
 | m + 1, p0, p1, p2 => bif decide (p0 < (↑(length (p1.2.1)) : Int)) then gd (inB p0 (length (p1.2.1))) (gd (inB p0 (length (p2.2.1))) (bif !Ty.beq (Ty.arr 32 (Ty.int u8)) (getD (p1.2.1) (Int.toNat p0) (Ty.dflt (Ty.arr 32 (Ty.int u8)))) (getD (p2.2.1) (Int.toNat p0) (Ty.dflt (Ty.arr 32 (Ty.int u8)))) then some (E_62_0.e0) else L_62_0 m (wrap i64 (p0 + 1)) p1 p2)) else some (E_62_0.e1 p1 p2)
noncomputable def G_62_0 {R : Type} (p0 : Int) (p1 p2 : Zt62_0) (k : Ex → St → Option R) : Option R := B_62_0 (L_62_0 FU p0 p1 p2) (k Ex.ret (X_62_0_0)) (fun p1 p2 => k (Ex.exit 0) (X_62_0_1 p1 p2))
noncomputable def o_62_0 {R : Type} (G : Int → Zt62_0 → Zt62_0 → (Ex → St → Option R) → Option R) : St → (Ex → St → Option R) → Option R := fun T k => match T.sl.getD 2 .junk, T.sl.getD 3 .junk, T.sl.getD 5 .junk, T.hp with
 | CV.ptr 0 [], CV.ptr 1 [], CV.int i64 p0, ((Blk.mem (CV.pure (Ty.pair (Ty.int i64) (Ty.pair (Ty.slice (Ty.arr 32 (Ty.int u8))) (Ty.pair (Ty.slice (Ty.arr 32 (Ty.int u8))) Ty.unit))) p1)) :: (Blk.mem (CV.pure (Ty.pair (Ty.int i64) (Ty.pair (Ty.slice (Ty.arr 32 (Ty.int u8))) (Ty.pair (Ty.slice (Ty.arr 32 (Ty.int u8))) Ty.unit))) p2)) :: []) => gd (shapeOK T 66 [2, 3, 5] 0) (G p0 p1 p2 k)
 | _, _, _, _ => none
theorem o_62_0_inv {R : Type} {G : Int → Zt62_0 → Zt62_0 → (Ex → St → Option R) → Option R} {T : St} {k : Ex → St → Option R} {r : R} (h : o_62_0 G T k = some r) : ∃ p0 p1 p2, T = T_62_0 p0 p1 p2 ∧ G p0 p1 p2 k = some r := by
 unfold o_62_0 at h
 split at h
 · obtain ⟨hs, h'⟩ := gd_some h
   refine ⟨_, _, _, (st_of (asg := [(2, _), (3, _), (5, _)]) hs ⟨by assumption, by assumption, by assumption, trivial⟩ (by assumption)).trans ?_, h'⟩
   kernel_rfl
 · cases h
noncomputable def T_62_1 (p0 : Int) (p1 p2 : Zt62_0) : St := St.mk ([jk, jk, CV.ptr 0 [], CV.ptr 1 [], jk, jk, CV.int i64 p0] ++ (jl 59)) [Blk.mem (CV.pure Zy62_1 p1), Blk.mem (CV.pure Zy62_1 p2)] 0
noncomputable def X_62_1_0 : St := St.mk ([jk, jk, jk, jk, CV.bool false] ++ (jl 61)) [] 0
noncomputable def X_62_1_1 : St := St.mk (jl 66) [] 0
inductive Sp.E_62_1 where
 | e0
 | e1
noncomputable def Sp.B_62_1 {R : Type} (r : Option E_62_1) (k0 k1 : Option R) : Option R := match r with
 | none => none
 | some (.e0) => k0
 | some (.e1) => k1
noncomputable def Sp.L_62_1 : Nat → Int → (Int × List (List Int) × List (List Int) × Unit) → (Int × List (List Int) × List (List Int) × Unit) → Option E_62_1
 | 0, _, _, _ => none
 | m + 1, p0, p1, p2 => bif decide (p0 < (↑(length (p1.2.2.1)) : Int)) then gd (inB p0 (length (p1.2.2.1))) (gd (inB p0 (length (p2.2.2.1))) (bif !Ty.beq (Ty.arr 32 (Ty.int u8)) (getD (p1.2.2.1) (Int.toNat p0) (Ty.dflt (Ty.arr 32 (Ty.int u8)))) (getD (p2.2.2.1) (Int.toNat p0) (Ty.dflt (Ty.arr 32 (Ty.int u8)))) then some (E_62_1.e0) else L_62_1 m (wrap i64 (p0 + 1)) p1 p2)) else some (E_62_1.e1)
noncomputable def G_62_1 {R : Type} (p0 : Int) (p1 p2 : Zt62_0) (k : Ex → St → Option R) : Option R := B_62_1 (L_62_1 FU p0 p1 p2) (k Ex.ret (X_62_1_0)) (k (Ex.exit 2) (X_62_1_1))
noncomputable def o_62_1 {R : Type} (G : Int → Zt62_0 → Zt62_0 → (Ex → St → Option R) → Option R) : St → (Ex → St → Option R) → Option R := fun T k => match T.sl.getD 2 .junk, T.sl.getD 3 .junk, T.sl.getD 6 .junk, T.hp with
 | CV.ptr 0 [], CV.ptr 1 [], CV.int i64 p0, ((Blk.mem (CV.pure (Ty.pair (Ty.int i64) (Ty.pair (Ty.slice (Ty.arr 32 (Ty.int u8))) (Ty.pair (Ty.slice (Ty.arr 32 (Ty.int u8))) Ty.unit))) p1)) :: (Blk.mem (CV.pure (Ty.pair (Ty.int i64) (Ty.pair (Ty.slice (Ty.arr 32 (Ty.int u8))) (Ty.pair (Ty.slice (Ty.arr 32 (Ty.int u8))) Ty.unit))) p2)) :: []) => gd (shapeOK T 66 [2, 3, 6] 0) (G p0 p1 p2 k)
 | _, _, _, _ => none
theorem o_62_1_inv {R : Type} {G : Int → Zt62_0 → Zt62_0 → (Ex → St → Option R) → Option R} {T : St} {k : Ex → St → Option R} {r : R} (h : o_62_1 G T k = some r) : ∃ p0 p1 p2, T = T_62_1 p0 p1 p2 ∧ G p0 p1 p2 k = some r := by
 unfold o_62_1 at h
 split at h
 · obtain ⟨hs, h'⟩ := gd_some h
   refine ⟨_, _, _, (st_of (asg := [(2, _), (3, _), (6, _)]) hs ⟨by assumption, by assumption, by assumption, trivial⟩ (by assumption)).trans ?_, h'⟩
   kernel_rfl
 · cases h
noncomputable def O_62_62_0 {R : Type} : St → (Ex → St → Option R) → Option R := fun T k => o_62_0 G_62_0 T k
noncomputable def O_62_62_1 {R : Type} : St → (Ex → St → Option R) → Option R := fun T k => o_62_1 G_62_1 T k
theorem body_62_0 {R : Type} (K0 : St → Option R) (K1 : Ex → St → Option R) (p0 : Int) (p1 p2 : Zt62_0) : evLB (evCodeL sm_62 FU (ovr noO (evFn sm_62 fns FU 0)) .nil ir62_b0) (St.norm ir62_v0) (T_62_0 p0 p1 p2) K0 K1 =
 bif decide (p0 < (↑(length (p1.2.1)) : Int)) then gd (inB p0 (length (p1.2.1))) (gd (inB p0 (length (p2.2.1))) (bif !Ty.beq Zy62_3 (getD (p1.2.1) (Int.toNat p0) (Ty.dflt Zy62_3)) (getD (p2.2.1) (Int.toNat p0) (Ty.dflt Zy62_3)) then K1 Ex.ret X_62_0_0 else K0 (T_62_0 (wrap i64 (p0 + 1)) p1 p2))) else K1 (Ex.exit 0) (X_62_0_1 p1 p2) := by kernel_rfl
theorem Bgd_62_0 {R : Type} {c : Bool} {x : Option R} {y : Option E_62_0} {k0 : Option R} {k1 : Zt62_0 → Zt62_0 → Option R} (h : x = B_62_0 y k0 k1) : gd c x = B_62_0 (gd c y) k0 k1 := by cases c; rfl; exact h
theorem Bcond_62_0 {R : Type} {c : Bool} {x x' : Option R} {y y' : Option E_62_0} {k0 : Option R} {k1 : Zt62_0 → Zt62_0 → Option R} (h : x = B_62_0 y k0 k1) (h' : x' = B_62_0 y' k0 k1) : (bif c then x else x') = B_62_0 (bif c then y else y') k0 k1 := by cases c; exact h'; exact h
theorem loop_62_0 {R : Type} (k : Ex → St → Option R) : ∀ (m : Nat) (p0 : Int) (p1 : Zt62_0) (p2 : Zt62_0), evLoopN (evCodeL sm_62 FU (ovr noO (evFn sm_62 fns FU 0)) .nil ir62_b0) (St.norm ir62_v0) m (T_62_0 p0 p1 p2) k = B_62_0 (L_62_0 m p0 p1 p2) (k Ex.ret (X_62_0_0)) (fun p1 p2 => k (Ex.exit (0 : Nat)) (X_62_0_1 p1 p2))
 | 0, _, _, _ => rfl
 | m + 1, p0, p1, p2 => by
   rw [evLoopN_succ, body_62_0, L_62_0]
   repeat' first | apply Bgd_62_0 | apply Bcond_62_0 | exact loop_62_0 k m _ _ _ | rfl
theorem ok_62_0 {R : Type} (T : St) (k : Ex → St → Option R) (r : R) (h0 : o_62_0 G_62_0 T k = some r) : evLoopN (evCode sm_62 FU (evFn sm_62 fns FU 0) ir62_b0) (St.norm ir62_v0) FU T k = some r := by
 obtain ⟨p0, p1, p2, rfl, h⟩ := o_62_0_inv h0
 refine evLoopN_L (t := .nil) noO_ok trivial _ _ _ _ ?_
 rw [loop_62_0]
 exact h
theorem OK_62_62_0 {R : Type} (T : St) (k : Ex → St → Option R) (r : R) (h : O_62_62_0 T k = some r) : evLoopN (evCode sm_62 FU (evFn sm_62 fns FU 0) ir62_b0) (St.norm ir62_v0) FU T k = some r := ok_62_0 T k r h
theorem body_62_1 {R : Type} (K0 : St → Option R) (K1 : Ex → St → Option R) (p0 : Int) (p1 p2 : Zt62_0) : evLB (evCodeL sm_62 FU (ovr noO (evFn sm_62 fns FU 0)) .nil ir62_b1) (St.norm ir62_v1) (T_62_1 p0 p1 p2) K0 K1 =
 bif decide (p0 < (↑(length (p1.2.2.1)) : Int)) then gd (inB p0 (length (p1.2.2.1))) (gd (inB p0 (length (p2.2.2.1))) (bif !Ty.beq Zy62_3 (getD (p1.2.2.1) (Int.toNat p0) (Ty.dflt Zy62_3)) (getD (p2.2.2.1) (Int.toNat p0) (Ty.dflt Zy62_3)) then K1 Ex.ret X_62_1_0 else K0 (T_62_1 (wrap i64 (p0 + 1)) p1 p2))) else K1 (Ex.exit 2) X_62_1_1 := by kernel_rfl
theorem Bgd_62_1 {R : Type} {c : Bool} {x : Option R} {y : Option E_62_1} {k0 : Option R} {k1 : Option R} (h : x = B_62_1 y k0 k1) : gd c x = B_62_1 (gd c y) k0 k1 := by cases c; rfl; exact h
theorem Bcond_62_1 {R : Type} {c : Bool} {x x' : Option R} {y y' : Option E_62_1} {k0 : Option R} {k1 : Option R} (h : x = B_62_1 y k0 k1) (h' : x' = B_62_1 y' k0 k1) : (bif c then x else x') = B_62_1 (bif c then y else y') k0 k1 := by cases c; exact h'; exact h
theorem loop_62_1 {R : Type} (k : Ex → St → Option R) : ∀ (m : Nat) (p0 : Int) (p1 : Zt62_0) (p2 : Zt62_0), evLoopN (evCodeL sm_62 FU (ovr noO (evFn sm_62 fns FU 0)) .nil ir62_b1) (St.norm ir62_v1) m (T_62_1 p0 p1 p2) k = B_62_1 (L_62_1 m p0 p1 p2) (k Ex.ret (X_62_1_0)) (k (Ex.exit (2 : Nat)) (X_62_1_1))
 | 0, _, _, _ => rfl
 | m + 1, p0, p1, p2 => by
   rw [evLoopN_succ, body_62_1, L_62_1]
   repeat' first | apply Bgd_62_1 | apply Bcond_62_1 | exact loop_62_1 k m _ _ _ | rfl
theorem ok_62_1 {R : Type} (T : St) (k : Ex → St → Option R) (r : R) (h0 : o_62_1 G_62_1 T k = some r) : evLoopN (evCode sm_62 FU (evFn sm_62 fns FU 0) ir62_b1) (St.norm ir62_v1) FU T k = some r := by
 obtain ⟨p0, p1, p2, rfl, h⟩ := o_62_1_inv h0
 refine evLoopN_L (t := .nil) noO_ok trivial _ _ _ _ ?_
 rw [loop_62_1]
 exact h
theorem OK_62_62_1 {R : Type} (T : St) (k : Ex → St → Option R) (r : R) (h : O_62_62_1 T k = some r) : evLoopN (evCode sm_62 FU (evFn sm_62 fns FU 0) ir62_b1) (St.norm ir62_v1) FU T k = some r := ok_62_1 T k r h
noncomputable def F_62 (a0 : (Int × ((List (List Int)) × ((List (List Int)) × Unit)))) (a1 : (Int × ((List (List Int)) × ((List (List Int)) × Unit)))) : Option (Bool × Unit) :=
 bif a0.1 != a1.1 then some (false, PUnit.unit) else bif (↑(length (a0.2.1)) : Int) != (↑(length (a1.2.1)) : Int) then some (false, PUnit.unit) else bif (↑(length (a0.2.2.1)) : Int) != (↑(length (a1.2.2.1)) : Int) then some (false, PUnit.unit) else B_62_0 (L_62_0 4611686018427387904 0 a0 a1) (some (false, PUnit.unit)) fun y2 y3 => B_62_1 (L_62_1 4611686018427387904 0 y2 y3) (some (false, PUnit.unit)) (some (true, PUnit.unit))
theorem fn_62 (a0 : (Int × ((List (List Int)) × ((List (List Int)) × Unit)))) (a1 : (Int × ((List (List Int)) × ((List (List Int)) × Unit)))) : evFnL sm_62 FU (ovr noO (evFn sm_62 fns FU 0)) (ir62_t O_62_62_0 O_62_62_1) ir62 (ofH [Zy62_2, Zy62_2] (a0, a1, ())) [] (pureK [.bool]) = F_62 a0 a1 := by kernel_rfl
noncomputable def Sp.p_62 (a0 : (Int × ((List (List Int)) × ((List (List Int)) × Unit)))) (a1 : (Int × ((List (List Int)) × ((List (List Int)) × Unit)))) : Bool := (F_62 a0 a1).isSome
noncomputable def Sp.v_62 (a0 : (Int × ((List (List Int)) × ((List (List Int)) × Unit)))) (a1 : (Int × ((List (List Int)) × ((List (List Int)) × Unit)))) : Bool × Unit := (F_62 a0 a1).getD (dfH [.bool])
noncomputable def s_62 : Summ := shN [Zy62_2, Zy62_2] [.bool] (fun x => p_62 x.1 x.2.1) (fun x => v_62 x.1 x.2.1)
theorem pv_62 (a0 : (Int × ((List (List Int)) × ((List (List Int)) × Unit)))) (a1 : (Int × ((List (List Int)) × ((List (List Int)) × Unit)))) {y : Bool × Unit} (h : F_62 a0 a1 = some y) : p_62 a0 a1 = true ∧ v_62 a0 a1 = y := ⟨by rw [p_62, h]; rfl, by rw [v_62, h]; rfl⟩
theorem run_62 (x : HDen [Zy62_2, Zy62_2]) (y : HDen [.bool]) (h : F_62 x.1 x.2.1 = some y) : evFn sm_62 fns FU 1 62 (ofH [Zy62_2, Zy62_2] x) [] (pureK [.bool]) = some y :=
 evFnL_sound (fn := ir62) (t := (ir62_t O_62_62_0 O_62_62_1)) (o := noO) rfl noO_ok (ir62_tok (fun T k r => OK_62_62_0 T k r) (fun T k r => OK_62_62_1 T k r)) ((fn_62 _ _).trans h)
end
noncomputable section
noncomputable def sm_29 : Nat → Option Summ := fun f => bif Nat.beq f 62 then some s_62 else none
noncomputable def F_29 (a0 : (Int × (Int × ((List Int) × ((Int × ((List (List Int)) × ((List (List Int)) × Unit))) × Unit))))) (a1 : (Int × (Int × ((List Int) × ((Int × ((List (List Int)) × ((List (List Int)) × Unit))) × Unit))))) : Option (Bool × Unit) :=
 bif a0.1 == a1.1 then bif a0.2.1 == a1.2.1 then bif Ty.beq (Ty.arr 32 (Ty.int u8)) (a0.2.2.1) (a1.2.2.1) then gd (p_62 (a0.2.2.2.1) (a1.2.2.2.1)) (some ((v_62 (a0.2.2.2.1) (a1.2.2.2.1)).1, PUnit.unit)) else some (false, PUnit.unit) else some (false, PUnit.unit) else some (false, PUnit.unit)
theorem fn_29 (a0 : (Int × (Int × ((List Int) × ((Int × ((List (List Int)) × ((List (List Int)) × Unit))) × Unit))))) (a1 : (Int × (Int × ((List Int) × ((Int × ((List (List Int)) × ((List (List Int)) × Unit))) × Unit))))) : evFnL sm_29 FU (ovr noO (evFn sm_29 fns FU 0)) .nil ir29 (ofH [(.pair (.int .i64) (.pair (.int .i64) (.pair (.arr 32 (.int .u8)) (.pair (.pair (.int .i64) (.pair (.slice (.arr 32 (.int .u8))) (.pair (.slice (.arr 32 (.int .u8))) .unit))) .unit)))), (.pair (.int .i64) (.pair (.int .i64) (.pair (.arr 32 (.int .u8)) (.pair (.pair (.int .i64) (.pair (.slice (.arr 32 (.int .u8))) (.pair (.slice (.arr 32 (.int .u8))) .unit))) .unit))))] (a0, a1, ())) [] (pureK [.bool]) = F_29 a0 a1 := by kernel_rfl
noncomputable def Sp.p_29 (a0 : (Int × (Int × ((List Int) × ((Int × ((List (List Int)) × ((List (List Int)) × Unit))) × Unit))))) (a1 : (Int × (Int × ((List Int) × ((Int × ((List (List Int)) × ((List (List Int)) × Unit))) × Unit))))) : Bool := (F_29 a0 a1).isSome
noncomputable def Sp.v_29 (a0 : (Int × (Int × ((List Int) × ((Int × ((List (List Int)) × ((List (List Int)) × Unit))) × Unit))))) (a1 : (Int × (Int × ((List Int) × ((Int × ((List (List Int)) × ((List (List Int)) × Unit))) × Unit))))) : Bool × Unit := (F_29 a0 a1).getD (dfH [.bool])
noncomputable def s_29 : Summ := shN [(.pair (.int .i64) (.pair (.int .i64) (.pair (.arr 32 (.int .u8)) (.pair (.pair (.int .i64) (.pair (.slice (.arr 32 (.int .u8))) (.pair (.slice (.arr 32 (.int .u8))) .unit))) .unit)))), (.pair (.int .i64) (.pair (.int .i64) (.pair (.arr 32 (.int .u8)) (.pair (.pair (.int .i64) (.pair (.slice (.arr 32 (.int .u8))) (.pair (.slice (.arr 32 (.int .u8))) .unit))) .unit))))] [.bool] (fun x => p_29 x.1 x.2.1) (fun x => v_29 x.1 x.2.1)
theorem pv_29 (a0 : (Int × (Int × ((List Int) × ((Int × ((List (List Int)) × ((List (List Int)) × Unit))) × Unit))))) (a1 : (Int × (Int × ((List Int) × ((Int × ((List (List Int)) × ((List (List Int)) × Unit))) × Unit))))) {y : Bool × Unit} (h : F_29 a0 a1 = some y) : p_29 a0 a1 = true ∧ v_29 a0 a1 = y := ⟨by rw [p_29, h]; rfl, by rw [v_29, h]; rfl⟩
theorem run_29 (x : HDen [(.pair (.int .i64) (.pair (.int .i64) (.pair (.arr 32 (.int .u8)) (.pair (.pair (.int .i64) (.pair (.slice (.arr 32 (.int .u8))) (.pair (.slice (.arr 32 (.int .u8))) .unit))) .unit)))), (.pair (.int .i64) (.pair (.int .i64) (.pair (.arr 32 (.int .u8)) (.pair (.pair (.int .i64) (.pair (.slice (.arr 32 (.int .u8))) (.pair (.slice (.arr 32 (.int .u8))) .unit))) .unit))))]) (y : HDen [.bool]) (h : F_29 x.1 x.2.1 = some y) : evFn sm_29 fns FU 1 29 (ofH [(.pair (.int .i64) (.pair (.int .i64) (.pair (.arr 32 (.int .u8)) (.pair (.pair (.int .i64) (.pair (.slice (.arr 32 (.int .u8))) (.pair (.slice (.arr 32 (.int .u8))) .unit))) .unit)))), (.pair (.int .i64) (.pair (.int .i64) (.pair (.arr 32 (.int .u8)) (.pair (.pair (.int .i64) (.pair (.slice (.arr 32 (.int .u8))) (.pair (.slice (.arr 32 (.int .u8))) .unit))) .unit))))] x) [] (pureK [.bool]) = some y :=
 evFnL_sound (fn := ir29) (t := .nil) (o := noO) rfl noO_ok trivial ((fn_29 _ _).trans h)
end
noncomputable section
noncomputable def sm_30 : Nat → Option Summ := fun f => none
noncomputable def T_30_0 (p0 p1 : List Int) (p2 p3 : Int) : St := St.mk ([CV.pure (Ty.slice (Ty.int u32)) p0, CV.pure (Ty.slice (Ty.int u32)) p1] ++ (jl 10 ++ ([CV.int i64 p2, CV.int i64 p3] ++ (jl 12)))) [] 0
noncomputable def X_30_0_0 : St := St.mk ([jk, jk, jk, jk, CV.bool false] ++ (jl 21)) [] 0
noncomputable def X_30_0_1 : St := St.mk (jl 26) [] 0
inductive Sp.E_30_0 where
 | e0
 | e1
noncomputable def Sp.B_30_0 {R : Type} (r : Option E_30_0) (k0 k1 : Option R) : Option R := match r with
 | none => none
 | some (.e0) => k0
 | some (.e1) => k1
noncomputable def Sp.L_30_0 : Nat → List Int → List Int → Int → Int → Option E_30_0
 | 0, _, _, _, _ => none
 | m + 1, p0, p1, p2, p3 => bif decide (p3 < p2) then gd (inB p3 (length p0)) (gd (inB p3 (length p1)) (bif getD p0 (Int.toNat p3) 0 != getD p1 (Int.toNat p3) 0 then some (E_30_0.e0) else L_30_0 m p0 p1 p2 (wrap i64 (p3 + 1)))) else some (E_30_0.e1)
noncomputable def G_30_0 {R : Type} (p0 p1 : List Int) (p2 p3 : Int) (k : Ex → St → Option R) : Option R := B_30_0 (L_30_0 FU p0 p1 p2 p3) (k Ex.ret (X_30_0_0)) (k (Ex.exit 0) (X_30_0_1))
noncomputable def o_30_0 {R : Type} (G : List Int → List Int → Int → Int → (Ex → St → Option R) → Option R) : St → (Ex → St → Option R) → Option R := fun T k => match T.sl.getD 0 .junk, T.sl.getD 1 .junk, T.sl.getD 12 .junk, T.sl.getD 13 .junk, T.hp with
 | CV.pure (Ty.slice (Ty.int u32)) p0, CV.pure (Ty.slice (Ty.int u32)) p1, CV.int i64 p2, CV.int i64 p3, [] => gd (shapeOK T 26 [0, 1, 12, 13] 0) (G p0 p1 p2 p3 k)
 | _, _, _, _, _ => none
theorem o_30_0_inv {R : Type} {G : List Int → List Int → Int → Int → (Ex → St → Option R) → Option R} {T : St} {k : Ex → St → Option R} {r : R} (h : o_30_0 G T k = some r) : ∃ p0 p1 p2 p3, T = T_30_0 p0 p1 p2 p3 ∧ G p0 p1 p2 p3 k = some r := by
 unfold o_30_0 at h
 split at h
 · obtain ⟨hs, h'⟩ := gd_some h
   refine ⟨_, _, _, _, (st_of (asg := [(0, _), (1, _), (12, _), (13, _)]) hs ⟨by assumption, by assumption, by assumption, by assumption, trivial⟩ (by assumption)).trans ?_, h'⟩
   kernel_rfl
 · cases h
noncomputable def O_30_30_0 {R : Type} : St → (Ex → St → Option R) → Option R := fun T k => o_30_0 G_30_0 T k
theorem body_30_0 {R : Type} (K0 : St → Option R) (K1 : Ex → St → Option R) (p0 p1 : List Int) (p2 p3 : Int) : evLB (evCodeL sm_30 FU (ovr noO (evFn sm_30 fns FU 0)) .nil ir30_b0) (St.norm ir30_v0) (T_30_0 p0 p1 p2 p3) K0 K1 =
 bif decide (p3 < p2) then gd (inB p3 (length p0)) (gd (inB p3 (length p1)) (bif getD p0 (Int.toNat p3) 0 != getD p1 (Int.toNat p3) 0 then K1 Ex.ret X_30_0_0 else K0 (T_30_0 p0 p1 p2 (wrap i64 (p3 + 1))))) else K1 (Ex.exit 0) X_30_0_1 := by kernel_rfl
theorem Bgd_30_0 {R : Type} {c : Bool} {x : Option R} {y : Option E_30_0} {k0 : Option R} {k1 : Option R} (h : x = B_30_0 y k0 k1) : gd c x = B_30_0 (gd c y) k0 k1 := by cases c; rfl; exact h
theorem Bcond_30_0 {R : Type} {c : Bool} {x x' : Option R} {y y' : Option E_30_0} {k0 : Option R} {k1 : Option R} (h : x = B_30_0 y k0 k1) (h' : x' = B_30_0 y' k0 k1) : (bif c then x else x') = B_30_0 (bif c then y else y') k0 k1 := by cases c; exact h'; exact h
theorem loop_30_0 {R : Type} (k : Ex → St → Option R) : ∀ (m : Nat) (p0 : List Int) (p1 : List Int) (p2 : Int) (p3 : Int), evLoopN (evCodeL sm_30 FU (ovr noO (evFn sm_30 fns FU 0)) .nil ir30_b0) (St.norm ir30_v0) m (T_30_0 p0 p1 p2 p3) k = B_30_0 (L_30_0 m p0 p1 p2 p3) (k Ex.ret (X_30_0_0)) (k (Ex.exit (0 : Nat)) (X_30_0_1))
 | 0, _, _, _, _ => rfl
 | m + 1, p0, p1, p2, p3 => by
   rw [evLoopN_succ, body_30_0, L_30_0]
   repeat' first | apply Bgd_30_0 | apply Bcond_30_0 | exact loop_30_0 k m _ _ _ _ | rfl
theorem ok_30_0 {R : Type} (T : St) (k : Ex → St → Option R) (r : R) (h0 : o_30_0 G_30_0 T k = some r) : evLoopN (evCode sm_30 FU (evFn sm_30 fns FU 0) ir30_b0) (St.norm ir30_v0) FU T k = some r := by
 obtain ⟨p0, p1, p2, p3, rfl, h⟩ := o_30_0_inv h0
 refine evLoopN_L (t := .nil) noO_ok trivial _ _ _ _ ?_
 rw [loop_30_0]
 exact h
theorem OK_30_30_0 {R : Type} (T : St) (k : Ex → St → Option R) (r : R) (h : O_30_30_0 T k = some r) : evLoopN (evCode sm_30 FU (evFn sm_30 fns FU 0) ir30_b0) (St.norm ir30_v0) FU T k = some r := ok_30_0 T k r h
noncomputable def F_30 (a0 a1 : (List Int)) : Option (Bool × Unit) :=
 bif (↑(length a0) : Int) != (↑(length a1) : Int) then some (false, PUnit.unit) else B_30_0 (L_30_0 4611686018427387904 a0 a1 (↑(length a0) : Int) 0) (some (false, PUnit.unit)) (some (true, PUnit.unit))
theorem fn_30 (a0 a1 : (List Int)) : evFnL sm_30 FU (ovr noO (evFn sm_30 fns FU 0)) (ir30_t O_30_30_0) ir30 (ofH [(.slice (.int .u32)), (.slice (.int .u32))] (a0, a1, ())) [] (pureK [.bool]) = F_30 a0 a1 := by kernel_rfl
noncomputable def Sp.p_30 (a0 a1 : (List Int)) : Bool := (F_30 a0 a1).isSome
noncomputable def Sp.v_30 (a0 a1 : (List Int)) : Bool × Unit := (F_30 a0 a1).getD (dfH [.bool])
noncomputable def s_30 : Summ := shN [(.slice (.int .u32)), (.slice (.int .u32))] [.bool] (fun x => p_30 x.1 x.2.1) (fun x => v_30 x.1 x.2.1)
theorem pv_30 (a0 a1 : (List Int)) {y : Bool × Unit} (h : F_30 a0 a1 = some y) : p_30 a0 a1 = true ∧ v_30 a0 a1 = y := ⟨by rw [p_30, h]; rfl, by rw [v_30, h]; rfl⟩
theorem run_30 (x : HDen [(.slice (.int .u32)), (.slice (.int .u32))]) (y : HDen [.bool]) (h : F_30 x.1 x.2.1 = some y) : evFn sm_30 fns FU 1 30 (ofH [(.slice (.int .u32)), (.slice (.int .u32))] x) [] (pureK [.bool]) = some y :=
 evFnL_sound (fn := ir30) (t := (ir30_t O_30_30_0)) (o := noO) rfl noO_ok (ir30_tok (fun T k r => OK_30_30_0 T k r)) ((fn_30 _ _).trans h)
end
noncomputable section
noncomputable def sm_5 : Nat → Option Summ := fun f => bif Nat.beq f 10 then some s_10 else bif Nat.beq f 11 then some s_11 else bif Nat.beq f 12 then some s_12 else bif Nat.beq f 14 then some s_14 else bif Nat.beq f 22 then some s_22 else bif Nat.beq f 23 then some s_23 else bif Nat.beq f 24 then some s_24 else bif Nat.beq f 25 then some s_25 else bif Nat.beq f 26 then some s_26 else bif Nat.beq f 27 then some s_27 else bif Nat.beq f 28 then some s_28 else bif Nat.beq f 29 then some s_29 else bif Nat.beq f 30 then some s_30 else none
noncomputable def F_5 (a0 : (((List Int) × ((List Int) × (Int × Unit))) × ((List Int) × Unit))) (a1 a2 a3 : Int) : Option (Bool) :=
 gd p_10 (bif !v_10.1 then some false else gd (p_11 a0) (bif !(v_11 a0).1 then some true else gd (p_22 a2 a3 (a0.2.1)) (gd (p_23 a2 a3 (a0.2.1)) (bif (v_22 a2 a3 (a0.2.1)).2.1 != (v_23 a2 a3 (a0.2.1)).2.1 then some false else gd (p_24 ((v_22 a2 a3 (a0.2.1)).1.1) ((v_23 a2 a3 (a0.2.1)).1.1)) (bif !(v_24 ((v_22 a2 a3 (a0.2.1)).1.1) ((v_23 a2 a3 (a0.2.1)).1.1)).1 then some false else bif !Ty.beq (Ty.arr 32 (Ty.int u8)) ((v_22 a2 a3 (a0.2.1)).1.2.1) ((v_23 a2 a3 (a0.2.1)).1.2.1) then some false else gd (p_12 a0) (gd (p_25 a0) (bif !(v_12 a0).1 == (v_25 a0).1 then some false else gd (p_14 a0 a1) (gd (p_26 a0 a1) (gd (p_27 a0 a1) (gd (p_28 a0 a1) (bif (v_14 a0 a1).2.1 == (v_26 a0 a1).2.1 then gd (p_29 ((v_14 a0 a1).1) ((v_26 a0 a1).1)) (bif (v_29 ((v_14 a0 a1).1) ((v_26 a0 a1).1)).1 then bif (v_27 a0 a1).2.1 == (v_28 a0 a1).2.1 then gd (p_30 ((v_27 a0 a1).1) ((v_28 a0 a1).1)) (some ((v_30 ((v_27 a0 a1).1) ((v_28 a0 a1).1)).1)) else some false else some false) else some false)))))))))))
theorem fn_5 (a0 : (((List Int) × ((List Int) × (Int × Unit))) × ((List Int) × Unit))) (a1 a2 a3 : Int) : evFnL sm_5 FU (ovr noO (evFn sm_5 fns FU 0)) .nil ir5 (ofH [(.pair (.pair (.slice (.int .u32)) (.pair (.slice (.int .i64)) (.pair (.int .i64) .unit))) (.pair (.arr 32 (.int .u8)) .unit)), (.int .i64), (.int .i64), (.int .i64)] (a0, a1, a2, a3, ())) [] bk = F_5 a0 a1 a2 a3 := by kernel_rfl
theorem run_5 (a0 : (((List Int) × ((List Int) × (Int × Unit))) × ((List Int) × Unit))) (a1 a2 a3 : Int) {b : Bool} (h : F_5 a0 a1 a2 a3 = some b) : evFn sm_5 fns FU 1 5 (ofH [(.pair (.pair (.slice (.int .u32)) (.pair (.slice (.int .i64)) (.pair (.int .i64) .unit))) (.pair (.arr 32 (.int .u8)) .unit)), (.int .i64), (.int .i64), (.int .i64)] (a0, a1, a2, a3, ())) [] bk = some b :=
 evFnL_sound (fn := ir5) (t := .nil) (o := noO) rfl noO_ok trivial ((fn_5 _ _ _ _).trans h)
end
end Go.Ev
namespace Go.Proofs
open Go.Shelf
noncomputable def Try.clone61_ren : Go.Shelf.Ren := ⟨fun | 41 => 61 | n => n, fun | 22 => 22 | 23 => 42 | 4 => 4 | n => n, fun | n => n⟩
theorem Try.clone61 : Go.Proofs.SlLaysE0.n41 Try.prog Try.clone61_ren := {
 mixed := by kernel_rfl
 f41 := ⟨Try.f61.name, by decide, Try.func61.trans (congrArg some (by kernel_rfl))⟩
 t4 := Try.underlying4
 a4 := Try.isAgg4
 z4 := Try.sizeOf4
 v4 := Try.zeroValue4
 t22 := Try.underlying22
 a22 := Try.isAgg22
 z22 := Try.sizeOf22
 v22 := Try.zeroValue22 }
end Go.Proofs
namespace Go.Ev
open Go Go.Proofs Go.RowKit
set_option maxRecDepth 100000
set_option maxHeartbeats 4000000
noncomputable def smB : Nat → Bool := fun f => [10, 11, 12, 13, 14, 15, 16, 17, 18, 19, 20, 21, 22, 23, 24, 25, 26, 27, 28, 29, 30, 31, 32, 33, 34, 35, 36, 37, 38, 39, 40, 41, 42, 43, 44, 45, 46, 47, 48, 49, 50, 51, 52, 53, 54, 55, 56, 57, 58, 59, 60, 61, 62, 63, 64, 65, 66, 69, 70, 71, 72, 73, 74, 77, 78, 79, 81, 83, 84, 85, 86, 87, 88, 89, 90, 91, 94, 95, 96, 97, 99, 100, 101, 102, 103, 104, 105, 106, 107, 108].contains f
theorem hm0 : Try.prog.follows .mixedOrders = true := by kernel_rfl
theorem key4 : fnKey Try.prog smB 4 = ir4.key := by kernel_rfl
theorem key5 : fnKey Try.prog smB 5 = ir5.key := by kernel_rfl
theorem key10 : fnKey Try.prog smB 10 = ir10.key := by kernel_rfl
theorem key11 : fnKey Try.prog smB 11 = ir11.key := by kernel_rfl
theorem key12 : fnKey Try.prog smB 12 = ir12.key := by kernel_rfl
theorem key13 : fnKey Try.prog smB 13 = ir13.key := by kernel_rfl
theorem key14 : fnKey Try.prog smB 14 = ir14.key := by kernel_rfl
theorem key16 : fnKey Try.prog smB 16 = ir16.key := by kernel_rfl
theorem key17 : fnKey Try.prog smB 17 = ir17.key := by kernel_rfl
theorem key18 : fnKey Try.prog smB 18 = ir18.key := by kernel_rfl
theorem key19 : fnKey Try.prog smB 19 = ir19.key := by kernel_rfl
theorem key20 : fnKey Try.prog smB 20 = ir20.key := by kernel_rfl
theorem key21 : fnKey Try.prog smB 21 = ir21.key := by kernel_rfl
theorem key22 : fnKey Try.prog smB 22 = ir22.key := by kernel_rfl
theorem key23 : fnKey Try.prog smB 23 = ir23.key := by kernel_rfl
theorem key24 : fnKey Try.prog smB 24 = ir24.key := by kernel_rfl
theorem key25 : fnKey Try.prog smB 25 = ir25.key := by kernel_rfl
theorem key26 : fnKey Try.prog smB 26 = ir26.key := by kernel_rfl
theorem key27 : fnKey Try.prog smB 27 = ir27.key := by kernel_rfl
theorem key28 : fnKey Try.prog smB 28 = ir28.key := by kernel_rfl
theorem key29 : fnKey Try.prog smB 29 = ir29.key := by kernel_rfl
theorem key30 : fnKey Try.prog smB 30 = ir30.key := by kernel_rfl
theorem key34 : fnKey Try.prog smB 34 = ir34.key := by kernel_rfl
theorem key35 : fnKey Try.prog smB 35 = ir35.key := by kernel_rfl
theorem key40 : fnKey Try.prog smB 40 = ir40.key := by kernel_rfl
theorem key41 : fnKey Try.prog smB 41 = ir41.key := by kernel_rfl
theorem key42 : fnKey Try.prog smB 42 = ir42.key := by kernel_rfl
theorem key43 : fnKey Try.prog smB 43 = ir43.key := by kernel_rfl
theorem key44 : fnKey Try.prog smB 44 = ir44.key := by kernel_rfl
theorem key45 : fnKey Try.prog smB 45 = ir45.key := by kernel_rfl
theorem key46 : fnKey Try.prog smB 46 = ir46.key := by kernel_rfl
theorem key47 : fnKey Try.prog smB 47 = ir47.key := by kernel_rfl
theorem key48 : fnKey Try.prog smB 48 = ir48.key := by kernel_rfl
theorem key49 : fnKey Try.prog smB 49 = ir49.key := by kernel_rfl
theorem key50 : fnKey Try.prog smB 50 = ir50.key := by kernel_rfl
theorem key51 : fnKey Try.prog smB 51 = ir51.key := by kernel_rfl
theorem key52 : fnKey Try.prog smB 52 = ir52.key := by kernel_rfl
theorem key53 : fnKey Try.prog smB 53 = ir53.key := by kernel_rfl
theorem key54 : fnKey Try.prog smB 54 = ir54.key := by kernel_rfl
theorem key55 : fnKey Try.prog smB 55 = ir55.key := by kernel_rfl
theorem key56 : fnKey Try.prog smB 56 = ir56.key := by kernel_rfl
theorem key57 : fnKey Try.prog smB 57 = ir57.key := by kernel_rfl
theorem key58 : fnKey Try.prog smB 58 = ir58.key := by kernel_rfl
theorem key59 : fnKey Try.prog smB 59 = ir59.key := by kernel_rfl
theorem key60 : fnKey Try.prog smB 60 = ir60.key := by kernel_rfl
theorem key62 : fnKey Try.prog smB 62 = ir62.key := by kernel_rfl
theorem key63 : fnKey Try.prog smB 63 = ir63.key := by kernel_rfl
theorem key66 : fnKey Try.prog smB 66 = ir66.key := by kernel_rfl
theorem key67 : fnKey Try.prog smB 67 = ir67.key := by kernel_rfl
theorem key68 : fnKey Try.prog smB 68 = ir68.key := by kernel_rfl
theorem key69 : fnKey Try.prog smB 69 = ir69.key := by kernel_rfl
theorem key70 : fnKey Try.prog smB 70 = ir70.key := by kernel_rfl
theorem key73 : fnKey Try.prog smB 73 = ir73.key := by kernel_rfl
theorem key75 : fnKey Try.prog smB 75 = ir75.key := by kernel_rfl
theorem key76 : fnKey Try.prog smB 76 = ir76.key := by kernel_rfl
theorem key77 : fnKey Try.prog smB 77 = ir77.key := by kernel_rfl
theorem key78 : fnKey Try.prog smB 78 = ir78.key := by kernel_rfl
theorem key79 : fnKey Try.prog smB 79 = ir79.key := by kernel_rfl
theorem key80 : fnKey Try.prog smB 80 = ir80.key := by kernel_rfl
theorem key81 : fnKey Try.prog smB 81 = ir81.key := by kernel_rfl
theorem key82 : fnKey Try.prog smB 82 = ir82.key := by kernel_rfl
theorem key83 : fnKey Try.prog smB 83 = ir83.key := by kernel_rfl
theorem key84 : fnKey Try.prog smB 84 = ir84.key := by kernel_rfl
theorem key85 : fnKey Try.prog smB 85 = ir85.key := by kernel_rfl
theorem key86 : fnKey Try.prog smB 86 = ir86.key := by kernel_rfl
theorem key87 : fnKey Try.prog smB 87 = ir87.key := by kernel_rfl
theorem key88 : fnKey Try.prog smB 88 = ir88.key := by kernel_rfl
theorem key89 : fnKey Try.prog smB 89 = ir89.key := by kernel_rfl
theorem key90 : fnKey Try.prog smB 90 = ir90.key := by kernel_rfl
theorem key91 : fnKey Try.prog smB 91 = ir91.key := by kernel_rfl
theorem key92 : fnKey Try.prog smB 92 = ir92.key := by kernel_rfl
theorem key93 : fnKey Try.prog smB 93 = ir93.key := by kernel_rfl
theorem key95 : fnKey Try.prog smB 95 = ir95.key := by kernel_rfl
theorem key96 : fnKey Try.prog smB 96 = ir96.key := by kernel_rfl
theorem key98 : fnKey Try.prog smB 98 = ir98.key := by kernel_rfl
theorem key99 : fnKey Try.prog smB 99 = ir99.key := by kernel_rfl
theorem key100 : fnKey Try.prog smB 100 = ir100.key := by kernel_rfl
theorem key101 : fnKey Try.prog smB 101 = ir101.key := by kernel_rfl
theorem key102 : fnKey Try.prog smB 102 = ir102.key := by kernel_rfl
theorem key104 : fnKey Try.prog smB 104 = ir104.key := by kernel_rfl
theorem key105 : fnKey Try.prog smB 105 = ir105.key := by kernel_rfl
theorem key106 : fnKey Try.prog smB 106 = ir106.key := by kernel_rfl
theorem key107 : fnKey Try.prog smB 107 = ir107.key := by kernel_rfl
theorem key108 : fnKey Try.prog smB 108 = ir108.key := by kernel_rfl
theorem fns_ok : FnsOK Try.prog smB fns := by
 intro f fn h
 unfold fns at h
 split at h
 · simp only [Option.some.injEq] at h; subst h; exact key4
 · simp only [Option.some.injEq] at h; subst h; exact key5
 · simp only [Option.some.injEq] at h; subst h; exact key10
 · simp only [Option.some.injEq] at h; subst h; exact key11
 · simp only [Option.some.injEq] at h; subst h; exact key12
 · simp only [Option.some.injEq] at h; subst h; exact key13
 · simp only [Option.some.injEq] at h; subst h; exact key14
 · simp only [Option.some.injEq] at h; subst h; exact key16
 · simp only [Option.some.injEq] at h; subst h; exact key17
 · simp only [Option.some.injEq] at h; subst h; exact key18
 · simp only [Option.some.injEq] at h; subst h; exact key19
 · simp only [Option.some.injEq] at h; subst h; exact key20
 · simp only [Option.some.injEq] at h; subst h; exact key21
 · simp only [Option.some.injEq] at h; subst h; exact key22
 · simp only [Option.some.injEq] at h; subst h; exact key23
 · simp only [Option.some.injEq] at h; subst h; exact key24
 · simp only [Option.some.injEq] at h; subst h; exact key25
 · simp only [Option.some.injEq] at h; subst h; exact key26
 · simp only [Option.some.injEq] at h; subst h; exact key27
 · simp only [Option.some.injEq] at h; subst h; exact key28
 · simp only [Option.some.injEq] at h; subst h; exact key29
 · simp only [Option.some.injEq] at h; subst h; exact key30
 · simp only [Option.some.injEq] at h; subst h; exact key34
 · simp only [Option.some.injEq] at h; subst h; exact key35
 · simp only [Option.some.injEq] at h; subst h; exact key40
 · simp only [Option.some.injEq] at h; subst h; exact key41
 · simp only [Option.some.injEq] at h; subst h; exact key42
 · simp only [Option.some.injEq] at h; subst h; exact key43
 · simp only [Option.some.injEq] at h; subst h; exact key44
 · simp only [Option.some.injEq] at h; subst h; exact key45
 · simp only [Option.some.injEq] at h; subst h; exact key46
 · simp only [Option.some.injEq] at h; subst h; exact key47
 · simp only [Option.some.injEq] at h; subst h; exact key48
 · simp only [Option.some.injEq] at h; subst h; exact key49
 · simp only [Option.some.injEq] at h; subst h; exact key50
 · simp only [Option.some.injEq] at h; subst h; exact key51
 · simp only [Option.some.injEq] at h; subst h; exact key52
 · simp only [Option.some.injEq] at h; subst h; exact key53
 · simp only [Option.some.injEq] at h; subst h; exact key54
 · simp only [Option.some.injEq] at h; subst h; exact key55
 · simp only [Option.some.injEq] at h; subst h; exact key56
 · simp only [Option.some.injEq] at h; subst h; exact key57
 · simp only [Option.some.injEq] at h; subst h; exact key58
 · simp only [Option.some.injEq] at h; subst h; exact key59
 · simp only [Option.some.injEq] at h; subst h; exact key60
 · simp only [Option.some.injEq] at h; subst h; exact key62
 · simp only [Option.some.injEq] at h; subst h; exact key63
 · simp only [Option.some.injEq] at h; subst h; exact key66
 · simp only [Option.some.injEq] at h; subst h; exact key67
 · simp only [Option.some.injEq] at h; subst h; exact key68
 · simp only [Option.some.injEq] at h; subst h; exact key69
 · simp only [Option.some.injEq] at h; subst h; exact key70
 · simp only [Option.some.injEq] at h; subst h; exact key73
 · simp only [Option.some.injEq] at h; subst h; exact key75
 · simp only [Option.some.injEq] at h; subst h; exact key76
 · simp only [Option.some.injEq] at h; subst h; exact key77
 · simp only [Option.some.injEq] at h; subst h; exact key78
 · simp only [Option.some.injEq] at h; subst h; exact key79
 · simp only [Option.some.injEq] at h; subst h; exact key80
 · simp only [Option.some.injEq] at h; subst h; exact key81
 · simp only [Option.some.injEq] at h; subst h; exact key82
 · simp only [Option.some.injEq] at h; subst h; exact key83
 · simp only [Option.some.injEq] at h; subst h; exact key84
 · simp only [Option.some.injEq] at h; subst h; exact key85
 · simp only [Option.some.injEq] at h; subst h; exact key86
 · simp only [Option.some.injEq] at h; subst h; exact key87
 · simp only [Option.some.injEq] at h; subst h; exact key88
 · simp only [Option.some.injEq] at h; subst h; exact key89
 · simp only [Option.some.injEq] at h; subst h; exact key90
 · simp only [Option.some.injEq] at h; subst h; exact key91
 · simp only [Option.some.injEq] at h; subst h; exact key92
 · simp only [Option.some.injEq] at h; subst h; exact key93
 · simp only [Option.some.injEq] at h; subst h; exact key95
 · simp only [Option.some.injEq] at h; subst h; exact key96
 · simp only [Option.some.injEq] at h; subst h; exact key98
 · simp only [Option.some.injEq] at h; subst h; exact key99
 · simp only [Option.some.injEq] at h; subst h; exact key100
 · simp only [Option.some.injEq] at h; subst h; exact key101
 · simp only [Option.some.injEq] at h; subst h; exact key102
 · simp only [Option.some.injEq] at h; subst h; exact key104
 · simp only [Option.some.injEq] at h; subst h; exact key105
 · simp only [Option.some.injEq] at h; subst h; exact key106
 · simp only [Option.some.injEq] at h; subst h; exact key107
 · simp only [Option.some.injEq] at h; subst h; exact key108
 · cases h
theorem info61 : ∃ i, Try.prog.info? 42 = some i ∧ i.zero = some (.int .u32 0) ∧ i.size = 1 ∧ i.bytes = 4 := ⟨_, rfl, by kernel_rfl, by kernel_rfl, by kernel_rfl⟩
theorem sok_61 : SummOK Try.prog 61 (vecS (.int .u32) 42 4) := by
 obtain ⟨i, hi, h0, h1, h2⟩ := info61
 exact clone_vec (by kernel_rfl) (by decide)
   (fun b off n c news w hl hn hb hc h3 => AnyE.slices_Clone Try.clone61 i _ 1 4 hi h0 h1 h2 (by kernel_rfl) (by decide) Try.sizeOf42 b off n c news w hl hn hb hc h3)
   (fun n c w => AnyE.slices_Clone_nil Try.clone61 n c w)
   (fun a c w => clone_zero Try.clone61 i _ 1 4 hi h0 h1 h2 (by kernel_rfl) (by decide) Try.sizeOf42 a c w)
noncomputable def grow77_ren : Go.Shelf.Ren := ⟨fun | 4 => 77 | n => n, fun | 25 => 42 | 22 => 22 | n => n, fun | n => n⟩
theorem grow77_lay : Go.Proofs.Lays8.n4 Try.prog grow77_ren := {
 mixed := by kernel_rfl
 f4 := ⟨Try.f77.name, by decide, Try.func77.trans (congrArg some (by kernel_rfl))⟩
 t0 := Try.underlying0
 a0 := Try.isAgg0
 z0 := Try.sizeOf0
 v0 := Try.zeroValue0
 t3 := Try.underlying3
 a3 := Try.isAgg3
 z3 := Try.sizeOf3
 v3 := Try.zeroValue3
 t4 := Try.underlying4
 a4 := Try.isAgg4
 z4 := Try.sizeOf4
 v4 := Try.zeroValue4
 t9 := Try.underlying9
 a9 := Try.isAgg9
 z9 := Try.sizeOf9
 v9 := Try.zeroValue9
 t20 := Try.underlying20
 a20 := Try.isAgg20
 z20 := Try.sizeOf20
 v20 := Try.zeroValue20
 t22 := Try.underlying22
 a22 := Try.isAgg22
 z22 := Try.sizeOf22
 v22 := Try.zeroValue22 }
theorem growinfo77 : ∃ i, Try.prog.info? 42 = some i ∧ i.zero = some (.int .u32 0) ∧ i.size = 1 ∧ i.bytes = 4 := ⟨_, rfl, by kernel_rfl, by kernel_rfl, by kernel_rfl⟩
theorem sok_77 : SummOK Try.prog 77 (growS (.int .u32) 42 4) := by
 obtain ⟨i, hi, h0, h1, h2⟩ := growinfo77
 exact grow_vec (by kernel_rfl) (by decide) (fun n w hn hb => grow_calls grow77_lay i _ 1 4 hi h0 h1 h2 (by decide) (by decide) (by rfl) n w hn hb)
theorem smok_40 : ∀ f s, sm_40 f = some s → SummOK Try.prog f s := by
 intro f s h
 unfold sm_40 at h
 cases h
theorem call_40 {R : Type} (n base : Nat) : CallOK Try.prog base (evFn (R := R) sm_40 fns FU n) := ev_sound hm0 smok_40 (fun f s h => (smok_40 f s h).2.1) fns_ok n
theorem sok_40 : SummOK Try.prog 40 s_40 := summ_shN (by decide) (fun _ => rfl) (fun _ => rfl) (call_40 4) (by kernel_rfl) run_40
theorem smok_41 : ∀ f s, sm_41 f = some s → SummOK Try.prog f s := by
 intro f s h
 unfold sm_41 at h
 cases h
theorem call_41 {R : Type} (n base : Nat) : CallOK Try.prog base (evFn (R := R) sm_41 fns FU n) := ev_sound hm0 smok_41 (fun f s h => (smok_41 f s h).2.1) fns_ok n
theorem sok_41 : SummOK Try.prog 41 s_41 := summ_shN (by decide) (fun _ => rfl) (fun _ => rfl) (call_41 1) (by kernel_rfl) run_41
theorem smok_12 : ∀ f s, sm_12 f = some s → SummOK Try.prog f s := by
 intro f s h
 unfold sm_12 at h
 by_cases h40 : f = 40
 · subst h40
   injection h with h
   subst h
   exact sok_40
 rw [nbeq_ne h40, cond_false] at h
 by_cases h41 : f = 41
 · subst h41
   injection h with h
   subst h
   exact sok_41
 rw [nbeq_ne h41, cond_false] at h
 cases h
theorem call_12 {R : Type} (n base : Nat) : CallOK Try.prog base (evFn (R := R) sm_12 fns FU n) := ev_sound hm0 smok_12 (fun f s h => (smok_12 f s h).2.1) fns_ok n
theorem sok_12 : SummOK Try.prog 12 s_12 := summ_shN (by decide) (fun _ => rfl) (fun _ => rfl) (call_12 1) (by kernel_rfl) run_12
theorem smok_42 : ∀ f s, sm_42 f = some s → SummOK Try.prog f s := by
 intro f s h
 unfold sm_42 at h
 cases h
theorem call_42 {R : Type} (n base : Nat) : CallOK Try.prog base (evFn (R := R) sm_42 fns FU n) := ev_sound hm0 smok_42 (fun f s h => (smok_42 f s h).2.1) fns_ok n
theorem sok_42 : SummOK Try.prog 42 s_42 := summ_sh (fun _ => rfl) (fun _ => rfl) (call_42 1) (by kernel_rfl) run_42
theorem smok_46 : ∀ f s, sm_46 f = some s → SummOK Try.prog f s := by
 intro f s h
 unfold sm_46 at h
 cases h
theorem call_46 {R : Type} (n base : Nat) : CallOK Try.prog base (evFn (R := R) sm_46 fns FU n) := ev_sound hm0 smok_46 (fun f s h => (smok_46 f s h).2.1) fns_ok n
theorem sok_46 : SummOK Try.prog 46 s_46 := summ_shN (by decide) (fun _ => rfl) (fun _ => rfl) (call_46 1) (by kernel_rfl) run_46
theorem smok_44 : ∀ f s, sm_44 f = some s → SummOK Try.prog f s := by
 intro f s h
 unfold sm_44 at h
 cases h
theorem call_44 {R : Type} (n base : Nat) : CallOK Try.prog base (evFn (R := R) sm_44 fns FU n) := ev_sound hm0 smok_44 (fun f s h => (smok_44 f s h).2.1) fns_ok n
theorem sok_44 : SummOK Try.prog 44 s_44 := summ_sh (fun _ => rfl) (fun _ => rfl) (call_44 1) (by kernel_rfl) run_44
theorem smok_81 : ∀ f s, sm_81 f = some s → SummOK Try.prog f s := by
 intro f s h
 unfold sm_81 at h
 cases h
theorem call_81 {R : Type} (n base : Nat) : CallOK Try.prog base (evFn (R := R) sm_81 fns FU n) := ev_sound hm0 smok_81 (fun f s h => (smok_81 f s h).2.1) fns_ok n
theorem sok_81 : SummOK Try.prog 81 s_81 := summ_sh (fun _ => rfl) (fun _ => rfl) (call_81 2) (by kernel_rfl) run_81
theorem smok_47 : ∀ f s, sm_47 f = some s → SummOK Try.prog f s := by
 intro f s h
 unfold sm_47 at h
 by_cases h44 : f = 44
 · subst h44
   injection h with h
   subst h
   exact sok_44
 rw [nbeq_ne h44, cond_false] at h
 by_cases h81 : f = 81
 · subst h81
   injection h with h
   subst h
   exact sok_81
 rw [nbeq_ne h81, cond_false] at h
 by_cases h99 : f = 99
 · subst h99
   injection h with h
   subst h
   exact sok_99
 rw [nbeq_ne h99, cond_false] at h
 cases h
theorem call_47 {R : Type} (n base : Nat) : CallOK Try.prog base (evFn (R := R) sm_47 fns FU n) := ev_sound hm0 smok_47 (fun f s h => (smok_47 f s h).2.1) fns_ok n
theorem sok_47 : SummOK Try.prog 47 s_47 := summ_sh (fun _ => rfl) (fun _ => rfl) (call_47 3) (by kernel_rfl) run_47
theorem smok_14 : ∀ f s, sm_14 f = some s → SummOK Try.prog f s := by
 intro f s h
 unfold sm_14 at h
 by_cases h12 : f = 12
 · subst h12
   injection h with h
   subst h
   exact sok_12
 rw [nbeq_ne h12, cond_false] at h
 by_cases h42 : f = 42
 · subst h42
   injection h with h
   subst h
   exact sok_42
 rw [nbeq_ne h42, cond_false] at h
 by_cases h46 : f = 46
 · subst h46
   injection h with h
   subst h
   exact sok_46
 rw [nbeq_ne h46, cond_false] at h
 by_cases h47 : f = 47
 · subst h47
   injection h with h
   subst h
   exact sok_47
 rw [nbeq_ne h47, cond_false] at h
 cases h
theorem call_14 {R : Type} (n base : Nat) : CallOK Try.prog base (evFn (R := R) sm_14 fns FU n) := ev_sound hm0 smok_14 (fun f s h => (smok_14 f s h).2.1) fns_ok n
theorem sok_14 : SummOK Try.prog 14 s_14 := summ_sh (fun _ => rfl) (fun _ => rfl) (call_14 1) (by kernel_rfl) run_14
theorem smok_66 : ∀ f s, sm_66 f = some s → SummOK Try.prog f s := by
 intro f s h
 unfold sm_66 at h
 cases h
theorem call_66 {R : Type} (n base : Nat) : CallOK Try.prog base (evFn (R := R) sm_66 fns FU n) := ev_sound hm0 smok_66 (fun f s h => (smok_66 f s h).2.1) fns_ok n
theorem sok_66 : SummOK Try.prog 66 s_66 := summ_shN (by decide) (fun _ => rfl) (fun _ => rfl) (call_66 1) (by kernel_rfl) run_66
theorem smok_95 : ∀ f s, sm_95 f = some s → SummOK Try.prog f s := by
 intro f s h
 unfold sm_95 at h
 cases h
theorem call_95 {R : Type} (n base : Nat) : CallOK Try.prog base (evFn (R := R) sm_95 fns FU n) := ev_sound hm0 smok_95 (fun f s h => (smok_95 f s h).2.1) fns_ok n
theorem sok_95 : SummOK Try.prog 95 s_95 := summ_shN (by decide) (fun _ => rfl) (fun _ => rfl) (call_95 1) (by kernel_rfl) run_95
theorem smok_104 : ∀ f s, sm_104 f = some s → SummOK Try.prog f s := by
 intro f s h
 unfold sm_104 at h
 cases h
theorem call_104 {R : Type} (n base : Nat) : CallOK Try.prog base (evFn (R := R) sm_104 fns FU n) := ev_sound hm0 smok_104 (fun f s h => (smok_104 f s h).2.1) fns_ok n
theorem sok_104 : SummOK Try.prog 104 s_104 := summ_shN (by decide) (fun _ => rfl) (fun _ => rfl) (call_104 1) (by kernel_rfl) run_104
theorem smok_96 : ∀ f s, sm_96 f = some s → SummOK Try.prog f s := by
 intro f s h
 unfold sm_96 at h
 by_cases h104 : f = 104
 · subst h104
   injection h with h
   subst h
   exact sok_104
 rw [nbeq_ne h104, cond_false] at h
 cases h
theorem call_96 {R : Type} (n base : Nat) : CallOK Try.prog base (evFn (R := R) sm_96 fns FU n) := ev_sound hm0 smok_96 (fun f s h => (smok_96 f s h).2.1) fns_ok n
theorem sok_96 : SummOK Try.prog 96 s_96 := summ_shN (by decide) (fun _ => rfl) (fun _ => rfl) (call_96 1) (by kernel_rfl) run_96
theorem smok_35 : ∀ f s, sm_35 f = some s → SummOK Try.prog f s := by
 intro f s h
 unfold sm_35 at h
 by_cases h66 : f = 66
 · subst h66
   injection h with h
   subst h
   exact sok_66
 rw [nbeq_ne h66, cond_false] at h
 by_cases h95 : f = 95
 · subst h95
   injection h with h
   subst h
   exact sok_95
 rw [nbeq_ne h95, cond_false] at h
 by_cases h96 : f = 96
 · subst h96
   injection h with h
   subst h
   exact sok_96
 rw [nbeq_ne h96, cond_false] at h
 cases h
theorem call_35 {R : Type} (n base : Nat) : CallOK Try.prog base (evFn (R := R) sm_35 fns FU n) := ev_sound hm0 smok_35 (fun f s h => (smok_35 f s h).2.1) fns_ok n
theorem sok_35 : SummOK Try.prog 35 s_35 := summ_shN (by decide) (fun _ => rfl) (fun _ => rfl) (call_35 2) (by kernel_rfl) run_35
theorem smok_43 : ∀ f s, sm_43 f = some s → SummOK Try.prog f s := by
 intro f s h
 unfold sm_43 at h
 by_cases h77 : f = 77
 · subst h77
   injection h with h
   subst h
   exact sok_77
 rw [nbeq_ne h77, cond_false] at h
 cases h
theorem call_43 {R : Type} (n base : Nat) : CallOK Try.prog base (evFn (R := R) sm_43 fns FU n) := ev_sound hm0 smok_43 (fun f s h => (smok_43 f s h).2.1) fns_ok n
theorem sok_43 : SummOK Try.prog 43 s_43 := summ_sh (fun _ => rfl) (fun _ => rfl) (call_43 1) (by kernel_rfl) run_43
theorem smok_69 : ∀ f s, sm_69 f = some s → SummOK Try.prog f s := by
 intro f s h
 unfold sm_69 at h
 cases h
theorem call_69 {R : Type} (n base : Nat) : CallOK Try.prog base (evFn (R := R) sm_69 fns FU n) := ev_sound hm0 smok_69 (fun f s h => (smok_69 f s h).2.1) fns_ok n
theorem sok_69 : SummOK Try.prog 69 s_69 := summ_sh (fun _ => rfl) (fun _ => rfl) (call_69 1) (by kernel_rfl) run_69
theorem smok_70 : ∀ f s, sm_70 f = some s → SummOK Try.prog f s := by
 intro f s h
 unfold sm_70 at h
 by_cases h35 : f = 35
 · subst h35
   injection h with h
   subst h
   exact sok_35
 rw [nbeq_ne h35, cond_false] at h
 cases h
theorem call_70 {R : Type} (n base : Nat) : CallOK Try.prog base (evFn (R := R) sm_70 fns FU n) := ev_sound hm0 smok_70 (fun f s h => (smok_70 f s h).2.1) fns_ok n
theorem sok_70 : SummOK Try.prog 70 s_70 := summ_shN (by decide) (fun _ => rfl) (fun _ => rfl) (call_70 1) (by kernel_rfl) run_70
theorem smok_73 : ∀ f s, sm_73 f = some s → SummOK Try.prog f s := by
 intro f s h
 unfold sm_73 at h
 by_cases h35 : f = 35
 · subst h35
   injection h with h
   subst h
   exact sok_35
 rw [nbeq_ne h35, cond_false] at h
 cases h
theorem call_73 {R : Type} (n base : Nat) : CallOK Try.prog base (evFn (R := R) sm_73 fns FU n) := ev_sound hm0 smok_73 (fun f s h => (smok_73 f s h).2.1) fns_ok n
theorem sok_73 : SummOK Try.prog 73 s_73 := summ_shN (by decide) (fun _ => rfl) (fun _ => rfl) (call_73 1) (by kernel_rfl) run_73
theorem smok_78 : ∀ f s, sm_78 f = some s → SummOK Try.prog f s := by
 intro f s h
 unfold sm_78 at h
 cases h
theorem call_78 {R : Type} (n base : Nat) : CallOK Try.prog base (evFn (R := R) sm_78 fns FU n) := ev_sound hm0 smok_78 (fun f s h => (smok_78 f s h).2.1) fns_ok n
theorem sok_78 : SummOK Try.prog 78 s_78 := summ_shN (by decide) (fun _ => rfl) (fun _ => rfl) (call_78 1) (by kernel_rfl) run_78
theorem smok_79 : ∀ f s, sm_79 f = some s → SummOK Try.prog f s := by
 intro f s h
 unfold sm_79 at h
 by_cases h35 : f = 35
 · subst h35
   injection h with h
   subst h
   exact sok_35
 rw [nbeq_ne h35, cond_false] at h
 cases h
theorem call_79 {R : Type} (n base : Nat) : CallOK Try.prog base (evFn (R := R) sm_79 fns FU n) := ev_sound hm0 smok_79 (fun f s h => (smok_79 f s h).2.1) fns_ok n
theorem sok_79 : SummOK Try.prog 79 s_79 := summ_shN (by decide) (fun _ => rfl) (fun _ => rfl) (call_79 1) (by kernel_rfl) run_79
theorem smok_45 : ∀ f s, sm_45 f = some s → SummOK Try.prog f s := by
 intro f s h
 unfold sm_45 at h
 by_cases h69 : f = 69
 · subst h69
   injection h with h
   subst h
   exact sok_69
 rw [nbeq_ne h69, cond_false] at h
 by_cases h70 : f = 70
 · subst h70
   injection h with h
   subst h
   exact sok_70
 rw [nbeq_ne h70, cond_false] at h
 by_cases h73 : f = 73
 · subst h73
   injection h with h
   subst h
   exact sok_73
 rw [nbeq_ne h73, cond_false] at h
 by_cases h78 : f = 78
 · subst h78
   injection h with h
   subst h
   exact sok_78
 rw [nbeq_ne h78, cond_false] at h
 by_cases h79 : f = 79
 · subst h79
   injection h with h
   subst h
   exact sok_79
 rw [nbeq_ne h79, cond_false] at h
 cases h
theorem call_45 {R : Type} (n base : Nat) : CallOK Try.prog base (evFn (R := R) sm_45 fns FU n) := ev_sound hm0 smok_45 (fun f s h => (smok_45 f s h).2.1) fns_ok n
theorem sok_45 : SummOK Try.prog 45 s_45 := summ_shN (by decide) (fun _ => rfl) (fun _ => rfl) (call_45 1) (by kernel_rfl) run_45
theorem smok_13 : ∀ f s, sm_13 f = some s → SummOK Try.prog f s := by
 intro f s h
 unfold sm_13 at h
 by_cases h14 : f = 14
 · subst h14
   injection h with h
   subst h
   exact sok_14
 rw [nbeq_ne h14, cond_false] at h
 by_cases h35 : f = 35
 · subst h35
   injection h with h
   subst h
   exact sok_35
 rw [nbeq_ne h35, cond_false] at h
 by_cases h42 : f = 42
 · subst h42
   injection h with h
   subst h
   exact sok_42
 rw [nbeq_ne h42, cond_false] at h
 by_cases h43 : f = 43
 · subst h43
   injection h with h
   subst h
   exact sok_43
 rw [nbeq_ne h43, cond_false] at h
 by_cases h44 : f = 44
 · subst h44
   injection h with h
   subst h
   exact sok_44
 rw [nbeq_ne h44, cond_false] at h
 by_cases h45 : f = 45
 · subst h45
   injection h with h
   subst h
   exact sok_45
 rw [nbeq_ne h45, cond_false] at h
 cases h
theorem call_13 {R : Type} (n base : Nat) : CallOK Try.prog base (evFn (R := R) sm_13 fns FU n) := ev_sound hm0 smok_13 (fun f s h => (smok_13 f s h).2.1) fns_ok n
theorem sok_13 : SummOK Try.prog 13 s_13 := summ_shN (by decide) (fun _ => rfl) (fun _ => rfl) (call_13 1) (by kernel_rfl) run_13
theorem smok_51 : ∀ f s, sm_51 f = some s → SummOK Try.prog f s := by
 intro f s h
 unfold sm_51 at h
 by_cases h42 : f = 42
 · subst h42
   injection h with h
   subst h
   exact sok_42
 rw [nbeq_ne h42, cond_false] at h
 cases h
theorem call_51 {R : Type} (n base : Nat) : CallOK Try.prog base (evFn (R := R) sm_51 fns FU n) := ev_sound hm0 smok_51 (fun f s h => (smok_51 f s h).2.1) fns_ok n
theorem sok_51 : SummOK Try.prog 51 s_51 := summ_shN (by decide) (fun _ => rfl) (fun _ => rfl) (call_51 1) (by kernel_rfl) run_51
theorem smok_17 : ∀ f s, sm_17 f = some s → SummOK Try.prog f s := by
 intro f s h
 unfold sm_17 at h
 by_cases h12 : f = 12
 · subst h12
   injection h with h
   subst h
   exact sok_12
 rw [nbeq_ne h12, cond_false] at h
 by_cases h13 : f = 13
 · subst h13
   injection h with h
   subst h
   exact sok_13
 rw [nbeq_ne h13, cond_false] at h
 by_cases h14 : f = 14
 · subst h14
   injection h with h
   subst h
   exact sok_14
 rw [nbeq_ne h14, cond_false] at h
 by_cases h51 : f = 51
 · subst h51
   injection h with h
   subst h
   exact sok_51
 rw [nbeq_ne h51, cond_false] at h
 cases h
theorem call_17 {R : Type} (n base : Nat) : CallOK Try.prog base (evFn (R := R) sm_17 fns FU n) := ev_sound hm0 smok_17 (fun f s h => (smok_17 f s h).2.1) fns_ok n
theorem sok_17 : SummOK Try.prog 17 s_17 := summ_shN (by decide) (fun _ => rfl) (fun _ => rfl) (call_17 1) (by kernel_rfl) run_17
theorem smok_107 : ∀ f s, sm_107 f = some s → SummOK Try.prog f s := by
 intro f s h
 unfold sm_107 at h
 cases h
theorem call_107 {R : Type} (n base : Nat) : CallOK Try.prog base (evFn (R := R) sm_107 fns FU n) := ev_sound hm0 smok_107 (fun f s h => (smok_107 f s h).2.1) fns_ok n
theorem sok_107 : SummOK Try.prog 107 s_107 := summ_shN (by decide) (fun _ => rfl) (fun _ => rfl) (call_107 1) (by kernel_rfl) run_107
theorem smok_108 : ∀ f s, sm_108 f = some s → SummOK Try.prog f s := by
 intro f s h
 unfold sm_108 at h
 cases h
theorem call_108 {R : Type} (n base : Nat) : CallOK Try.prog base (evFn (R := R) sm_108 fns FU n) := ev_sound hm0 smok_108 (fun f s h => (smok_108 f s h).2.1) fns_ok n
theorem sok_108 : SummOK Try.prog 108 s_108 := summ_shN (by decide) (fun _ => rfl) (fun _ => rfl) (call_108 1) (by kernel_rfl) run_108
theorem smok_102 : ∀ f s, sm_102 f = some s → SummOK Try.prog f s := by
 intro f s h
 unfold sm_102 at h
 by_cases h107 : f = 107
 · subst h107
   injection h with h
   subst h
   exact sok_107
 rw [nbeq_ne h107, cond_false] at h
 by_cases h108 : f = 108
 · subst h108
   injection h with h
   subst h
   exact sok_108
 rw [nbeq_ne h108, cond_false] at h
 cases h
theorem call_102 {R : Type} (n base : Nat) : CallOK Try.prog base (evFn (R := R) sm_102 fns FU n) := ev_sound hm0 smok_102 (fun f s h => (smok_102 f s h).2.1) fns_ok n
theorem sok_102 : SummOK Try.prog 102 s_102 := summ_shN (by decide) (fun _ => rfl) (fun _ => rfl) (call_102 1) (by kernel_rfl) run_102
theorem smok_89 : ∀ f s, sm_89 f = some s → SummOK Try.prog f s := by
 intro f s h
 unfold sm_89 at h
 by_cases h102 : f = 102
 · subst h102
   injection h with h
   subst h
   exact sok_102
 rw [nbeq_ne h102, cond_false] at h
 cases h
theorem call_89 {R : Type} (n base : Nat) : CallOK Try.prog base (evFn (R := R) sm_89 fns FU n) := ev_sound hm0 smok_89 (fun f s h => (smok_89 f s h).2.1) fns_ok n
theorem sok_89 : SummOK Try.prog 89 s_89 := summ_sh (fun _ => rfl) (fun _ => rfl) (call_89 1) (by kernel_rfl) run_89
theorem smok_53 : ∀ f s, sm_53 f = some s → SummOK Try.prog f s := by
 intro f s h
 unfold sm_53 at h
 by_cases h89 : f = 89
 · subst h89
   injection h with h
   subst h
   exact sok_89
 rw [nbeq_ne h89, cond_false] at h
 cases h
theorem call_53 {R : Type} (n base : Nat) : CallOK Try.prog base (evFn (R := R) sm_53 fns FU n) := ev_sound hm0 smok_53 (fun f s h => (smok_53 f s h).2.1) fns_ok n
theorem sok_53 : SummOK Try.prog 53 s_53 := summ_sh (fun _ => rfl) (fun _ => rfl) (call_53 1) (by kernel_rfl) run_53
theorem smok_22 : ∀ f s, sm_22 f = some s → SummOK Try.prog f s := by
 intro f s h
 unfold sm_22 at h
 by_cases h41 : f = 41
 · subst h41
   injection h with h
   subst h
   exact sok_41
 rw [nbeq_ne h41, cond_false] at h
 by_cases h53 : f = 53
 · subst h53
   injection h with h
   subst h
   exact sok_53
 rw [nbeq_ne h53, cond_false] at h
 cases h
theorem call_22 {R : Type} (n base : Nat) : CallOK Try.prog base (evFn (R := R) sm_22 fns FU n) := ev_sound hm0 smok_22 (fun f s h => (smok_22 f s h).2.1) fns_ok n
theorem sok_22 : SummOK Try.prog 22 s_22 := summ_sh (fun _ => rfl) (fun _ => rfl) (call_22 1) (by kernel_rfl) run_22
theorem smok_10 : ∀ f s, sm_10 f = some s → SummOK Try.prog f s := by
 intro f s h
 unfold sm_10 at h
 by_cases h14 : f = 14
 · subst h14
   injection h with h
   subst h
   exact sok_14
 rw [nbeq_ne h14, cond_false] at h
 by_cases h17 : f = 17
 · subst h17
   injection h with h
   subst h
   exact sok_17
 rw [nbeq_ne h17, cond_false] at h
 by_cases h22 : f = 22
 · subst h22
   injection h with h
   subst h
   exact sok_22
 rw [nbeq_ne h22, cond_false] at h
 cases h
theorem call_10 {R : Type} (n base : Nat) : CallOK Try.prog base (evFn (R := R) sm_10 fns FU n) := ev_sound hm0 smok_10 (fun f s h => (smok_10 f s h).2.1) fns_ok n
theorem sok_10 : SummOK Try.prog 10 s_10 := summ_shN (by decide) (fun _ => rfl) (fun _ => rfl) (call_10 1) (by kernel_rfl) run_10
theorem smok_11 : ∀ f s, sm_11 f = some s → SummOK Try.prog f s := by
 intro f s h
 unfold sm_11 at h
 cases h
theorem call_11 {R : Type} (n base : Nat) : CallOK Try.prog base (evFn (R := R) sm_11 fns FU n) := ev_sound hm0 smok_11 (fun f s h => (smok_11 f s h).2.1) fns_ok n
theorem sok_11 : SummOK Try.prog 11 s_11 := summ_shN (by decide) (fun _ => rfl) (fun _ => rfl) (call_11 1) (by kernel_rfl) run_11
theorem smok_54 : ∀ f s, sm_54 f = some s → SummOK Try.prog f s := by
 intro f s h
 unfold sm_54 at h
 cases h
theorem call_54 {R : Type} (n base : Nat) : CallOK Try.prog base (evFn (R := R) sm_54 fns FU n) := ev_sound hm0 smok_54 (fun f s h => (smok_54 f s h).2.1) fns_ok n
theorem sok_54 : SummOK Try.prog 54 s_54 := summ_shN (by decide) (fun _ => rfl) (fun _ => rfl) (call_54 1) (by kernel_rfl) run_54
theorem smok_90 : ∀ f s, sm_90 f = some s → SummOK Try.prog f s := by
 intro f s h
 unfold sm_90 at h
 cases h
theorem call_90 {R : Type} (n base : Nat) : CallOK Try.prog base (evFn (R := R) sm_90 fns FU n) := ev_sound hm0 smok_90 (fun f s h => (smok_90 f s h).2.1) fns_ok n
theorem sok_90 : SummOK Try.prog 90 s_90 := summ_shN (by decide) (fun _ => rfl) (fun _ => rfl) (call_90 1) (by kernel_rfl) run_90
theorem smok_55 : ∀ f s, sm_55 f = some s → SummOK Try.prog f s := by
 intro f s h
 unfold sm_55 at h
 by_cases h90 : f = 90
 · subst h90
   injection h with h
   subst h
   exact sok_90
 rw [nbeq_ne h90, cond_false] at h
 cases h
theorem call_55 {R : Type} (n base : Nat) : CallOK Try.prog base (evFn (R := R) sm_55 fns FU n) := ev_sound hm0 smok_55 (fun f s h => (smok_55 f s h).2.1) fns_ok n
theorem sok_55 : SummOK Try.prog 55 s_55 := summ_sh (fun _ => rfl) (fun _ => rfl) (call_55 1) (by kernel_rfl) run_55
theorem smok_23 : ∀ f s, sm_23 f = some s → SummOK Try.prog f s := by
 intro f s h
 unfold sm_23 at h
 by_cases h54 : f = 54
 · subst h54
   injection h with h
   subst h
   exact sok_54
 rw [nbeq_ne h54, cond_false] at h
 by_cases h55 : f = 55
 · subst h55
   injection h with h
   subst h
   exact sok_55
 rw [nbeq_ne h55, cond_false] at h
 cases h
theorem call_23 {R : Type} (n base : Nat) : CallOK Try.prog base (evFn (R := R) sm_23 fns FU n) := ev_sound hm0 smok_23 (fun f s h => (smok_23 f s h).2.1) fns_ok n
theorem sok_23 : SummOK Try.prog 23 s_23 := summ_sh (fun _ => rfl) (fun _ => rfl) (call_23 1) (by kernel_rfl) run_23
theorem smok_24 : ∀ f s, sm_24 f = some s → SummOK Try.prog f s := by
 intro f s h
 unfold sm_24 at h
 cases h
theorem call_24 {R : Type} (n base : Nat) : CallOK Try.prog base (evFn (R := R) sm_24 fns FU n) := ev_sound hm0 smok_24 (fun f s h => (smok_24 f s h).2.1) fns_ok n
theorem sok_24 : SummOK Try.prog 24 s_24 := summ_shN (by decide) (fun _ => rfl) (fun _ => rfl) (call_24 1) (by kernel_rfl) run_24
theorem smok_56 : ∀ f s, sm_56 f = some s → SummOK Try.prog f s := by
 intro f s h
 unfold sm_56 at h
 by_cases h90 : f = 90
 · subst h90
   injection h with h
   subst h
   exact sok_90
 rw [nbeq_ne h90, cond_false] at h
 cases h
theorem call_56 {R : Type} (n base : Nat) : CallOK Try.prog base (evFn (R := R) sm_56 fns FU n) := ev_sound hm0 smok_56 (fun f s h => (smok_56 f s h).2.1) fns_ok n
theorem sok_56 : SummOK Try.prog 56 s_56 := summ_shN (by decide) (fun _ => rfl) (fun _ => rfl) (call_56 1) (by kernel_rfl) run_56
theorem smok_25 : ∀ f s, sm_25 f = some s → SummOK Try.prog f s := by
 intro f s h
 unfold sm_25 at h
 by_cases h54 : f = 54
 · subst h54
   injection h with h
   subst h
   exact sok_54
 rw [nbeq_ne h54, cond_false] at h
 by_cases h56 : f = 56
 · subst h56
   injection h with h
   subst h
   exact sok_56
 rw [nbeq_ne h56, cond_false] at h
 cases h
theorem call_25 {R : Type} (n base : Nat) : CallOK Try.prog base (evFn (R := R) sm_25 fns FU n) := ev_sound hm0 smok_25 (fun f s h => (smok_25 f s h).2.1) fns_ok n
theorem sok_25 : SummOK Try.prog 25 s_25 := summ_shN (by decide) (fun _ => rfl) (fun _ => rfl) (call_25 1) (by kernel_rfl) run_25
theorem smok_48 : ∀ f s, sm_48 f = some s → SummOK Try.prog f s := by
 intro f s h
 unfold sm_48 at h
 cases h
theorem call_48 {R : Type} (n base : Nat) : CallOK Try.prog base (evFn (R := R) sm_48 fns FU n) := ev_sound hm0 smok_48 (fun f s h => (smok_48 f s h).2.1) fns_ok n
theorem sok_48 : SummOK Try.prog 48 s_48 := summ_sh (fun _ => rfl) (fun _ => rfl) (call_48 1) (by kernel_rfl) run_48
theorem smok_57 : ∀ f s, sm_57 f = some s → SummOK Try.prog f s := by
 intro f s h
 unfold sm_57 at h
 cases h
theorem call_57 {R : Type} (n base : Nat) : CallOK Try.prog base (evFn (R := R) sm_57 fns FU n) := ev_sound hm0 smok_57 (fun f s h => (smok_57 f s h).2.1) fns_ok n
theorem sok_57 : SummOK Try.prog 57 s_57 := summ_shN (by decide) (fun _ => rfl) (fun _ => rfl) (call_57 1) (by kernel_rfl) run_57
theorem smok_58 : ∀ f s, sm_58 f = some s → SummOK Try.prog f s := by
 intro f s h
 unfold sm_58 at h
 cases h
theorem call_58 {R : Type} (n base : Nat) : CallOK Try.prog base (evFn (R := R) sm_58 fns FU n) := ev_sound hm0 smok_58 (fun f s h => (smok_58 f s h).2.1) fns_ok n
theorem sok_58 : SummOK Try.prog 58 s_58 := summ_shN (by decide) (fun _ => rfl) (fun _ => rfl) (call_58 1) (by kernel_rfl) run_58
theorem smok_59 : ∀ f s, sm_59 f = some s → SummOK Try.prog f s := by
 intro f s h
 unfold sm_59 at h
 cases h
theorem call_59 {R : Type} (n base : Nat) : CallOK Try.prog base (evFn (R := R) sm_59 fns FU n) := ev_sound hm0 smok_59 (fun f s h => (smok_59 f s h).2.1) fns_ok n
theorem sok_59 : SummOK Try.prog 59 s_59 := summ_sh (fun _ => rfl) (fun _ => rfl) (call_59 1) (by kernel_rfl) run_59
theorem smok_26 : ∀ f s, sm_26 f = some s → SummOK Try.prog f s := by
 intro f s h
 unfold sm_26 at h
 by_cases h25 : f = 25
 · subst h25
   injection h with h
   subst h
   exact sok_25
 rw [nbeq_ne h25, cond_false] at h
 by_cases h48 : f = 48
 · subst h48
   injection h with h
   subst h
   exact sok_48
 rw [nbeq_ne h48, cond_false] at h
 by_cases h57 : f = 57
 · subst h57
   injection h with h
   subst h
   exact sok_57
 rw [nbeq_ne h57, cond_false] at h
 by_cases h58 : f = 58
 · subst h58
   injection h with h
   subst h
   exact sok_58
 rw [nbeq_ne h58, cond_false] at h
 by_cases h59 : f = 59
 · subst h59
   injection h with h
   subst h
   exact sok_59
 rw [nbeq_ne h59, cond_false] at h
 cases h
theorem call_26 {R : Type} (n base : Nat) : CallOK Try.prog base (evFn (R := R) sm_26 fns FU n) := ev_sound hm0 smok_26 (fun f s h => (smok_26 f s h).2.1) fns_ok n
theorem sok_26 : SummOK Try.prog 26 s_26 := summ_sh (fun _ => rfl) (fun _ => rfl) (call_26 1) (by kernel_rfl) run_26
theorem smok_60 : ∀ f s, sm_60 f = some s → SummOK Try.prog f s := by
 intro f s h
 unfold sm_60 at h
 by_cases h12 : f = 12
 · subst h12
   injection h with h
   subst h
   exact sok_12
 rw [nbeq_ne h12, cond_false] at h
 by_cases h13 : f = 13
 · subst h13
   injection h with h
   subst h
   exact sok_13
 rw [nbeq_ne h13, cond_false] at h
 by_cases h46 : f = 46
 · subst h46
   injection h with h
   subst h
   exact sok_46
 rw [nbeq_ne h46, cond_false] at h
 cases h
theorem call_60 {R : Type} (n base : Nat) : CallOK Try.prog base (evFn (R := R) sm_60 fns FU n) := ev_sound hm0 smok_60 (fun f s h => (smok_60 f s h).2.1) fns_ok n
theorem sok_60 : SummOK Try.prog 60 s_60 := summ_shN (by decide) (fun _ => rfl) (fun _ => rfl) (call_60 1) (by kernel_rfl) run_60
theorem smok_27 : ∀ f s, sm_27 f = some s → SummOK Try.prog f s := by
 intro f s h
 unfold sm_27 at h
 by_cases h42 : f = 42
 · subst h42
   injection h with h
   subst h
   exact sok_42
 rw [nbeq_ne h42, cond_false] at h
 by_cases h60 : f = 60
 · subst h60
   injection h with h
   subst h
   exact sok_60
 rw [nbeq_ne h60, cond_false] at h
 by_cases h61 : f = 61
 · subst h61
   injection h with h
   subst h
   exact sok_61
 rw [nbeq_ne h61, cond_false] at h
 cases h
theorem call_27 {R : Type} (n base : Nat) : CallOK Try.prog base (evFn (R := R) sm_27 fns FU n) := ev_sound hm0 smok_27 (fun f s h => (smok_27 f s h).2.1) fns_ok n
theorem sok_27 : SummOK Try.prog 27 s_27 := summ_sh (fun _ => rfl) (fun _ => rfl) (call_27 1) (by kernel_rfl) run_27
theorem smok_100 : ∀ f s, sm_100 f = some s → SummOK Try.prog f s := by
 intro f s h
 unfold sm_100 at h
 cases h
theorem call_100 {R : Type} (n base : Nat) : CallOK Try.prog base (evFn (R := R) sm_100 fns FU n) := ev_sound hm0 smok_100 (fun f s h => (smok_100 f s h).2.1) fns_ok n
theorem sok_100 : SummOK Try.prog 100 s_100 := summ_sh (fun _ => rfl) (fun _ => rfl) (call_100 1) (by kernel_rfl) run_100
theorem smok_105 : ∀ f s, sm_105 f = some s → SummOK Try.prog f s := by
 intro f s h
 unfold sm_105 at h
 cases h
theorem call_105 {R : Type} (n base : Nat) : CallOK Try.prog base (evFn (R := R) sm_105 fns FU n) := ev_sound hm0 smok_105 (fun f s h => (smok_105 f s h).2.1) fns_ok n
theorem sok_105 : SummOK Try.prog 105 s_105 := summ_shN (by decide) (fun _ => rfl) (fun _ => rfl) (call_105 1) (by kernel_rfl) run_105
theorem smok_106 : ∀ f s, sm_106 f = some s → SummOK Try.prog f s := by
 intro f s h
 unfold sm_106 at h
 cases h
theorem call_106 {R : Type} (n base : Nat) : CallOK Try.prog base (evFn (R := R) sm_106 fns FU n) := ev_sound hm0 smok_106 (fun f s h => (smok_106 f s h).2.1) fns_ok n
theorem sok_106 : SummOK Try.prog 106 s_106 := summ_shN (by decide) (fun _ => rfl) (fun _ => rfl) (call_106 1) (by kernel_rfl) run_106
theorem smok_101 : ∀ f s, sm_101 f = some s → SummOK Try.prog f s := by
 intro f s h
 unfold sm_101 at h
 by_cases h105 : f = 105
 · subst h105
   injection h with h
   subst h
   exact sok_105
 rw [nbeq_ne h105, cond_false] at h
 by_cases h106 : f = 106
 · subst h106
   injection h with h
   subst h
   exact sok_106
 rw [nbeq_ne h106, cond_false] at h
 cases h
theorem call_101 {R : Type} (n base : Nat) : CallOK Try.prog base (evFn (R := R) sm_101 fns FU n) := ev_sound hm0 smok_101 (fun f s h => (smok_101 f s h).2.1) fns_ok n
theorem sok_101 : SummOK Try.prog 101 s_101 := summ_shN (by decide) (fun _ => rfl) (fun _ => rfl) (call_101 1) (by kernel_rfl) run_101
theorem smok_83 : ∀ f s, sm_83 f = some s → SummOK Try.prog f s := by
 intro f s h
 unfold sm_83 at h
 by_cases h100 : f = 100
 · subst h100
   injection h with h
   subst h
   exact sok_100
 rw [nbeq_ne h100, cond_false] at h
 by_cases h101 : f = 101
 · subst h101
   injection h with h
   subst h
   exact sok_101
 rw [nbeq_ne h101, cond_false] at h
 cases h
theorem call_83 {R : Type} (n base : Nat) : CallOK Try.prog base (evFn (R := R) sm_83 fns FU n) := ev_sound hm0 smok_83 (fun f s h => (smok_83 f s h).2.1) fns_ok n
theorem sok_83 : SummOK Try.prog 83 s_83 := summ_shN (by decide) (fun _ => rfl) (fun _ => rfl) (call_83 1) (by kernel_rfl) run_83
theorem smok_49 : ∀ f s, sm_49 f = some s → SummOK Try.prog f s := by
 intro f s h
 unfold sm_49 at h
 by_cases h83 : f = 83
 · subst h83
   injection h with h
   subst h
   exact sok_83
 rw [nbeq_ne h83, cond_false] at h
 cases h
theorem call_49 {R : Type} (n base : Nat) : CallOK Try.prog base (evFn (R := R) sm_49 fns FU n) := ev_sound hm0 smok_49 (fun f s h => (smok_49 f s h).2.1) fns_ok n
theorem sok_49 : SummOK Try.prog 49 s_49 := summ_shN (by decide) (fun _ => rfl) (fun _ => rfl) (call_49 2) (by kernel_rfl) run_49
theorem smok_84 : ∀ f s, sm_84 f = some s → SummOK Try.prog f s := by
 intro f s h
 unfold sm_84 at h
 cases h
theorem call_84 {R : Type} (n base : Nat) : CallOK Try.prog base (evFn (R := R) sm_84 fns FU n) := ev_sound hm0 smok_84 (fun f s h => (smok_84 f s h).2.1) fns_ok n
theorem sok_84 : SummOK Try.prog 84 s_84 := summ_shN (by decide) (fun _ => rfl) (fun _ => rfl) (call_84 1) (by kernel_rfl) run_84
theorem smok_85 : ∀ f s, sm_85 f = some s → SummOK Try.prog f s := by
 intro f s h
 unfold sm_85 at h
 cases h
theorem call_85 {R : Type} (n base : Nat) : CallOK Try.prog base (evFn (R := R) sm_85 fns FU n) := ev_sound hm0 smok_85 (fun f s h => (smok_85 f s h).2.1) fns_ok n
theorem sok_85 : SummOK Try.prog 85 s_85 := summ_sh (fun _ => rfl) (fun _ => rfl) (call_85 1) (by kernel_rfl) run_85
theorem smok_86 : ∀ f s, sm_86 f = some s → SummOK Try.prog f s := by
 intro f s h
 unfold sm_86 at h
 by_cases h83 : f = 83
 · subst h83
   injection h with h
   subst h
   exact sok_83
 rw [nbeq_ne h83, cond_false] at h
 cases h
theorem call_86 {R : Type} (n base : Nat) : CallOK Try.prog base (evFn (R := R) sm_86 fns FU n) := ev_sound hm0 smok_86 (fun f s h => (smok_86 f s h).2.1) fns_ok n
theorem sok_86 : SummOK Try.prog 86 s_86 := summ_shN (by decide) (fun _ => rfl) (fun _ => rfl) (call_86 1) (by kernel_rfl) run_86
theorem smok_87 : ∀ f s, sm_87 f = some s → SummOK Try.prog f s := by
 intro f s h
 unfold sm_87 at h
 by_cases h83 : f = 83
 · subst h83
   injection h with h
   subst h
   exact sok_83
 rw [nbeq_ne h83, cond_false] at h
 cases h
theorem call_87 {R : Type} (n base : Nat) : CallOK Try.prog base (evFn (R := R) sm_87 fns FU n) := ev_sound hm0 smok_87 (fun f s h => (smok_87 f s h).2.1) fns_ok n
theorem sok_87 : SummOK Try.prog 87 s_87 := summ_shN (by decide) (fun _ => rfl) (fun _ => rfl) (call_87 1) (by kernel_rfl) run_87
theorem smok_88 : ∀ f s, sm_88 f = some s → SummOK Try.prog f s := by
 intro f s h
 unfold sm_88 at h
 by_cases h83 : f = 83
 · subst h83
   injection h with h
   subst h
   exact sok_83
 rw [nbeq_ne h83, cond_false] at h
 cases h
theorem call_88 {R : Type} (n base : Nat) : CallOK Try.prog base (evFn (R := R) sm_88 fns FU n) := ev_sound hm0 smok_88 (fun f s h => (smok_88 f s h).2.1) fns_ok n
theorem sok_88 : SummOK Try.prog 88 s_88 := summ_shN (by decide) (fun _ => rfl) (fun _ => rfl) (call_88 1) (by kernel_rfl) run_88
theorem smok_50 : ∀ f s, sm_50 f = some s → SummOK Try.prog f s := by
 intro f s h
 unfold sm_50 at h
 by_cases h84 : f = 84
 · subst h84
   injection h with h
   subst h
   exact sok_84
 rw [nbeq_ne h84, cond_false] at h
 by_cases h85 : f = 85
 · subst h85
   injection h with h
   subst h
   exact sok_85
 rw [nbeq_ne h85, cond_false] at h
 by_cases h86 : f = 86
 · subst h86
   injection h with h
   subst h
   exact sok_86
 rw [nbeq_ne h86, cond_false] at h
 by_cases h87 : f = 87
 · subst h87
   injection h with h
   subst h
   exact sok_87
 rw [nbeq_ne h87, cond_false] at h
 by_cases h88 : f = 88
 · subst h88
   injection h with h
   subst h
   exact sok_88
 rw [nbeq_ne h88, cond_false] at h
 cases h
theorem call_50 {R : Type} (n base : Nat) : CallOK Try.prog base (evFn (R := R) sm_50 fns FU n) := ev_sound hm0 smok_50 (fun f s h => (smok_50 f s h).2.1) fns_ok n
theorem sok_50 : SummOK Try.prog 50 s_50 := summ_shN (by decide) (fun _ => rfl) (fun _ => rfl) (call_50 1) (by kernel_rfl) run_50
theorem smok_16 : ∀ f s, sm_16 f = some s → SummOK Try.prog f s := by
 intro f s h
 unfold sm_16 at h
 by_cases h26 : f = 26
 · subst h26
   injection h with h
   subst h
   exact sok_26
 rw [nbeq_ne h26, cond_false] at h
 by_cases h48 : f = 48
 · subst h48
   injection h with h
   subst h
   exact sok_48
 rw [nbeq_ne h48, cond_false] at h
 by_cases h49 : f = 49
 · subst h49
   injection h with h
   subst h
   exact sok_49
 rw [nbeq_ne h49, cond_false] at h
 by_cases h50 : f = 50
 · subst h50
   injection h with h
   subst h
   exact sok_50
 rw [nbeq_ne h50, cond_false] at h
 cases h
theorem call_16 {R : Type} (n base : Nat) : CallOK Try.prog base (evFn (R := R) sm_16 fns FU n) := ev_sound hm0 smok_16 (fun f s h => (smok_16 f s h).2.1) fns_ok n
theorem sok_16 : SummOK Try.prog 16 s_16 := summ_shN (by decide) (fun _ => rfl) (fun _ => rfl) (call_16 1) (by kernel_rfl) run_16
theorem smok_28 : ∀ f s, sm_28 f = some s → SummOK Try.prog f s := by
 intro f s h
 unfold sm_28 at h
 by_cases h16 : f = 16
 · subst h16
   injection h with h
   subst h
   exact sok_16
 rw [nbeq_ne h16, cond_false] at h
 by_cases h25 : f = 25
 · subst h25
   injection h with h
   subst h
   exact sok_25
 rw [nbeq_ne h25, cond_false] at h
 by_cases h48 : f = 48
 · subst h48
   injection h with h
   subst h
   exact sok_48
 rw [nbeq_ne h48, cond_false] at h
 by_cases h57 : f = 57
 · subst h57
   injection h with h
   subst h
   exact sok_57
 rw [nbeq_ne h57, cond_false] at h
 cases h
theorem call_28 {R : Type} (n base : Nat) : CallOK Try.prog base (evFn (R := R) sm_28 fns FU n) := ev_sound hm0 smok_28 (fun f s h => (smok_28 f s h).2.1) fns_ok n
theorem sok_28 : SummOK Try.prog 28 s_28 := summ_sh (fun _ => rfl) (fun _ => rfl) (call_28 1) (by kernel_rfl) run_28
theorem smok_62 : ∀ f s, sm_62 f = some s → SummOK Try.prog f s := by
 intro f s h
 unfold sm_62 at h
 cases h
theorem call_62 {R : Type} (n base : Nat) : CallOK Try.prog base (evFn (R := R) sm_62 fns FU n) := ev_sound hm0 smok_62 (fun f s h => (smok_62 f s h).2.1) fns_ok n
theorem sok_62 : SummOK Try.prog 62 s_62 := summ_shN (by decide) (fun _ => rfl) (fun _ => rfl) (call_62 1) (by kernel_rfl) run_62
theorem smok_29 : ∀ f s, sm_29 f = some s → SummOK Try.prog f s := by
 intro f s h
 unfold sm_29 at h
 by_cases h62 : f = 62
 · subst h62
   injection h with h
   subst h
   exact sok_62
 rw [nbeq_ne h62, cond_false] at h
 cases h
theorem call_29 {R : Type} (n base : Nat) : CallOK Try.prog base (evFn (R := R) sm_29 fns FU n) := ev_sound hm0 smok_29 (fun f s h => (smok_29 f s h).2.1) fns_ok n
theorem sok_29 : SummOK Try.prog 29 s_29 := summ_shN (by decide) (fun _ => rfl) (fun _ => rfl) (call_29 1) (by kernel_rfl) run_29
theorem smok_30 : ∀ f s, sm_30 f = some s → SummOK Try.prog f s := by
 intro f s h
 unfold sm_30 at h
 cases h
theorem call_30 {R : Type} (n base : Nat) : CallOK Try.prog base (evFn (R := R) sm_30 fns FU n) := ev_sound hm0 smok_30 (fun f s h => (smok_30 f s h).2.1) fns_ok n
theorem sok_30 : SummOK Try.prog 30 s_30 := summ_shN (by decide) (fun _ => rfl) (fun _ => rfl) (call_30 1) (by kernel_rfl) run_30
theorem smok_5 : ∀ f s, sm_5 f = some s → SummOK Try.prog f s := by
 intro f s h
 unfold sm_5 at h
 by_cases h10 : f = 10
 · subst h10
   injection h with h
   subst h
   exact sok_10
 rw [nbeq_ne h10, cond_false] at h
 by_cases h11 : f = 11
 · subst h11
   injection h with h
   subst h
   exact sok_11
 rw [nbeq_ne h11, cond_false] at h
 by_cases h12 : f = 12
 · subst h12
   injection h with h
   subst h
   exact sok_12
 rw [nbeq_ne h12, cond_false] at h
 by_cases h14 : f = 14
 · subst h14
   injection h with h
   subst h
   exact sok_14
 rw [nbeq_ne h14, cond_false] at h
 by_cases h22 : f = 22
 · subst h22
   injection h with h
   subst h
   exact sok_22
 rw [nbeq_ne h22, cond_false] at h
 by_cases h23 : f = 23
 · subst h23
   injection h with h
   subst h
   exact sok_23
 rw [nbeq_ne h23, cond_false] at h
 by_cases h24 : f = 24
 · subst h24
   injection h with h
   subst h
   exact sok_24
 rw [nbeq_ne h24, cond_false] at h
 by_cases h25 : f = 25
 · subst h25
   injection h with h
   subst h
   exact sok_25
 rw [nbeq_ne h25, cond_false] at h
 by_cases h26 : f = 26
 · subst h26
   injection h with h
   subst h
   exact sok_26
 rw [nbeq_ne h26, cond_false] at h
 by_cases h27 : f = 27
 · subst h27
   injection h with h
   subst h
   exact sok_27
 rw [nbeq_ne h27, cond_false] at h
 by_cases h28 : f = 28
 · subst h28
   injection h with h
   subst h
   exact sok_28
 rw [nbeq_ne h28, cond_false] at h
 by_cases h29 : f = 29
 · subst h29
   injection h with h
   subst h
   exact sok_29
 rw [nbeq_ne h29, cond_false] at h
 by_cases h30 : f = 30
 · subst h30
   injection h with h
   subst h
   exact sok_30
 rw [nbeq_ne h30, cond_false] at h
 cases h
theorem call_5 {R : Type} (n base : Nat) : CallOK Try.prog base (evFn (R := R) sm_5 fns FU n) := ev_sound hm0 smok_5 (fun f s h => (smok_5 f s h).2.1) fns_ok n
end Go.Ev
