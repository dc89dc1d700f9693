/- Helpers: functions of the program as Lean functions, and what they compute. No condition. -/
import Derived.Test.YtfofdehkgkjbbaaE6P2
import Derived.Test.YtfofdehkgkjbbaaG6P0
import Derived.Test.YtfofdehkgkjbbaaG6P2
import Derived.Test.YtfofdehkgkjbbaaProg
import Derived.Test.YtfofdehkgkjbbaaG6P1
set_option maxRecDepth 10000
set_option linter.unusedVariables false
set_option linter.unusedSimpArgs false
open Go.IntKind (wrap i64 i32 i16 i8 u64 u32 u16 u8)
open List (getD length take drop replicate)
open Int (toNat)
open Go.Ev.Sp
namespace Go.Ev
open Go
set_option maxRecDepth 100000
set_option maxHeartbeats 4000000
set_option linter.unusedVariables false
noncomputable section
noncomputable def sm_86 : Nat → Option Summ := fun f => bif Nat.beq f 83 then some s_83 else none
noncomputable def T_86_0 (p0 p1 : Int) (p2 p3 : List Int) : St := St.mk ([jk, jk, CV.int i64 p0, CV.ptr 0 [], jk, jk, CV.ptr 1 [], CV.int i64 p1] ++ (jl 13)) [Blk.mem (CV.pure (Ty.arr 32 (Ty.int u8)) p2), Blk.mem (CV.pure (Ty.arr 32 (Ty.int u8)) p3)] 0
noncomputable def X_86_0_0 (p2 p3 : List Int) : St := St.mk ([jk, jk, jk, CV.ptr 0 [], jk, jk, CV.ptr 1 []] ++ (jl 14)) [Blk.mem (CV.pure (Ty.arr 32 (Ty.int u8)) p2), Blk.mem (CV.pure (Ty.arr 32 (Ty.int u8)) p3)] 0
inductive Sp.E_86_0 where
 | e0 (p2 p3 : List Int)
noncomputable def Sp.B_86_0 {R : Type} (r : Option E_86_0) (k0 : List Int → List Int → Option R) : Option R := match r with
 | none => none
 | some (.e0 p2 p3) => k0 p2 p3
noncomputable def Sp.L_86_0 : Nat → Int → Int → List Int → List Int → Option E_86_0
 | 0, _, _, _, _ => none
 | m + 1, p0, p1, p2, p3 => bif decide (p1 < p0) then gd (room (1 + length (take 32 (drop 0 p2))) 1) (gd (p_83 ([wrap u8 p1] ++ take 32 (drop 0 p2))) (L_86_0 m p0 (wrap i64 (p1 + 1)) ((v_83 ([wrap u8 p1] ++ take 32 (drop 0 p2))).1) p3)) else some (E_86_0.e0 p2 p3)
noncomputable def G_86_0 {R : Type} (p0 p1 : Int) (p2 p3 : List Int) (k : Ex → St → Option R) : Option R := B_86_0 (L_86_0 FU p0 p1 p2 p3) (fun p2 p3 => k (Ex.exit 0) (X_86_0_0 p2 p3))
noncomputable def o_86_0 {R : Type} (G : Int → Int → List Int → List Int → (Ex → St → Option R) → Option R) : St → (Ex → St → Option R) → Option R := fun T k => match T.sl.getD 2 .junk, T.sl.getD 3 .junk, T.sl.getD 6 .junk, T.sl.getD 7 .junk, T.hp with
 | CV.int i64 p0, CV.ptr 0 [], CV.ptr 1 [], CV.int i64 p1, ((Blk.mem (CV.pure (Ty.arr 32 (Ty.int u8)) p2)) :: (Blk.mem (CV.pure (Ty.arr 32 (Ty.int u8)) p3)) :: []) => gd (shapeOK T 21 [2, 3, 6, 7] 0) (G p0 p1 p2 p3 k)
 | _, _, _, _, _ => none
theorem o_86_0_inv {R : Type} {G : Int → Int → List Int → List Int → (Ex → St → Option R) → Option R} {T : St} {k : Ex → St → Option R} {r : R} (h : o_86_0 G T k = some r) : ∃ p0 p1 p2 p3, T = T_86_0 p0 p1 p2 p3 ∧ G p0 p1 p2 p3 k = some r := by
 unfold o_86_0 at h
 split at h
 · obtain ⟨hs, h'⟩ := gd_some h
   refine ⟨_, _, _, _, (st_of (asg := [(2, _), (3, _), (6, _), (7, _)]) hs ⟨by assumption, by assumption, by assumption, by assumption, trivial⟩ (by assumption)).trans ?_, h'⟩
   kernel_rfl
 · cases h
noncomputable def O_86_86_0 {R : Type} : St → (Ex → St → Option R) → Option R := fun T k => o_86_0 G_86_0 T k
theorem body_86_0 {R : Type} (K0 : St → Option R) (K1 : Ex → St → Option R) (p0 p1 : Int) (p2 p3 : List Int) : evLB (evCodeL sm_86 FU (ovr noO (evFn sm_86 fns FU 0)) .nil ir86_b0) (St.norm ir86_v0) (T_86_0 p0 p1 p2 p3) K0 K1 =
 bif decide (p1 < p0) then gd (room (1 + length (take 32 (drop 0 p2))) 1) (gd (p_83 ([wrap u8 p1] ++ take 32 (drop 0 p2))) (K0 (T_86_0 p0 (wrap i64 (p1 + 1)) ((v_83 ([wrap u8 p1] ++ take 32 (drop 0 p2))).1) p3))) else K1 (Ex.exit 0) (X_86_0_0 p2 p3) := by kernel_rfl
theorem Bgd_86_0 {R : Type} {c : Bool} {x : Option R} {y : Option E_86_0} {k0 : List Int → List Int → Option R} (h : x = B_86_0 y k0) : gd c x = B_86_0 (gd c y) k0 := by cases c; rfl; exact h
theorem Bcond_86_0 {R : Type} {c : Bool} {x x' : Option R} {y y' : Option E_86_0} {k0 : List Int → List Int → Option R} (h : x = B_86_0 y k0) (h' : x' = B_86_0 y' k0) : (bif c then x else x') = B_86_0 (bif c then y else y') k0 := by cases c; exact h'; exact h
theorem loop_86_0 {R : Type} (k : Ex → St → Option R) : ∀ (m : Nat) (p0 : Int) (p1 : Int) (p2 : List Int) (p3 : List Int), evLoopN (evCodeL sm_86 FU (ovr noO (evFn sm_86 fns FU 0)) .nil ir86_b0) (St.norm ir86_v0) m (T_86_0 p0 p1 p2 p3) k = B_86_0 (L_86_0 m p0 p1 p2 p3) (fun p2 p3 => k (Ex.exit (0 : Nat)) (X_86_0_0 p2 p3))
 | 0, _, _, _, _ => rfl
 | m + 1, p0, p1, p2, p3 => by
   rw [evLoopN_succ, body_86_0, L_86_0]
   repeat' first | apply Bgd_86_0 | apply Bcond_86_0 | exact loop_86_0 k m _ _ _ _ | rfl
theorem ok_86_0 {R : Type} (T : St) (k : Ex → St → Option R) (r : R) (h0 : o_86_0 G_86_0 T k = some r) : evLoopN (evCode sm_86 FU (evFn sm_86 fns FU 0) ir86_b0) (St.norm ir86_v0) FU T k = some r := by
 obtain ⟨p0, p1, p2, p3, rfl, h⟩ := o_86_0_inv h0
 refine evLoopN_L (t := .nil) noO_ok trivial _ _ _ _ ?_
 rw [loop_86_0]
 exact h
theorem OK_86_86_0 {R : Type} (T : St) (k : Ex → St → Option R) (r : R) (h : O_86_86_0 T k = some r) : evLoopN (evCode sm_86 FU (evFn sm_86 fns FU 0) ir86_b0) (St.norm ir86_v0) FU T k = some r := ok_86_0 T k r h
noncomputable def F_86 (a0 : (List Int)) (a1 a2 : Int) : Option ((List Int) × Unit) :=
 B_86_0 (L_86_0 4611686018427387904 a2 a1 a0 (replicate 32 (0 :Int))) fun y2 y3 => some (y2, PUnit.unit)
theorem fn_86 (a0 : (List Int)) (a1 a2 : Int) : evFnL sm_86 FU (ovr noO (evFn sm_86 fns FU 0)) (ir86_t O_86_86_0) ir86 (ofH [(.arr 32 (.int .u8)), (.int .i64), (.int .i64)] (a0, a1, a2, ())) [] (pureK [(.arr 32 (.int .u8))]) = F_86 a0 a1 a2 := by kernel_rfl
noncomputable def Sp.p_86 (a0 : (List Int)) (a1 a2 : Int) : Bool := (F_86 a0 a1 a2).isSome
noncomputable def Sp.v_86 (a0 : (List Int)) (a1 a2 : Int) : (List Int) × Unit := (F_86 a0 a1 a2).getD (dfH [(.arr 32 (.int .u8))])
noncomputable def s_86 : Summ := shN [(.arr 32 (.int .u8)), (.int .i64), (.int .i64)] [(.arr 32 (.int .u8))] (fun x => p_86 x.1 x.2.1 x.2.2.1) (fun x => v_86 x.1 x.2.1 x.2.2.1)
theorem pv_86 (a0 : (List Int)) (a1 a2 : Int) {y : (List Int) × Unit} (h : F_86 a0 a1 a2 = some y) : p_86 a0 a1 a2 = true ∧ v_86 a0 a1 a2 = y := ⟨by rw [p_86, h]; rfl, by rw [v_86, h]; rfl⟩
theorem run_86 (x : HDen [(.arr 32 (.int .u8)), (.int .i64), (.int .i64)]) (y : HDen [(.arr 32 (.int .u8))]) (h : F_86 x.1 x.2.1 x.2.2.1 = some y) : evFn sm_86 fns FU 1 86 (ofH [(.arr 32 (.int .u8)), (.int .i64), (.int .i64)] x) [] (pureK [(.arr 32 (.int .u8))]) = some y :=
 evFnL_sound (fn := ir86) (t := (ir86_t O_86_86_0)) (o := noO) rfl noO_ok (ir86_tok (fun T k r => OK_86_86_0 T k r)) ((fn_86 _ _ _).trans h)
end
noncomputable section
noncomputable def sm_87 : Nat → Option Summ := fun f => bif Nat.beq f 83 then some s_83 else none
noncomputable def T_87_0 (p0 : List (List Int)) (p1 : Int) (p2 p3 : List Int) : St := St.mk ([CV.pure (Ty.slice (Ty.arr 32 (Ty.int u8))) p0, jk, CV.ptr 0 [], CV.whole 1, CV.int i64 p1] ++ (jl 14)) [Blk.mem (CV.pure (Ty.arr 32 (Ty.int u8)) p2), Blk.vec 5 (Ty.int u8) p3] 0
noncomputable def X_87_0_0 (p2 p3 : List Int) : St := St.mk ([jk, jk, CV.ptr 0 [], CV.whole 1] ++ (jl 15)) [Blk.mem (CV.pure (Ty.arr 32 (Ty.int u8)) p2), Blk.vec 5 (Ty.int u8) p3] 0
inductive Sp.E_87_0 where
 | e0 (p2 p3 : List Int)
noncomputable def Sp.B_87_0 {R : Type} (r : Option E_87_0) (k0 : List Int → List Int → Option R) : Option R := match r with
 | none => none
 | some (.e0 p2 p3) => k0 p2 p3
noncomputable def Sp.L_87_0 : Nat → List (List Int) → Int → List Int → List Int → Option E_87_0
 | 0, _, _, _, _ => none
 | m + 1, p0, p1, p2, p3 => bif decide (p1 < (↑(length p0) : Int)) then gd (inB p1 (length p0)) (gd (room (length p3 + length (take 32 (drop 0 (getD p0 (toNat p1) (Ty.dflt (Ty.arr 32 (Ty.int u8))))))) 1) (L_87_0 m p0 (wrap i64 (p1 + 1)) p2 (p3 ++ take 32 (drop 0 (getD p0 (toNat p1) (Ty.dflt (Ty.arr 32 (Ty.int u8)))))))) else some (E_87_0.e0 p2 p3)
noncomputable def G_87_0 {R : Type} (p0 : List (List Int)) (p1 : Int) (p2 p3 : List Int) (k : Ex → St → Option R) : Option R := B_87_0 (L_87_0 FU p0 p1 p2 p3) (fun p2 p3 => k (Ex.exit 0) (X_87_0_0 p2 p3))
noncomputable def o_87_0 {R : Type} (G : List (List Int) → Int → List Int → List Int → (Ex → St → Option R) → Option R) : St → (Ex → St → Option R) → Option R := fun T k => match T.sl.getD 0 .junk, T.sl.getD 2 .junk, T.sl.getD 3 .junk, T.sl.getD 4 .junk, T.hp with
 | CV.pure (Ty.slice (Ty.arr 32 (Ty.int u8))) p0, CV.ptr 0 [], CV.whole 1, CV.int i64 p1, ((Blk.mem (CV.pure (Ty.arr 32 (Ty.int u8)) p2)) :: (Blk.vec 5 (Ty.int u8) p3) :: []) => gd (shapeOK T 19 [0, 2, 3, 4] 0) (G p0 p1 p2 p3 k)
 | _, _, _, _, _ => none
theorem o_87_0_inv {R : Type} {G : List (List Int) → Int → List Int → List Int → (Ex → St → Option R) → Option R} {T : St} {k : Ex → St → Option R} {r : R} (h : o_87_0 G T k = some r) : ∃ p0 p1 p2 p3, T = T_87_0 p0 p1 p2 p3 ∧ G p0 p1 p2 p3 k = some r := by
 unfold o_87_0 at h
 split at h
 · obtain ⟨hs, h'⟩ := gd_some h
   refine ⟨_, _, _, _, (st_of (asg := [(0, _), (2, _), (3, _), (4, _)]) hs ⟨by assumption, by assumption, by assumption, by assumption, trivial⟩ (by assumption)).trans ?_, h'⟩
   kernel_rfl
 · cases h
noncomputable def O_87_87_0 {R : Type} : St → (Ex → St → Option R) → Option R := fun T k => o_87_0 G_87_0 T k
theorem body_87_0 {R : Type} (K0 : St → Option R) (K1 : Ex → St → Option R) (p0 : List (List Int)) (p1 : Int) (p2 p3 : List Int) : evLB (evCodeL sm_87 FU (ovr noO (evFn sm_87 fns FU 0)) .nil ir87_b0) (St.norm ir87_v0) (T_87_0 p0 p1 p2 p3) K0 K1 =
 bif decide (p1 < (↑(length p0) : Int)) then gd (inB p1 (length p0)) (gd (room (length p3 + length (take 32 (drop 0 (getD p0 (toNat p1) (Ty.dflt (Ty.arr 32 (Ty.int u8))))))) 1) (K0 (T_87_0 p0 (wrap i64 (p1 + 1)) p2 (p3 ++ take 32 (drop 0 (getD p0 (toNat p1) (Ty.dflt (Ty.arr 32 (Ty.int u8))))))))) else K1 (Ex.exit 0) (X_87_0_0 p2 p3) := by kernel_rfl
theorem Bgd_87_0 {R : Type} {c : Bool} {x : Option R} {y : Option E_87_0} {k0 : List Int → List Int → Option R} (h : x = B_87_0 y k0) : gd c x = B_87_0 (gd c y) k0 := by cases c; rfl; exact h
theorem Bcond_87_0 {R : Type} {c : Bool} {x x' : Option R} {y y' : Option E_87_0} {k0 : List Int → List Int → Option R} (h : x = B_87_0 y k0) (h' : x' = B_87_0 y' k0) : (bif c then x else x') = B_87_0 (bif c then y else y') k0 := by cases c; exact h'; exact h
theorem loop_87_0 {R : Type} (k : Ex → St → Option R) : ∀ (m : Nat) (p0 : List (List Int)) (p1 : Int) (p2 : List Int) (p3 : List Int), evLoopN (evCodeL sm_87 FU (ovr noO (evFn sm_87 fns FU 0)) .nil ir87_b0) (St.norm ir87_v0) m (T_87_0 p0 p1 p2 p3) k = B_87_0 (L_87_0 m p0 p1 p2 p3) (fun p2 p3 => k (Ex.exit (0 : Nat)) (X_87_0_0 p2 p3))
 | 0, _, _, _, _ => rfl
 | m + 1, p0, p1, p2, p3 => by
   rw [evLoopN_succ, body_87_0, L_87_0]
   repeat' first | apply Bgd_87_0 | apply Bcond_87_0 | exact loop_87_0 k m _ _ _ _ | rfl
theorem ok_87_0 {R : Type} (T : St) (k : Ex → St → Option R) (r : R) (h0 : o_87_0 G_87_0 T k = some r) : evLoopN (evCode sm_87 FU (evFn sm_87 fns FU 0) ir87_b0) (St.norm ir87_v0) FU T k = some r := by
 obtain ⟨p0, p1, p2, p3, rfl, h⟩ := o_87_0_inv h0
 refine evLoopN_L (t := .nil) noO_ok trivial _ _ _ _ ?_
 rw [loop_87_0]
 exact h
theorem OK_87_87_0 {R : Type} (T : St) (k : Ex → St → Option R) (r : R) (h : O_87_87_0 T k = some r) : evLoopN (evCode sm_87 FU (evFn sm_87 fns FU 0) ir87_b0) (St.norm ir87_v0) FU T k = some r := ok_87_0 T k r h
noncomputable def F_87 (a0 : (List (List Int))) : Option ((List Int) × Unit) :=
 B_87_0 (L_87_0 4611686018427387904 a0 0 (replicate 32 (0 :Int)) []) fun y2 y3 => gd (p_83 y3) (some ((v_83 y3).1, PUnit.unit))
theorem fn_87 (a0 : (List (List Int))) : evFnL sm_87 FU (ovr noO (evFn sm_87 fns FU 0)) (ir87_t O_87_87_0) ir87 (ofH [(.slice (.arr 32 (.int .u8)))] (a0, ())) [] (pureK [(.arr 32 (.int .u8))]) = F_87 a0 := by kernel_rfl
noncomputable def Sp.p_87 (a0 : (List (List Int))) : Bool := (F_87 a0).isSome
noncomputable def Sp.v_87 (a0 : (List (List Int))) : (List Int) × Unit := (F_87 a0).getD (dfH [(.arr 32 (.int .u8))])
noncomputable def s_87 : Summ := shN [(.slice (.arr 32 (.int .u8)))] [(.arr 32 (.int .u8))] (fun x => p_87 x.1) (fun x => v_87 x.1)
theorem pv_87 (a0 : (List (List Int))) {y : (List Int) × Unit} (h : F_87 a0 = some y) : p_87 a0 = true ∧ v_87 a0 = y := ⟨by rw [p_87, h]; rfl, by rw [v_87, h]; rfl⟩
theorem run_87 (x : HDen [(.slice (.arr 32 (.int .u8)))]) (y : HDen [(.arr 32 (.int .u8))]) (h : F_87 x.1 = some y) : evFn sm_87 fns FU 1 87 (ofH [(.slice (.arr 32 (.int .u8)))] x) [] (pureK [(.arr 32 (.int .u8))]) = some y :=
 evFnL_sound (fn := ir87) (t := (ir87_t O_87_87_0)) (o := noO) rfl noO_ok (ir87_tok (fun T k r => OK_87_87_0 T k r)) ((fn_87 _).trans h)
end
noncomputable section
noncomputable def sm_88 : Nat → Option Summ := fun f => bif Nat.beq f 83 then some s_83 else none
noncomputable def F_88 (a0 a1 : (List Int)) : Option ((List Int) × Unit) :=
 gd (room (1 + length (take 32 (drop 0 a0))) 1) (gd (room (length ([255] ++ take 32 (drop 0 a0)) + length (take 32 (drop 0 a1))) 1) (gd (p_83 ([255] ++ take 32 (drop 0 a0) ++ take 32 (drop 0 a1))) (some ((v_83 ([255] ++ take 32 (drop 0 a0) ++ take 32 (drop 0 a1))).1, PUnit.unit))))
theorem fn_88 (a0 a1 : (List Int)) : evFnL sm_88 FU (ovr noO (evFn sm_88 fns FU 0)) .nil ir88 (ofH [(.arr 32 (.int .u8)), (.arr 32 (.int .u8))] (a0, a1, ())) [] (pureK [(.arr 32 (.int .u8))]) = F_88 a0 a1 := by kernel_rfl
noncomputable def Sp.p_88 (a0 a1 : (List Int)) : Bool := (F_88 a0 a1).isSome
noncomputable def Sp.v_88 (a0 a1 : (List Int)) : (List Int) × Unit := (F_88 a0 a1).getD (dfH [(.arr 32 (.int .u8))])
noncomputable def s_88 : Summ := shN [(.arr 32 (.int .u8)), (.arr 32 (.int .u8))] [(.arr 32 (.int .u8))] (fun x => p_88 x.1 x.2.1) (fun x => v_88 x.1 x.2.1)
theorem pv_88 (a0 a1 : (List Int)) {y : (List Int) × Unit} (h : F_88 a0 a1 = some y) : p_88 a0 a1 = true ∧ v_88 a0 a1 = y := ⟨by rw [p_88, h]; rfl, by rw [v_88, h]; rfl⟩
theorem run_88 (x : HDen [(.arr 32 (.int .u8)), (.arr 32 (.int .u8))]) (y : HDen [(.arr 32 (.int .u8))]) (h : F_88 x.1 x.2.1 = some y) : evFn sm_88 fns FU 1 88 (ofH [(.arr 32 (.int .u8)), (.arr 32 (.int .u8))] x) [] (pureK [(.arr 32 (.int .u8))]) = some y :=
 evFnL_sound (fn := ir88) (t := .nil) (o := noO) rfl noO_ok trivial ((fn_88 _ _).trans h)
end
noncomputable section
abbrev Zt50_0 : Type := Int × List (List Int) × List (List Int) × Unit
abbrev Zy50_1 : Ty := (Ty.arr (32 : Nat) (Ty.int u8))
abbrev Zy50_2 : Ty := (Ty.pair (Ty.int i64) (Ty.pair (Ty.slice (Ty.arr (32 : Nat) (Ty.int u8))) (Ty.pair (Ty.slice (Ty.arr (32 : Nat) (Ty.int u8))) Ty.unit)))
abbrev Zy50_3 : Ty := (.pair (.int .i64) (.pair (.slice (.arr 32 (.int .u8))) (.pair (.slice (.arr 32 (.int .u8))) .unit)))
abbrev Zt50_4 : Type := List (List Int)
noncomputable def sm_50 : Nat → Option Summ := fun f => bif Nat.beq f 84 then some s_84 else bif Nat.beq f 85 then some s_85 else bif Nat.beq f 86 then some s_86 else bif Nat.beq f 87 then some s_87 else bif Nat.beq f 88 then some s_88 else none
noncomputable def T_50_0 (p0 : List Int) (p1 : Int) (p2 : List Int) (p3 : Zt50_0) (p4 : Zt50_4) : St := St.mk ([jk, jk, jk, CV.ptr 0 [], jk, CV.ptr 1 [], jk, CV.pure (Ty.slice (Ty.int i64)) p0, CV.whole 2, CV.int i64 p1] ++ (jl 60)) [Blk.mem (CV.pure Zy50_1 p2), Blk.mem (CV.pure Zy50_2 p3), Blk.vec 27 Zy50_1 p4] 0
noncomputable def X_50_0_0 (p2 : List Int) (p3 : Zt50_0) (p4 : Zt50_4) : St := St.mk ([jk, jk, jk, CV.ptr 0 [], jk, CV.ptr 1 [], jk, jk, CV.whole 2] ++ (jl 61)) [Blk.mem (CV.pure Zy50_1 p2), Blk.mem (CV.pure Zy50_2 p3), Blk.vec 27 Zy50_1 p4] 0
inductive Sp.E_50_0 where
 | e0 (p2 : List Int) (p3 : Zt50_0) (p4 : Zt50_4)
noncomputable def Sp.B_50_0 {R : Type} (r : Option E_50_0) (k0 : List Int → Zt50_0 → Zt50_4 → Option R) : Option R := match r with
 | none => none
 | some (.e0 p2 p3 p4) => k0 p2 p3 p4
noncomputable def Sp.L_50_0 : Nat → List Int → Int → List Int → (Int × List (List Int) × List (List Int) × Unit) → List (List Int) → Option E_50_0
 | 0, _, _, _, _, _ => none
 | m + 1, p0, p1, p2, p3, p4 => bif decide (p1 < 67) then gd (inB p1 (length (p3.2.1))) (gd (inB p1 (length p0)) (gd (p_86 (getD (p3.2.1) (toNat p1) (Ty.dflt (Ty.arr 32 (Ty.int u8)))) (getD p0 (toNat p1) 0) 15) (gd (room (length p4 + 1) 32) (L_50_0 m p0 (wrap i64 (p1 + 1)) p2 p3 (p4 ++ [(v_86 (getD (p3.2.1) (toNat p1) (Ty.dflt (Ty.arr 32 (Ty.int u8)))) (getD p0 (toNat p1) 0) 15).1]))))) else some (E_50_0.e0 p2 p3 p4)
noncomputable def G_50_0 {R : Type} (p0 : List Int) (p1 : Int) (p2 : List Int) (p3 : Zt50_0) (p4 : Zt50_4) (k : Ex → St → Option R) : Option R := B_50_0 (L_50_0 FU p0 p1 p2 p3 p4) (fun p2 p3 p4 => k (Ex.exit 0) (X_50_0_0 p2 p3 p4))
noncomputable def o_50_0 {R : Type} (G : List Int → Int → List Int → Zt50_0 → Zt50_4 → (Ex → St → Option R) → Option R) : St → (Ex → St → Option R) → Option R := fun T k => match T.sl.getD 3 .junk, T.sl.getD 5 .junk, T.sl.getD 7 .junk, T.sl.getD 8 .junk, T.sl.getD 9 .junk, T.hp with
 | CV.ptr 0 [], CV.ptr 1 [], CV.pure (Ty.slice (Ty.int i64)) p0, CV.whole 2, CV.int i64 p1, ((Blk.mem (CV.pure (Ty.arr 32 (Ty.int u8)) p2)) :: (Blk.mem (CV.pure (Ty.pair (Ty.int i64) (Ty.pair (Ty.slice (Ty.arr 32 (Ty.int u8))) (Ty.pair (Ty.slice (Ty.arr 32 (Ty.int u8))) Ty.unit))) p3)) :: (Blk.vec 27 (Ty.arr 32 (Ty.int u8)) p4) :: []) => gd (shapeOK T 70 [3, 5, 7, 8, 9] 0) (G p0 p1 p2 p3 p4 k)
 | _, _, _, _, _, _ => none
theorem o_50_0_inv {R : Type} {G : List Int → Int → List Int → Zt50_0 → Zt50_4 → (Ex → St → Option R) → Option R} {T : St} {k : Ex → St → Option R} {r : R} (h : o_50_0 G T k = some r) : ∃ p0 p1 p2 p3 p4, T = T_50_0 p0 p1 p2 p3 p4 ∧ G p0 p1 p2 p3 p4 k = some r := by
 unfold o_50_0 at h
 split at h
 · obtain ⟨hs, h'⟩ := gd_some h
   refine ⟨_, _, _, _, _, (st_of (asg := [(3, _), (5, _), (7, _), (8, _), (9, _)]) hs ⟨by assumption, by assumption, by assumption, by assumption, by assumption, trivial⟩ (by assumption)).trans ?_, h'⟩
   kernel_rfl
 · cases h
noncomputable def T_50_1 (p0 : List Int) (p1 : Zt50_0) (p2 : List Int) : St := St.mk ([jk, jk, jk, CV.ptr 0 [], jk, CV.ptr 1 [], jk, jk, jk, jk, CV.ptr 2 []] ++ (jl 59)) [Blk.mem (CV.pure Zy50_1 p0), Blk.mem (CV.pure Zy50_2 p1), Blk.mem (CV.pure Zy50_1 p2)] 0
noncomputable def X_50_1_0 (p0 : List Int) (p1 : Zt50_0) (p2 : List Int) : St := St.mk (jl 6 ++ ([CV.bool (Ty.beq Zy50_1 ((v_88 (getD (p1.2.2.1) 1 (Ty.dflt Zy50_1)) p2).1) p0)] ++ (jl 63))) [] 0
noncomputable def X_50_1_1 (p0 : List Int) (p1 : Zt50_0) (p2 : List Int) : St := St.mk (jl 6 ++ ([CV.bool (Ty.beq Zy50_1 ((v_88 p2 (getD (p1.2.2.1) 1 (Ty.dflt Zy50_1))).1) p0)] ++ (jl 63))) [] 0
inductive Sp.E_50_1 where
 | e0 (p0 : List Int) (p1 : Zt50_0) (p2 : List Int)
 | e1 (p0 : List Int) (p1 : Zt50_0) (p2 : List Int)
noncomputable def Sp.B_50_1 {R : Type} (r : Option E_50_1) (k0 k1 : List Int → Zt50_0 → List Int → Option R) : Option R := match r with
 | none => none
 | some (.e0 p0 p1 p2) => k0 p0 p1 p2
 | some (.e1 p0 p1 p2) => k1 p0 p1 p2
noncomputable def Sp.J_50_1 (p0 : List Int) (p1 : Int × List (List Int) × List (List Int) × Unit) (p2 : List Int) : Option E_50_1 :=
 bif wrap i64 (Int.tdiv (p1.1) 2) == 1 then gd (inB 1 (length (p1.2.2.1))) (gd (p_88 (getD (p1.2.2.1) 1 (Ty.dflt (Ty.arr 32 (Ty.int u8)))) p2) (some (E_50_1.e0 p0 p1 p2))) else gd (inB 1 (length (p1.2.2.1))) (gd (p_88 p2 (getD (p1.2.2.1) 1 (Ty.dflt (Ty.arr 32 (Ty.int u8))))) (some (E_50_1.e1 p0 p1 p2)))
noncomputable def G_50_1 {R : Type} (p0 : List Int) (p1 : Zt50_0) (p2 : List Int) (k : Ex → St → Option R) : Option R := B_50_1 (J_50_1 p0 p1 p2) (fun p0 p1 p2 => k Ex.ret (X_50_1_0 p0 p1 p2)) (fun p0 p1 p2 => k Ex.ret (X_50_1_1 p0 p1 p2))
noncomputable def o_50_1 {R : Type} (G : List Int → Zt50_0 → List Int → (Ex → St → Option R) → Option R) : St → (Ex → St → Option R) → Option R := fun T k => match T.sl.getD 3 .junk, T.sl.getD 5 .junk, T.sl.getD 10 .junk, T.hp with
 | CV.ptr 0 [], CV.ptr 1 [], CV.ptr 2 [], ((Blk.mem (CV.pure (Ty.arr 32 (Ty.int u8)) p0)) :: (Blk.mem (CV.pure (Ty.pair (Ty.int i64) (Ty.pair (Ty.slice (Ty.arr 32 (Ty.int u8))) (Ty.pair (Ty.slice (Ty.arr 32 (Ty.int u8))) Ty.unit))) p1)) :: (Blk.mem (CV.pure (Ty.arr 32 (Ty.int u8)) p2)) :: []) => gd (shapeOK T 70 [3, 5, 10] 0) (G p0 p1 p2 k)
 | _, _, _, _ => none
theorem o_50_1_inv {R : Type} {G : List Int → Zt50_0 → List Int → (Ex → St → Option R) → Option R} {T : St} {k : Ex → St → Option R} {r : R} (h : o_50_1 G T k = some r) : ∃ p0 p1 p2, T = T_50_1 p0 p1 p2 ∧ G p0 p1 p2 k = some r := by
 unfold o_50_1 at h
 split at h
 · obtain ⟨hs, h'⟩ := gd_some h
   refine ⟨_, _, _, (st_of (asg := [(3, _), (5, _), (10, _)]) hs ⟨by assumption, by assumption, by assumption, trivial⟩ (by assumption)).trans ?_, h'⟩
   kernel_rfl
 · cases h
noncomputable def O_50_50_0 {R : Type} : St → (Ex → St → Option R) → Option R := fun T k => o_50_0 G_50_0 T k
noncomputable def O_50_50_1 {R : Type} : St → (Ex → St → Option R) → Option R := fun T k => o_50_1 G_50_1 T k
theorem body_50_0 {R : Type} (K0 : St → Option R) (K1 : Ex → St → Option R) (p0 : List Int) (p1 : Int) (p2 : List Int) (p3 : Zt50_0) (p4 : Zt50_4) : evLB (evCodeL sm_50 FU (ovr noO (evFn sm_50 fns FU 0)) .nil ir50_b0) (St.norm ir50_v0) (T_50_0 p0 p1 p2 p3 p4) K0 K1 =
 bif decide (p1 < 67) then gd (inB p1 (length (p3.2.1))) (gd (inB p1 (length p0)) (gd (p_86 (getD (p3.2.1) (toNat p1) (Ty.dflt Zy50_1)) (getD p0 (toNat p1) 0) 15) (gd (room (length p4 + 1) 32) (K0 (T_50_0 p0 (wrap i64 (p1 + 1)) p2 p3 (p4 ++ [(v_86 (getD (p3.2.1) (toNat p1) (Ty.dflt Zy50_1)) (getD p0 (toNat p1) 0) 15).1])))))) else K1 (Ex.exit 0) (X_50_0_0 p2 p3 p4) := by kernel_rfl
theorem Bgd_50_0 {R : Type} {c : Bool} {x : Option R} {y : Option E_50_0} {k0 : List Int → Zt50_0 → Zt50_4 → Option R} (h : x = B_50_0 y k0) : gd c x = B_50_0 (gd c y) k0 := by cases c; rfl; exact h
theorem Bcond_50_0 {R : Type} {c : Bool} {x x' : Option R} {y y' : Option E_50_0} {k0 : List Int → Zt50_0 → Zt50_4 → Option R} (h : x = B_50_0 y k0) (h' : x' = B_50_0 y' k0) : (bif c then x else x') = B_50_0 (bif c then y else y') k0 := by cases c; exact h'; exact h
theorem loop_50_0 {R : Type} (k : Ex → St → Option R) : ∀ (m : Nat) (p0 : List Int) (p1 : Int) (p2 : List Int) (p3 : Zt50_0) (p4 : Zt50_4), evLoopN (evCodeL sm_50 FU (ovr noO (evFn sm_50 fns FU 0)) .nil ir50_b0) (St.norm ir50_v0) m (T_50_0 p0 p1 p2 p3 p4) k = B_50_0 (L_50_0 m p0 p1 p2 p3 p4) (fun p2 p3 p4 => k (Ex.exit (0 : Nat)) (X_50_0_0 p2 p3 p4))
 | 0, _, _, _, _, _ => rfl
 | m + 1, p0, p1, p2, p3, p4 => by
   rw [evLoopN_succ, body_50_0, L_50_0]
   repeat' first | apply Bgd_50_0 | apply Bcond_50_0 | exact loop_50_0 k m _ _ _ _ _ | rfl
theorem ok_50_0 {R : Type} (T : St) (k : Ex → St → Option R) (r : R) (h0 : o_50_0 G_50_0 T k = some r) : evLoopN (evCode sm_50 FU (evFn sm_50 fns FU 0) ir50_b0) (St.norm ir50_v0) FU T k = some r := by
 obtain ⟨p0, p1, p2, p3, p4, rfl, h⟩ := o_50_0_inv h0
 refine evLoopN_L (t := .nil) noO_ok trivial _ _ _ _ ?_
 rw [loop_50_0]
 exact h
theorem OK_50_50_0 {R : Type} (T : St) (k : Ex → St → Option R) (r : R) (h : O_50_50_0 T k = some r) : evLoopN (evCode sm_50 FU (evFn sm_50 fns FU 0) ir50_b0) (St.norm ir50_v0) FU T k = some r := ok_50_0 T k r h
theorem body_50_1 {R : Type} (K1 : Ex → St → Option R) (p0 : List Int) (p1 : Zt50_0) (p2 : List Int) : evJ (evCodeL sm_50 FU (ovr noO (evFn sm_50 fns FU 0)) .nil ir50_b1) (T_50_1 p0 p1 p2) K1 =
 bif wrap i64 (Int.tdiv (p1.1) 2) == 1 then gd (inB 1 (length (p1.2.2.1))) (gd (p_88 (getD (p1.2.2.1) 1 (Ty.dflt Zy50_1)) p2) (K1 Ex.ret (X_50_1_0 p0 p1 p2))) else gd (inB 1 (length (p1.2.2.1))) (gd (p_88 p2 (getD (p1.2.2.1) 1 (Ty.dflt Zy50_1))) (K1 Ex.ret (X_50_1_1 p0 p1 p2))) := by kernel_rfl
theorem Bgd_50_1 {R : Type} {c : Bool} {x : Option R} {y : Option E_50_1} {k0 : List Int → Zt50_0 → List Int → Option R} {k1 : List Int → Zt50_0 → List Int → Option R} (h : x = B_50_1 y k0 k1) : gd c x = B_50_1 (gd c y) k0 k1 := by cases c; rfl; exact h
theorem Bcond_50_1 {R : Type} {c : Bool} {x x' : Option R} {y y' : Option E_50_1} {k0 : List Int → Zt50_0 → List Int → Option R} {k1 : List Int → Zt50_0 → List Int → Option R} (h : x = B_50_1 y k0 k1) (h' : x' = B_50_1 y' k0 k1) : (bif c then x else x') = B_50_1 (bif c then y else y') k0 k1 := by cases c; exact h'; exact h
theorem loop_50_1 {R : Type} (k : Ex → St → Option R) (p0 : List Int) (p1 : Zt50_0) (p2 : List Int) : evJ (evCodeL sm_50 FU (ovr noO (evFn sm_50 fns FU 0)) .nil ir50_b1) (T_50_1 p0 p1 p2) k = B_50_1 (J_50_1 p0 p1 p2) (fun p0 p1 p2 => k Ex.ret (X_50_1_0 p0 p1 p2)) (fun p0 p1 p2 => k Ex.ret (X_50_1_1 p0 p1 p2)) := by
 rw [body_50_1, J_50_1]
 repeat' first | apply Bgd_50_1 | apply Bcond_50_1 | rfl
theorem ok_50_1 {R : Type} (T : St) (k : Ex → St → Option R) (r : R) (h0 : o_50_1 G_50_1 T k = some r) : evCode sm_50 FU (evFn sm_50 fns FU 0) ir50_b1 T k = some r := by
 obtain ⟨p0, p1, p2, rfl, h⟩ := o_50_1_inv h0
 refine bodyL_sound (t := .nil) noO_ok trivial (((show ∀ (b : St → (Ex → St → Option R) → Option R) (T : St) (k : Ex → St → Option R), b T k = evJ b T k from fun _ _ _ => rfl) _ _ _).trans ((loop_50_1 k p0 p1 p2).trans h))
theorem OK_50_50_1 {R : Type} (T : St) (k : Ex → St → Option R) (r : R) (h : O_50_50_1 T k = some r) : evCode sm_50 FU (evFn sm_50 fns FU 0) ir50_b1 T k = some r := ok_50_1 T k r h
noncomputable def F_50 (a0 a1 : (List Int)) (a2 : (Int × ((List (List Int)) × ((List (List Int)) × Unit)))) : Option (Bool × Unit) :=
 gd (p_84 a2) (bif !(v_84 a2).1 then some (false, PUnit.unit) else gd (p_85 a1) (B_50_0 (L_50_0 4611686018427387904 ((v_85 a1).1) 0 a0 a2 []) fun y15 y16 y17 => gd (p_87 y17) (bif Int.tmod (y16.1) (2 :Int) == (1 :Int) then gd (inB 0 (length (y16.2.2.1))) (gd (p_88 (getD (y16.2.2.1) 0 (Ty.dflt (Ty.arr 32 (Ty.int u8)))) ((v_87 y17).1)) (B_50_1 (J_50_1 y15 y16 ((v_88 (getD (y16.2.2.1) 0 (Ty.dflt (Ty.arr 32 (Ty.int u8)))) ((v_87 y17).1)).1)) (fun y18 y19 y20 => some (Ty.beq (Ty.arr 32 (Ty.int u8)) ((v_88 (getD (y19.2.2.1) 1 (Ty.dflt (Ty.arr 32 (Ty.int u8)))) y20).1) y18, PUnit.unit)) fun y21 y22 y23 => some (Ty.beq (Ty.arr 32 (Ty.int u8)) ((v_88 y23 (getD (y22.2.2.1) 1 (Ty.dflt (Ty.arr 32 (Ty.int u8))))).1) y21, PUnit.unit))) else gd (inB 0 (length (y16.2.2.1))) (gd (p_88 ((v_87 y17).1) (getD (y16.2.2.1) 0 (Ty.dflt (Ty.arr 32 (Ty.int u8))))) (B_50_1 (J_50_1 y15 y16 ((v_88 ((v_87 y17).1) (getD (y16.2.2.1) 0 (Ty.dflt (Ty.arr 32 (Ty.int u8))))).1)) (fun y24 y25 y26 => some (Ty.beq (Ty.arr 32 (Ty.int u8)) ((v_88 (getD (y25.2.2.1) 1 (Ty.dflt (Ty.arr 32 (Ty.int u8)))) y26).1) y24, PUnit.unit)) fun y27 y28 y29 => some (Ty.beq (Ty.arr 32 (Ty.int u8)) ((v_88 y29 (getD (y28.2.2.1) 1 (Ty.dflt (Ty.arr 32 (Ty.int u8))))).1) y27, PUnit.unit))))))
theorem fn_50 (a0 a1 : (List Int)) (a2 : (Int × ((List (List Int)) × ((List (List Int)) × Unit)))) : evFnL sm_50 FU (ovr noO (evFn sm_50 fns FU 0)) (ir50_t O_50_50_0 O_50_50_1) ir50 (ofH [(.arr 32 (.int .u8)), (.arr 32 (.int .u8)), Zy50_3] (a0, a1, a2, ())) [] (pureK [.bool]) = F_50 a0 a1 a2 := by kernel_rfl
noncomputable def Sp.p_50 (a0 a1 : (List Int)) (a2 : (Int × ((List (List Int)) × ((List (List Int)) × Unit)))) : Bool := (F_50 a0 a1 a2).isSome
noncomputable def Sp.v_50 (a0 a1 : (List Int)) (a2 : (Int × ((List (List Int)) × ((List (List Int)) × Unit)))) : Bool × Unit := (F_50 a0 a1 a2).getD (dfH [.bool])
noncomputable def s_50 : Summ := shN [(.arr 32 (.int .u8)), (.arr 32 (.int .u8)), Zy50_3] [.bool] (fun x => p_50 x.1 x.2.1 x.2.2.1) (fun x => v_50 x.1 x.2.1 x.2.2.1)
theorem pv_50 (a0 a1 : (List Int)) (a2 : (Int × ((List (List Int)) × ((List (List Int)) × Unit)))) {y : Bool × Unit} (h : F_50 a0 a1 a2 = some y) : p_50 a0 a1 a2 = true ∧ v_50 a0 a1 a2 = y := ⟨by rw [p_50, h]; rfl, by rw [v_50, h]; rfl⟩
theorem run_50 (x : HDen [(.arr 32 (.int .u8)), (.arr 32 (.int .u8)), Zy50_3]) (y : HDen [.bool]) (h : F_50 x.1 x.2.1 x.2.2.1 = some y) : evFn sm_50 fns FU 1 50 (ofH [(.arr 32 (.int .u8)), (.arr 32 (.int .u8)), Zy50_3] x) [] (pureK [.bool]) = some y :=
 evFnL_sound (fn := ir50) (t := (ir50_t O_50_50_0 O_50_50_1)) (o := noO) rfl noO_ok (ir50_tok (fun T k r => OK_50_50_0 T k r) (fun T k r => OK_50_50_1 T k r)) ((fn_50 _ _ _).trans h)
end
noncomputable section
noncomputable def sm_16 : Nat → Option Summ := fun f => bif Nat.beq f 26 then some s_26 else bif Nat.beq f 48 then some s_48 else bif Nat.beq f 49 then some s_49 else bif Nat.beq f 50 then some s_50 else none
noncomputable def F_16 (a0 : (((List Int) × ((List Int) × (Int × Unit))) × ((List Int) × Unit))) (a1 : Int) : Option (Bool × Unit) :=
 gd (p_26 a0 a1) (bif !(v_26 a0 a1).2.1 then some (false, PUnit.unit) else gd (p_48 a0 a1) (gd (sl3 564 (wrap i64 (564 + (v_26 a0 a1).1.2.1)) (↑(length ((v_48 a0 a1).1)) : Int)) (gd (p_49 ((v_26 a0 a1).1.1) (take (toNat (wrap i64 (564 + (v_26 a0 a1).1.2.1)) - 564) (drop 564 ((v_48 a0 a1).1)))) (bif Ty.beq (Ty.arr 32 (Ty.int u8)) ((v_49 ((v_26 a0 a1).1.1) (take (toNat (wrap i64 (564 + (v_26 a0 a1).1.2.1)) - 564) (drop 564 ((v_48 a0 a1).1)))).1) ((v_26 a0 a1).1.2.2.1) then gd (p_50 (a0.2.1) ((v_26 a0 a1).1.2.2.1) ((v_26 a0 a1).1.2.2.2.1)) (some ((v_50 (a0.2.1) ((v_26 a0 a1).1.2.2.1) ((v_26 a0 a1).1.2.2.2.1)).1, PUnit.unit)) else some (false, PUnit.unit)))))
theorem fn_16 (a0 : (((List Int) × ((List Int) × (Int × Unit))) × ((List Int) × Unit))) (a1 : Int) : evFnL sm_16 FU (ovr noO (evFn sm_16 fns FU 0)) .nil ir16 (ofH [(.pair (.pair (.slice (.int .u32)) (.pair (.slice (.int .i64)) (.pair (.int .i64) .unit))) (.pair (.arr 32 (.int .u8)) .unit)), (.int .i64)] (a0, a1, ())) [] (pureK [.bool]) = F_16 a0 a1 := by kernel_rfl
noncomputable def Sp.p_16 (a0 : (((List Int) × ((List Int) × (Int × Unit))) × ((List Int) × Unit))) (a1 : Int) : Bool := (F_16 a0 a1).isSome
noncomputable def Sp.v_16 (a0 : (((List Int) × ((List Int) × (Int × Unit))) × ((List Int) × Unit))) (a1 : Int) : Bool × Unit := (F_16 a0 a1).getD (dfH [.bool])
noncomputable def s_16 : Summ := shN [(.pair (.pair (.slice (.int .u32)) (.pair (.slice (.int .i64)) (.pair (.int .i64) .unit))) (.pair (.arr 32 (.int .u8)) .unit)), (.int .i64)] [.bool] (fun x => p_16 x.1 x.2.1) (fun x => v_16 x.1 x.2.1)
theorem run_16 (x : HDen [(.pair (.pair (.slice (.int .u32)) (.pair (.slice (.int .i64)) (.pair (.int .i64) .unit))) (.pair (.arr 32 (.int .u8)) .unit)), (.int .i64)]) (y : HDen [.bool]) (h : F_16 x.1 x.2.1 = some y) : evFn sm_16 fns FU 1 16 (ofH [(.pair (.pair (.slice (.int .u32)) (.pair (.slice (.int .i64)) (.pair (.int .i64) .unit))) (.pair (.arr 32 (.int .u8)) .unit)), (.int .i64)] x) [] (pureK [.bool]) = some y :=
 evFnL_sound (fn := ir16) (t := .nil) (o := noO) rfl noO_ok trivial ((fn_16 _ _).trans h)
end
noncomputable section
noncomputable def sm_52 : Nat → Option Summ := fun f => bif Nat.beq f 16 then some s_16 else bif Nat.beq f 48 then some s_48 else none
noncomputable def F_52 (a0 : (((List Int) × ((List Int) × (Int × Unit))) × ((List Int) × Unit))) (a1 : Int) : Option (Bool × Unit) :=
 gd (p_48 a0 a1) (gd (inB 0 (length ((v_48 a0 a1).1))) (bif getD ((v_48 a0 a1).1) 0 (0 :Int) == (0 :Int) then gd (p_16 a0 a1) (some ((v_16 a0 a1).1, PUnit.unit)) else some (false, PUnit.unit)))
theorem fn_52 (a0 : (((List Int) × ((List Int) × (Int × Unit))) × ((List Int) × Unit))) (a1 : Int) : evFnL sm_52 FU (ovr noO (evFn sm_52 fns FU 0)) .nil ir52 (ofH [(.pair (.pair (.slice (.int .u32)) (.pair (.slice (.int .i64)) (.pair (.int .i64) .unit))) (.pair (.arr 32 (.int .u8)) .unit)), (.int .i64)] (a0, a1, ())) [] (pureK [.bool]) = F_52 a0 a1 := by kernel_rfl
noncomputable def Sp.p_52 (a0 : (((List Int) × ((List Int) × (Int × Unit))) × ((List Int) × Unit))) (a1 : Int) : Bool := (F_52 a0 a1).isSome
noncomputable def Sp.v_52 (a0 : (((List Int) × ((List Int) × (Int × Unit))) × ((List Int) × Unit))) (a1 : Int) : Bool × Unit := (F_52 a0 a1).getD (dfH [.bool])
noncomputable def s_52 : Summ := shN [(.pair (.pair (.slice (.int .u32)) (.pair (.slice (.int .i64)) (.pair (.int .i64) .unit))) (.pair (.arr 32 (.int .u8)) .unit)), (.int .i64)] [.bool] (fun x => p_52 x.1 x.2.1) (fun x => v_52 x.1 x.2.1)
theorem pv_52 (a0 : (((List Int) × ((List Int) × (Int × Unit))) × ((List Int) × Unit))) (a1 : Int) {y : Bool × Unit} (h : F_52 a0 a1 = some y) : p_52 a0 a1 = true ∧ v_52 a0 a1 = y := ⟨by rw [p_52, h]; rfl, by rw [v_52, h]; rfl⟩
theorem run_52 (x : HDen [(.pair (.pair (.slice (.int .u32)) (.pair (.slice (.int .i64)) (.pair (.int .i64) .unit))) (.pair (.arr 32 (.int .u8)) .unit)), (.int .i64)]) (y : HDen [.bool]) (h : F_52 x.1 x.2.1 = some y) : evFn sm_52 fns FU 1 52 (ofH [(.pair (.pair (.slice (.int .u32)) (.pair (.slice (.int .i64)) (.pair (.int .i64) .unit))) (.pair (.arr 32 (.int .u8)) .unit)), (.int .i64)] x) [] (pureK [.bool]) = some y :=
 evFnL_sound (fn := ir52) (t := .nil) (o := noO) rfl noO_ok trivial ((fn_52 _ _).trans h)
end
noncomputable section
noncomputable def sm_18 : Nat → Option Summ := fun f => bif Nat.beq f 25 then some s_25 else bif Nat.beq f 48 then some s_48 else bif Nat.beq f 52 then some s_52 else none
noncomputable def T_18_0 (p0 p1 : Bool) (p2 : (List Int × List Int × Int × Unit) × List Int × Unit) : St := St.mk ([jk, CV.ptr 0 [], jk, jk, CV.bool p0, CV.bool p1] ++ (jl 29)) [Blk.mem (CV.pure (Ty.pair (Ty.pair (Ty.slice (Ty.int u32)) (Ty.pair (Ty.slice (Ty.int i64)) (Ty.pair (Ty.int i64) Ty.unit))) (Ty.pair (Ty.arr 32 (Ty.int u8)) Ty.unit)) p2)] 0
noncomputable def X_18_0_0 : St := St.mk ([jk, jk, CV.int i64 1, CV.int i64 0] ++ (jl 31)) [] 0
noncomputable def X_18_0_1 : St := St.mk ([jk, jk, CV.int i64 0, CV.int i64 0] ++ (jl 31)) [] 0
inductive Sp.E_18_0 where
 | e0
 | e1
noncomputable def Sp.B_18_0 {R : Type} (r : Option E_18_0) (k0 k1 : Option R) : Option R := match r with
 | none => none
 | some (.e0) => k0
 | some (.e1) => k1
noncomputable def Sp.J_18_0 (p0 p1 : Bool) (p2 : (List Int × List Int × Int × Unit) × List Int × Unit) : Option E_18_0 :=
 bif p1 then bif !p0 then some (E_18_0.e0) else gd (p_48 p2 1) (gd (inB 1 (length ((v_48 p2 1).1))) (gd (p_48 p2 0) (gd (inB 1 (length ((v_48 p2 0).1))) (bif decide (getD ((v_48 p2 1).1) 1 0 > getD ((v_48 p2 0).1) 1 0) then some (E_18_0.e0) else some (E_18_0.e1))))) else some (E_18_0.e1)
noncomputable def G_18_0 {R : Type} (p0 p1 : Bool) (p2 : (List Int × List Int × Int × Unit) × List Int × Unit) (k : Ex → St → Option R) : Option R := B_18_0 (J_18_0 p0 p1 p2) (k Ex.ret (X_18_0_0)) (k Ex.ret (X_18_0_1))
noncomputable def o_18_0 {R : Type} (G : Bool → Bool → ((List Int × List Int × Int × Unit) × List Int × Unit) → (Ex → St → Option R) → Option R) : St → (Ex → St → Option R) → Option R := fun T k => match T.sl.getD 1 .junk, T.sl.getD 4 .junk, T.sl.getD 5 .junk, T.hp with
 | CV.ptr 0 [], CV.bool p0, CV.bool p1, ((Blk.mem (CV.pure (Ty.pair (Ty.pair (Ty.slice (Ty.int u32)) (Ty.pair (Ty.slice (Ty.int i64)) (Ty.pair (Ty.int i64) Ty.unit))) (Ty.pair (Ty.arr 32 (Ty.int u8)) Ty.unit)) p2)) :: []) => gd (shapeOK T 35 [1, 4, 5] 0) (G p0 p1 p2 k)
 | _, _, _, _ => none
theorem o_18_0_inv {R : Type} {G : Bool → Bool → ((List Int × List Int × Int × Unit) × List Int × Unit) → (Ex → St → Option R) → Option R} {T : St} {k : Ex → St → Option R} {r : R} (h : o_18_0 G T k = some r) : ∃ p0 p1 p2, T = T_18_0 p0 p1 p2 ∧ G p0 p1 p2 k = some r := by
 unfold o_18_0 at h
 split at h
 · obtain ⟨hs, h'⟩ := gd_some h
   refine ⟨_, _, _, (st_of (asg := [(1, _), (4, _), (5, _)]) hs ⟨by assumption, by assumption, by assumption, trivial⟩ (by assumption)).trans ?_, h'⟩
   kernel_rfl
 · cases h
noncomputable def O_18_18_0 {R : Type} : St → (Ex → St → Option R) → Option R := fun T k => o_18_0 G_18_0 T k
theorem body_18_0 {R : Type} (K1 : Ex → St → Option R) (p0 p1 : Bool) (p2 : (List Int × List Int × Int × Unit) × List Int × Unit) : evJ (evCodeL sm_18 FU (ovr noO (evFn sm_18 fns FU 0)) .nil ir18_b0) (T_18_0 p0 p1 p2) K1 =
 bif p1 then bif !p0 then K1 Ex.ret X_18_0_0 else gd (p_48 p2 1) (gd (inB 1 (length ((v_48 p2 1).1))) (gd (p_48 p2 0) (gd (inB 1 (length ((v_48 p2 0).1))) (bif decide (getD ((v_48 p2 1).1) 1 0 > getD ((v_48 p2 0).1) 1 0) then K1 Ex.ret X_18_0_0 else K1 Ex.ret X_18_0_1)))) else K1 Ex.ret X_18_0_1 := by kernel_rfl
theorem Bgd_18_0 {R : Type} {c : Bool} {x : Option R} {y : Option E_18_0} {k0 : Option R} {k1 : Option R} (h : x = B_18_0 y k0 k1) : gd c x = B_18_0 (gd c y) k0 k1 := by cases c; rfl; exact h
theorem Bcond_18_0 {R : Type} {c : Bool} {x x' : Option R} {y y' : Option E_18_0} {k0 : Option R} {k1 : Option R} (h : x = B_18_0 y k0 k1) (h' : x' = B_18_0 y' k0 k1) : (bif c then x else x') = B_18_0 (bif c then y else y') k0 k1 := by cases c; exact h'; exact h
theorem loop_18_0 {R : Type} (k : Ex → St → Option R) (p0 p1 : Bool) (p2 : (List Int × List Int × Int × Unit) × List Int × Unit) : evJ (evCodeL sm_18 FU (ovr noO (evFn sm_18 fns FU 0)) .nil ir18_b0) (T_18_0 p0 p1 p2) k = B_18_0 (J_18_0 p0 p1 p2) (k Ex.ret (X_18_0_0)) (k Ex.ret (X_18_0_1)) := by
 rw [body_18_0, J_18_0]
 repeat' first | apply Bgd_18_0 | apply Bcond_18_0 | rfl
theorem ok_18_0 {R : Type} (T : St) (k : Ex → St → Option R) (r : R) (h0 : o_18_0 G_18_0 T k = some r) : evCode sm_18 FU (evFn sm_18 fns FU 0) ir18_b0 T k = some r := by
 obtain ⟨p0, p1, p2, rfl, h⟩ := o_18_0_inv h0
 refine bodyL_sound (t := .nil) noO_ok trivial (((show ∀ (b : St → (Ex → St → Option R) → Option R) (T : St) (k : Ex → St → Option R), b T k = evJ b T k from fun _ _ _ => rfl) _ _ _).trans ((loop_18_0 k p0 p1 p2).trans h))
theorem OK_18_18_0 {R : Type} (T : St) (k : Ex → St → Option R) (r : R) (h : O_18_18_0 T k = some r) : evCode sm_18 FU (evFn sm_18 fns FU 0) ir18_b0 T k = some r := ok_18_0 T k r h
noncomputable def F_18 (a0 : (((List Int) × ((List Int) × (Int × Unit))) × ((List Int) × Unit))) : Option (Int × Int × Unit) :=
 gd (p_25 a0) (bif !(v_25 a0).1 then some (0, 1, PUnit.unit) else gd (p_52 a0 0) (gd (p_52 a0 1) (bif !(v_52 a0 0).1 then bif !(v_52 a0 1).1 then some (0, 7, PUnit.unit) else B_18_0 (J_18_0 ((v_52 a0 0).1) ((v_52 a0 1).1) a0) (some (1, 0, PUnit.unit)) (some (0, 0, PUnit.unit)) else B_18_0 (J_18_0 ((v_52 a0 0).1) ((v_52 a0 1).1) a0) (some (1, 0, PUnit.unit)) (some (0, 0, PUnit.unit)))))
theorem fn_18 (a0 : (((List Int) × ((List Int) × (Int × Unit))) × ((List Int) × Unit))) : evFnL sm_18 FU (ovr noO (evFn sm_18 fns FU 0)) (ir18_t O_18_18_0) ir18 (ofH [(.pair (.pair (.slice (.int .u32)) (.pair (.slice (.int .i64)) (.pair (.int .i64) .unit))) (.pair (.arr 32 (.int .u8)) .unit))] (a0, ())) [] (pureK [(.int .i64), (.int .i64)]) = F_18 a0 := by kernel_rfl
noncomputable def Sp.p_18 (a0 : (((List Int) × ((List Int) × (Int × Unit))) × ((List Int) × Unit))) : Bool := (F_18 a0).isSome
noncomputable def Sp.v_18 (a0 : (((List Int) × ((List Int) × (Int × Unit))) × ((List Int) × Unit))) : Int × Int × Unit := (F_18 a0).getD (dfH [(.int .i64), (.int .i64)])
noncomputable def s_18 : Summ := shN [(.pair (.pair (.slice (.int .u32)) (.pair (.slice (.int .i64)) (.pair (.int .i64) .unit))) (.pair (.arr 32 (.int .u8)) .unit))] [(.int .i64), (.int .i64)] (fun x => p_18 x.1) (fun x => v_18 x.1)
theorem pv_18 (a0 : (((List Int) × ((List Int) × (Int × Unit))) × ((List Int) × Unit))) {y : Int × Int × Unit} (h : F_18 a0 = some y) : p_18 a0 = true ∧ v_18 a0 = y := ⟨by rw [p_18, h]; rfl, by rw [v_18, h]; rfl⟩
theorem run_18 (x : HDen [(.pair (.pair (.slice (.int .u32)) (.pair (.slice (.int .i64)) (.pair (.int .i64) .unit))) (.pair (.arr 32 (.int .u8)) .unit))]) (y : HDen [(.int .i64), (.int .i64)]) (h : F_18 x.1 = some y) : evFn sm_18 fns FU 1 18 (ofH [(.pair (.pair (.slice (.int .u32)) (.pair (.slice (.int .i64)) (.pair (.int .i64) .unit))) (.pair (.arr 32 (.int .u8)) .unit))] x) [] (pureK [(.int .i64), (.int .i64)]) = some y :=
 evFnL_sound (fn := ir18) (t := (ir18_t O_18_18_0)) (o := noO) rfl noO_ok (ir18_tok (fun T k r => OK_18_18_0 T k r)) ((fn_18 _).trans h)
end
noncomputable section
noncomputable def sm_21 : Nat → Option Summ := fun f => bif Nat.beq f 18 then some s_18 else bif Nat.beq f 48 then some s_48 else none
noncomputable def F_21 (a0 : (((List Int) × ((List Int) × (Int × Unit))) × ((List Int) × Unit))) : Option (Int × Unit) :=
 gd (p_18 a0) (bif (v_18 a0).2.1 != 0 then some (0, PUnit.unit) else gd (p_48 a0 ((v_18 a0).1)) (gd (inB 1 (length ((v_48 a0 ((v_18 a0).1)).1))) (some (wrap i64 (getD ((v_48 a0 ((v_18 a0).1)).1) 1 0), PUnit.unit))))
theorem fn_21 (a0 : (((List Int) × ((List Int) × (Int × Unit))) × ((List Int) × Unit))) : evFnL sm_21 FU (ovr noO (evFn sm_21 fns FU 0)) .nil ir21 (ofH [(.pair (.pair (.slice (.int .u32)) (.pair (.slice (.int .i64)) (.pair (.int .i64) .unit))) (.pair (.arr 32 (.int .u8)) .unit))] (a0, ())) [] (pureK [(.int .i64)]) = F_21 a0 := by kernel_rfl
noncomputable def Sp.p_21 (a0 : (((List Int) × ((List Int) × (Int × Unit))) × ((List Int) × Unit))) : Bool := (F_21 a0).isSome
noncomputable def Sp.v_21 (a0 : (((List Int) × ((List Int) × (Int × Unit))) × ((List Int) × Unit))) : Int × Unit := (F_21 a0).getD (dfH [(.int .i64)])
noncomputable def s_21 : Summ := shN [(.pair (.pair (.slice (.int .u32)) (.pair (.slice (.int .i64)) (.pair (.int .i64) .unit))) (.pair (.arr 32 (.int .u8)) .unit))] [(.int .i64)] (fun x => p_21 x.1) (fun x => v_21 x.1)
theorem pv_21 (a0 : (((List Int) × ((List Int) × (Int × Unit))) × ((List Int) × Unit))) {y : Int × Unit} (h : F_21 a0 = some y) : p_21 a0 = true ∧ v_21 a0 = y := ⟨by rw [p_21, h]; rfl, by rw [v_21, h]; rfl⟩
theorem run_21 (x : HDen [(.pair (.pair (.slice (.int .u32)) (.pair (.slice (.int .i64)) (.pair (.int .i64) .unit))) (.pair (.arr 32 (.int .u8)) .unit))]) (y : HDen [(.int .i64)]) (h : F_21 x.1 = some y) : evFn sm_21 fns FU 1 21 (ofH [(.pair (.pair (.slice (.int .u32)) (.pair (.slice (.int .i64)) (.pair (.int .i64) .unit))) (.pair (.arr 32 (.int .u8)) .unit))] x) [] (pureK [(.int .i64)]) = some y :=
 evFnL_sound (fn := ir21) (t := .nil) (o := noO) rfl noO_ok trivial ((fn_21 _).trans h)
end
noncomputable section
noncomputable def sm_64 : Nat → Option Summ := fun f => none
noncomputable def F_64 (a0 : (Int × (Int × Unit))) : Option (Bool × Unit) :=
 bif decide (a0.1 ≥ 0) then some (decide (a0.1 ≤ 1099511627776), PUnit.unit) else some (false, PUnit.unit)
theorem fn_64 (a0 : (Int × (Int × Unit))) : evFnL sm_64 FU (ovr noO (evFn sm_64 fns FU 0)) .nil ir64 (ofH [(.pair (.int .i64) (.pair (.int .u32) .unit))] (a0, ())) [] (pureK [.bool]) = F_64 a0 := by kernel_rfl
noncomputable def Sp.p_64 (a0 : (Int × (Int × Unit))) : Bool := (F_64 a0).isSome
noncomputable def Sp.v_64 (a0 : (Int × (Int × Unit))) : Bool × Unit := (F_64 a0).getD (dfH [.bool])
noncomputable def s_64 : Summ := shN [(.pair (.int .i64) (.pair (.int .u32) .unit))] [.bool] (fun x => p_64 x.1) (fun x => v_64 x.1)
theorem pv_64 (a0 : (Int × (Int × Unit))) {y : Bool × Unit} (h : F_64 a0 = some y) : p_64 a0 = true ∧ v_64 a0 = y := ⟨by rw [p_64, h]; rfl, by rw [v_64, h]; rfl⟩
theorem run_64 (x : HDen [(.pair (.int .i64) (.pair (.int .u32) .unit))]) (y : HDen [.bool]) (h : F_64 x.1 = some y) : evFn sm_64 fns FU 1 64 (ofH [(.pair (.int .i64) (.pair (.int .u32) .unit))] x) [] (pureK [.bool]) = some y :=
 evFnL_sound (fn := ir64) (t := .nil) (o := noO) rfl noO_ok trivial ((fn_64 _).trans h)
end
noncomputable section
abbrev Zy94_0 : Ty := (.pair (.int .i64) (.pair (.int .u32) .unit))
abbrev Zt94_1 : Type := Int × Int × Unit
abbrev Zy94_2 : Ty := (Ty.pair (Ty.int i64) (Ty.pair (Ty.int u32) Ty.unit))
noncomputable def sm_94 : Nat → Option Summ := fun f => none
noncomputable def T_94_0 (p0 p1 : Int) (p2 p3 : Zt94_1) : St := St.mk ([jk, CV.ptr 0 [], jk, CV.ptr 1 [], jk, CV.int u32 p0, CV.int i64 p1] ++ (jl 16)) [Blk.mem (CV.pure Zy94_2 p2), Blk.mem (CV.pure Zy94_2 p3)] 0
noncomputable def X_94_0_0 (p1 : Int) (p2 : Zt94_1) : St := St.mk ([jk, jk, CV.int u32 0, CV.ptr 0 [], CV.int i64 p1] ++ (jl 18)) [Blk.mem (CV.pure Zy94_2 ((if wrap i64 (p2.1 - 1) > 0 then wrap i64 (p2.1 - 1) else 0, p2.2) : (Int × (Int × Unit))))] 0
noncomputable def X_94_0_1 (p0 p1 : Int) (p2 : Zt94_1) : St := St.mk ([jk, jk, CV.int u32 p0, CV.ptr 0 [], CV.int i64 p1] ++ (jl 18)) [Blk.mem (CV.pure Zy94_2 ((if wrap i64 (p2.1 - 1) > 0 then wrap i64 (p2.1 - 1) else 0, p2.2) : (Int × (Int × Unit))))] 0
inductive Sp.E_94_0 where
 | e0 (p1 : Int) (p2 : Zt94_1)
 | e1 (p0 p1 : Int) (p2 : Zt94_1)
noncomputable def Sp.B_94_0 {R : Type} (r : Option E_94_0) (k0 : Int → Zt94_1 → Option R) (k1 : Int → Int → Zt94_1 → Option R) : Option R := match r with
 | none => none
 | some (.e0 p1 p2) => k0 p1 p2
 | some (.e1 p0 p1 p2) => k1 p0 p1 p2
noncomputable def Sp.J_94_0 (p0 p1 : Int) (p2 p3 : Int × Int × Unit) : Option E_94_0 :=
 bif decide (p2.1 < 1) then some (E_94_0.e0 p1 p2) else some (E_94_0.e1 p0 p1 p2)
noncomputable def G_94_0 {R : Type} (p0 p1 : Int) (p2 p3 : Zt94_1) (k : Ex → St → Option R) : Option R := B_94_0 (J_94_0 p0 p1 p2 p3) (fun p1 p2 => k Ex.ret (X_94_0_0 p1 p2)) (fun p0 p1 p2 => k Ex.ret (X_94_0_1 p0 p1 p2))
noncomputable def o_94_0 {R : Type} (G : Int → Int → Zt94_1 → Zt94_1 → (Ex → St → Option R) → Option R) : St → (Ex → St → Option R) → Option R := fun T k => match T.sl.getD 1 .junk, T.sl.getD 3 .junk, T.sl.getD 5 .junk, T.sl.getD 6 .junk, T.hp with
 | CV.ptr 0 [], CV.ptr 1 [], CV.int u32 p0, CV.int i64 p1, ((Blk.mem (CV.pure (Ty.pair (Ty.int i64) (Ty.pair (Ty.int u32) Ty.unit)) p2)) :: (Blk.mem (CV.pure (Ty.pair (Ty.int i64) (Ty.pair (Ty.int u32) Ty.unit)) p3)) :: []) => gd (shapeOK T 23 [1, 3, 5, 6] 0) (G p0 p1 p2 p3 k)
 | _, _, _, _, _ => none
theorem o_94_0_inv {R : Type} {G : Int → Int → Zt94_1 → Zt94_1 → (Ex → St → Option R) → Option R} {T : St} {k : Ex → St → Option R} {r : R} (h : o_94_0 G T k = some r) : ∃ p0 p1 p2 p3, T = T_94_0 p0 p1 p2 p3 ∧ G p0 p1 p2 p3 k = some r := by
 unfold o_94_0 at h
 split at h
 · obtain ⟨hs, h'⟩ := gd_some h
   refine ⟨_, _, _, _, (st_of (asg := [(1, _), (3, _), (5, _), (6, _)]) hs ⟨by assumption, by assumption, by assumption, by assumption, trivial⟩ (by assumption)).trans ?_, h'⟩
   kernel_rfl
 · cases h
noncomputable def O_94_94_0 {R : Type} : St → (Ex → St → Option R) → Option R := fun T k => o_94_0 G_94_0 T k
theorem body_94_0 {R : Type} (K1 : Ex → St → Option R) (p0 p1 : Int) (p2 p3 : Zt94_1) : evJ (evCodeL sm_94 FU (ovr noO (evFn sm_94 fns FU 0)) .nil ir94_b0) (T_94_0 p0 p1 p2 p3) K1 =
 bif decide (p2.1 < 1) then K1 Ex.ret (X_94_0_0 p1 p2) else K1 Ex.ret (X_94_0_1 p0 p1 p2) := by kernel_rfl
theorem Bgd_94_0 {R : Type} {c : Bool} {x : Option R} {y : Option E_94_0} {k0 : Int → Zt94_1 → Option R} {k1 : Int → Int → Zt94_1 → Option R} (h : x = B_94_0 y k0 k1) : gd c x = B_94_0 (gd c y) k0 k1 := by cases c; rfl; exact h
theorem Bcond_94_0 {R : Type} {c : Bool} {x x' : Option R} {y y' : Option E_94_0} {k0 : Int → Zt94_1 → Option R} {k1 : Int → Int → Zt94_1 → Option R} (h : x = B_94_0 y k0 k1) (h' : x' = B_94_0 y' k0 k1) : (bif c then x else x') = B_94_0 (bif c then y else y') k0 k1 := by cases c; exact h'; exact h
theorem loop_94_0 {R : Type} (k : Ex → St → Option R) (p0 p1 : Int) (p2 p3 : Zt94_1) : evJ (evCodeL sm_94 FU (ovr noO (evFn sm_94 fns FU 0)) .nil ir94_b0) (T_94_0 p0 p1 p2 p3) k = B_94_0 (J_94_0 p0 p1 p2 p3) (fun p1 p2 => k Ex.ret (X_94_0_0 p1 p2)) (fun p0 p1 p2 => k Ex.ret (X_94_0_1 p0 p1 p2)) := by
 rw [body_94_0, J_94_0]
 repeat' first | apply Bgd_94_0 | apply Bcond_94_0 | rfl
theorem ok_94_0 {R : Type} (T : St) (k : Ex → St → Option R) (r : R) (h0 : o_94_0 G_94_0 T k = some r) : evCode sm_94 FU (evFn sm_94 fns FU 0) ir94_b0 T k = some r := by
 obtain ⟨p0, p1, p2, p3, rfl, h⟩ := o_94_0_inv h0
 refine bodyL_sound (t := .nil) noO_ok trivial (((show ∀ (b : St → (Ex → St → Option R) → Option R) (T : St) (k : Ex → St → Option R), b T k = evJ b T k from fun _ _ _ => rfl) _ _ _).trans ((loop_94_0 k p0 p1 p2 p3).trans h))
theorem OK_94_94_0 {R : Type} (T : St) (k : Ex → St → Option R) (r : R) (h : O_94_94_0 T k = some r) : evCode sm_94 FU (evFn sm_94 fns FU 0) ir94_b0 T k = some r := ok_94_0 T k r h
noncomputable def F_94 (a0 : (Int × (Int × Unit))) : Option (Int × (Int × (Int × Unit)) × Int × Unit) :=
 bif decide (a0.1 < 2) then B_94_0 (J_94_0 (a0.2.1) 18 a0 (0, 0, PUnit.unit)) (fun y12 y13 => some (0, (if wrap i64 (y13.1 - 1) > 0 then wrap i64 (y13.1 - 1) else 0, y13.2), y12, PUnit.unit)) fun y14 y15 y16 => some (y14, (if wrap i64 (y16.1 - 1) > 0 then wrap i64 (y16.1 - 1) else 0, y16.2), y15, PUnit.unit) else B_94_0 (J_94_0 4294967295 0 a0 (0, 0, PUnit.unit)) (fun y17 y18 => some (0, (if wrap i64 (y18.1 - 1) > 0 then wrap i64 (y18.1 - 1) else 0, y18.2), y17, PUnit.unit)) fun y19 y20 y21 => some (y19, (if wrap i64 (y21.1 - 1) > 0 then wrap i64 (y21.1 - 1) else 0, y21.2), y20, PUnit.unit)
theorem fn_94 (a0 : (Int × (Int × Unit))) : evFnL sm_94 FU (ovr noO (evFn sm_94 fns FU 0)) (ir94_t O_94_94_0) ir94 (ofH [Zy94_0] (a0, ())) [] (pureK [(.int .u32), Zy94_0, (.int .i64)]) = F_94 a0 := by kernel_rfl
noncomputable def Sp.p_94 (a0 : (Int × (Int × Unit))) : Bool := (F_94 a0).isSome
noncomputable def Sp.v_94 (a0 : (Int × (Int × Unit))) : Int × (Int × (Int × Unit)) × Int × Unit := (F_94 a0).getD (dfH [(.int .u32), Zy94_0, (.int .i64)])
noncomputable def s_94 : Summ := shN [Zy94_0] [(.int .u32), Zy94_0, (.int .i64)] (fun x => p_94 x.1) (fun x => v_94 x.1)
theorem pv_94 (a0 : (Int × (Int × Unit))) {y : Int × (Int × (Int × Unit)) × Int × Unit} (h : F_94 a0 = some y) : p_94 a0 = true ∧ v_94 a0 = y := ⟨by rw [p_94, h]; rfl, by rw [v_94, h]; rfl⟩
theorem run_94 (x : HDen [Zy94_0]) (y : HDen [(.int .u32), Zy94_0, (.int .i64)]) (h : F_94 x.1 = some y) : evFn sm_94 fns FU 1 94 (ofH [Zy94_0] x) [] (pureK [(.int .u32), Zy94_0, (.int .i64)]) = some y :=
 evFnL_sound (fn := ir94) (t := (ir94_t O_94_94_0)) (o := noO) rfl noO_ok (ir94_tok (fun T k r => OK_94_94_0 T k r)) ((fn_94 _).trans h)
end
noncomputable section
abbrev Zt65_0 : Type := List Int × List Int × Int × Unit
abbrev Zt65_1 : Type := Int × Int × Unit
abbrev Zy65_2 : Ty := (Ty.pair (Ty.slice (Ty.int u32)) (Ty.pair (Ty.slice (Ty.int i64)) (Ty.pair (Ty.int i64) Ty.unit)))
abbrev Zy65_3 : Ty := (Ty.pair (Ty.int i64) (Ty.pair (Ty.int u32) Ty.unit))
abbrev Zy65_4 : Ty := (.pair (.slice (.int .u32)) (.pair (.slice (.int .i64)) (.pair (.int .i64) .unit)))
abbrev Zy65_5 : Ty := (Ty.pair (Ty.int i64) Ty.unit)
abbrev Zy65_6 : Ty := (.pair (.int .i64) (.pair (.int .u32) .unit))
noncomputable def sm_65 : Nat → Option Summ := fun f => bif Nat.beq f 56 then some s_56 else bif Nat.beq f 64 then some s_64 else bif Nat.beq f 94 then some s_94 else none
noncomputable def T_65_15_0_0 (p0 : Int) (p1 : Zt65_0) (p2 : Zt65_1) (p3 : Int × Unit) (p4 p5 : Zt65_1) (p6 : Zt65_0) (p7 : Int × Unit) (p8 p9 : List Int) (p10 : Int × Unit) (p11 p12 : List Int) : St := St.mk ([jk, CV.ptr 5 [], CV.ptr 6 [], CV.ptr 9 [], CV.int i64 p0] ++ (jl 39)) [Blk.mem (CV.pure Zy65_2 p1), Blk.mem (CV.pure Zy65_3 p2), Blk.mem (CV.pair (CV.nil 42 (Ty.int u32)) (CV.pair (CV.nil 3 (Ty.int i64)) (CV.pure Zy65_5 p3))), Blk.mem (CV.pure Zy65_3 p4), Blk.mem (CV.pure Zy65_3 p5), Blk.mem (CV.pure Zy65_2 p6), Blk.mem (CV.pair (CV.whole 7) (CV.pair (CV.whole 8) (CV.pure Zy65_5 p7))), Blk.vec 42 (Ty.int u32) p8, Blk.vec 3 (Ty.int i64) p9, Blk.mem (CV.pair (CV.whole 10) (CV.pair (CV.whole 11) (CV.pure Zy65_5 p10))), Blk.vec 42 (Ty.int u32) p11, Blk.vec 3 (Ty.int i64) p12] 5
noncomputable def X_65_15_0_0_0 (p1 : Zt65_0) (p2 : Zt65_1) (p3 : Int × Unit) (p4 p5 : Zt65_1) (p6 : Zt65_0) (p7 : Int × Unit) (p8 p9 : List Int) (p10 : Int × Unit) (p11 p12 : List Int) : St := St.mk ([jk, CV.ptr 5 [], CV.ptr 6 [], CV.ptr 9 []] ++ (jl 40)) [Blk.mem (CV.pure Zy65_2 p1), Blk.mem (CV.pure Zy65_3 p2), Blk.mem (CV.pair (CV.nil 42 (Ty.int u32)) (CV.pair (CV.nil 3 (Ty.int i64)) (CV.pure Zy65_5 p3))), Blk.mem (CV.pure Zy65_3 p4), Blk.mem (CV.pure Zy65_3 p5), Blk.mem (CV.pure Zy65_2 p6), Blk.mem (CV.pair (CV.whole 7) (CV.pair (CV.whole 8) (CV.pure Zy65_5 p7))), Blk.vec 42 (Ty.int u32) p8, Blk.vec 3 (Ty.int i64) p9, Blk.mem (CV.pair (CV.whole 10) (CV.pair (CV.whole 11) (CV.pure Zy65_5 p10))), Blk.vec 42 (Ty.int u32) p11, Blk.vec 3 (Ty.int i64) p12] 5
inductive Sp.E_65_15_0_0 where
 | e0 (p1 : Zt65_0) (p2 : Zt65_1) (p3 : Int × Unit) (p4 p5 : Zt65_1) (p6 : Zt65_0) (p7 : Int × Unit) (p8 p9 : List Int) (p10 : Int × Unit) (p11 p12 : List Int)
noncomputable def Sp.B_65_15_0_0 {R : Type} (r : Option E_65_15_0_0) (k0 : Zt65_0 → Zt65_1 → (Int × Unit) → Zt65_1 → Zt65_1 → Zt65_0 → (Int × Unit) → List Int → List Int → (Int × Unit) → List Int → List Int → Option R) : Option R := match r with
 | none => none
 | some (.e0 p1 p2 p3 p4 p5 p6 p7 p8 p9 p10 p11 p12) => k0 p1 p2 p3 p4 p5 p6 p7 p8 p9 p10 p11 p12
noncomputable def Sp.L_65_15_0_0 : Nat → Int → (List Int × List Int × Int × Unit) → (Int × Int × Unit) → (Int × Unit) → (Int × Int × Unit) → (Int × Int × Unit) → (List Int × List Int × Int × Unit) → (Int × Unit) → List Int → List Int → (Int × Unit) → List Int → List Int → Option E_65_15_0_0
 | 0, _, _, _, _, _, _, _, _, _, _, _, _, _ => none
 | m + 1, p0, p1, p2, p3, p4, p5, p6, p7, p8, p9, p10, p11, p12 => bif decide (p0 < (↑(length (p6.1)) : Int)) then gd (inB p0 (length (p6.1))) (gd (room (length p11 + 1) 4) (L_65_15_0_0 m (wrap i64 (p0 + 1)) p1 p2 p3 p4 p5 p6 p7 p8 p9 p10 (p11 ++ [getD (p6.1) (toNat p0) 0]) p12)) else some (E_65_15_0_0.e0 p1 p2 p3 p4 p5 p6 p7 p8 p9 p10 p11 p12)
noncomputable def G_65_15_0_0 {R : Type} (p0 : Int) (p1 : Zt65_0) (p2 : Zt65_1) (p3 : Int × Unit) (p4 p5 : Zt65_1) (p6 : Zt65_0) (p7 : Int × Unit) (p8 p9 : List Int) (p10 : Int × Unit) (p11 p12 : List Int) (k : Ex → St → Option R) : Option R := B_65_15_0_0 (L_65_15_0_0 FU p0 p1 p2 p3 p4 p5 p6 p7 p8 p9 p10 p11 p12) (fun p1 p2 p3 p4 p5 p6 p7 p8 p9 p10 p11 p12 => k (Ex.exit 0) (X_65_15_0_0_0 p1 p2 p3 p4 p5 p6 p7 p8 p9 p10 p11 p12))
noncomputable def o_65_15_0_0 {R : Type} (G : Int → Zt65_0 → Zt65_1 → (Int × Unit) → Zt65_1 → Zt65_1 → Zt65_0 → (Int × Unit) → List Int → List Int → (Int × Unit) → List Int → List Int → (Ex → St → Option R) → Option R) : St → (Ex → St → Option R) → Option R := fun T k => match T.sl.getD 1 .junk, T.sl.getD 2 .junk, T.sl.getD 3 .junk, T.sl.getD 4 .junk, T.hp with
 | CV.ptr 5 [], CV.ptr 6 [], CV.ptr 9 [], CV.int i64 p0, ((Blk.mem (CV.pure (Ty.pair (Ty.slice (Ty.int u32)) (Ty.pair (Ty.slice (Ty.int i64)) (Ty.pair (Ty.int i64) Ty.unit))) p1)) :: (Blk.mem (CV.pure (Ty.pair (Ty.int i64) (Ty.pair (Ty.int u32) Ty.unit)) p2)) :: (Blk.mem (CV.pair (CV.nil 42 (Ty.int u32)) (CV.pair (CV.nil 3 (Ty.int i64)) (CV.pure (Ty.pair (Ty.int i64) Ty.unit) p3)))) :: (Blk.mem (CV.pure (Ty.pair (Ty.int i64) (Ty.pair (Ty.int u32) Ty.unit)) p4)) :: (Blk.mem (CV.pure (Ty.pair (Ty.int i64) (Ty.pair (Ty.int u32) Ty.unit)) p5)) :: (Blk.mem (CV.pure (Ty.pair (Ty.slice (Ty.int u32)) (Ty.pair (Ty.slice (Ty.int i64)) (Ty.pair (Ty.int i64) Ty.unit))) p6)) :: (Blk.mem (CV.pair (CV.whole 7) (CV.pair (CV.whole 8) (CV.pure (Ty.pair (Ty.int i64) Ty.unit) p7)))) :: (Blk.vec 42 (Ty.int u32) p8) :: (Blk.vec 3 (Ty.int i64) p9) :: (Blk.mem (CV.pair (CV.whole 10) (CV.pair (CV.whole 11) (CV.pure (Ty.pair (Ty.int i64) Ty.unit) p10)))) :: (Blk.vec 42 (Ty.int u32) p11) :: (Blk.vec 3 (Ty.int i64) p12) :: []) => gd (shapeOK T 44 [1, 2, 3, 4] 5) (G p0 p1 p2 p3 p4 p5 p6 p7 p8 p9 p10 p11 p12 k)
 | _, _, _, _, _ => none
theorem o_65_15_0_0_inv {R : Type} {G : Int → Zt65_0 → Zt65_1 → (Int × Unit) → Zt65_1 → Zt65_1 → Zt65_0 → (Int × Unit) → List Int → List Int → (Int × Unit) → List Int → List Int → (Ex → St → Option R) → Option R} {T : St} {k : Ex → St → Option R} {r : R} (h : o_65_15_0_0 G T k = some r) : ∃ p0 p1 p2 p3 p4 p5 p6 p7 p8 p9 p10 p11 p12, T = T_65_15_0_0 p0 p1 p2 p3 p4 p5 p6 p7 p8 p9 p10 p11 p12 ∧ G p0 p1 p2 p3 p4 p5 p6 p7 p8 p9 p10 p11 p12 k = some r := by
 unfold o_65_15_0_0 at h
 split at h
 · obtain ⟨hs, h'⟩ := gd_some h
   refine ⟨_, _, _, _, _, _, _, _, _, _, _, _, _, (st_of (asg := [(1, _), (2, _), (3, _), (4, _)]) hs ⟨by assumption, by assumption, by assumption, by assumption, trivial⟩ (by assumption)).trans ?_, h'⟩
   kernel_rfl
 · cases h
noncomputable def T_65_15_1_0 (p0 : Int) (p1 : Zt65_0) (p2 : Zt65_1) (p3 : Int × Unit) (p4 p5 : Zt65_1) (p6 : Zt65_0) (p7 : Int × Unit) (p8 p9 : List Int) (p10 : Int × Unit) (p11 p12 : List Int) : St := St.mk ([jk, CV.ptr 5 [], CV.ptr 6 [], CV.ptr 9 [], jk, CV.int i64 p0] ++ (jl 38)) [Blk.mem (CV.pure Zy65_2 p1), Blk.mem (CV.pure Zy65_3 p2), Blk.mem (CV.pair (CV.nil 42 (Ty.int u32)) (CV.pair (CV.nil 3 (Ty.int i64)) (CV.pure Zy65_5 p3))), Blk.mem (CV.pure Zy65_3 p4), Blk.mem (CV.pure Zy65_3 p5), Blk.mem (CV.pure Zy65_2 p6), Blk.mem (CV.pair (CV.whole 7) (CV.pair (CV.whole 8) (CV.pure Zy65_5 p7))), Blk.vec 42 (Ty.int u32) p8, Blk.vec 3 (Ty.int i64) p9, Blk.mem (CV.pair (CV.whole 10) (CV.pair (CV.whole 11) (CV.pure Zy65_5 p10))), Blk.vec 42 (Ty.int u32) p11, Blk.vec 3 (Ty.int i64) p12] 5
noncomputable def X_65_15_1_0_0 (p1 : Zt65_0) (p2 : Zt65_1) (p3 : Int × Unit) (p4 p5 : Zt65_1) (p7 : Int × Unit) (p8 p9 : List Int) (p10 : Int × Unit) (p11 p12 : List Int) : St := St.mk ([jk, jk, CV.ptr 5 [], CV.ptr 8 []] ++ (jl 40)) [Blk.mem (CV.pure Zy65_2 p1), Blk.mem (CV.pure Zy65_3 p2), Blk.mem (CV.pair (CV.nil 42 (Ty.int u32)) (CV.pair (CV.nil 3 (Ty.int i64)) (CV.pure Zy65_5 p3))), Blk.mem (CV.pure Zy65_3 p4), Blk.mem (CV.pure Zy65_3 p5), Blk.mem (CV.pair (CV.whole 6) (CV.pair (CV.whole 7) (CV.pure Zy65_5 p7))), Blk.vec 42 (Ty.int u32) p8, Blk.vec 3 (Ty.int i64) p9, Blk.mem (CV.pair (CV.whole 9) (CV.pair (CV.whole 10) (CV.pure Zy65_5 p10))), Blk.vec 42 (Ty.int u32) p11, Blk.vec 3 (Ty.int i64) p12] 5
inductive Sp.E_65_15_1_0 where
 | e0 (p1 : Zt65_0) (p2 : Zt65_1) (p3 : Int × Unit) (p4 p5 : Zt65_1) (p7 : Int × Unit) (p8 p9 : List Int) (p10 : Int × Unit) (p11 p12 : List Int)
noncomputable def Sp.B_65_15_1_0 {R : Type} (r : Option E_65_15_1_0) (k0 : Zt65_0 → Zt65_1 → (Int × Unit) → Zt65_1 → Zt65_1 → (Int × Unit) → List Int → List Int → (Int × Unit) → List Int → List Int → Option R) : Option R := match r with
 | none => none
 | some (.e0 p1 p2 p3 p4 p5 p7 p8 p9 p10 p11 p12) => k0 p1 p2 p3 p4 p5 p7 p8 p9 p10 p11 p12
noncomputable def Sp.L_65_15_1_0 : Nat → Int → (List Int × List Int × Int × Unit) → (Int × Int × Unit) → (Int × Unit) → (Int × Int × Unit) → (Int × Int × Unit) → (List Int × List Int × Int × Unit) → (Int × Unit) → List Int → List Int → (Int × Unit) → List Int → List Int → Option E_65_15_1_0
 | 0, _, _, _, _, _, _, _, _, _, _, _, _, _ => none
 | m + 1, p0, p1, p2, p3, p4, p5, p6, p7, p8, p9, p10, p11, p12 => bif decide (p0 < (↑(length (p6.2.1)) : Int)) then gd (inB p0 (length (p6.2.1))) (gd (room (length p12 + 1) 8) (L_65_15_1_0 m (wrap i64 (p0 + 1)) p1 p2 p3 p4 p5 p6 p7 p8 p9 p10 p11 (p12 ++ [getD (p6.2.1) (toNat p0) 0]))) else some (E_65_15_1_0.e0 p1 p2 p3 p4 p5 p7 p8 p9 p10 p11 p12)
noncomputable def G_65_15_1_0 {R : Type} (p0 : Int) (p1 : Zt65_0) (p2 : Zt65_1) (p3 : Int × Unit) (p4 p5 : Zt65_1) (p6 : Zt65_0) (p7 : Int × Unit) (p8 p9 : List Int) (p10 : Int × Unit) (p11 p12 : List Int) (k : Ex → St → Option R) : Option R := B_65_15_1_0 (L_65_15_1_0 FU p0 p1 p2 p3 p4 p5 p6 p7 p8 p9 p10 p11 p12) (fun p1 p2 p3 p4 p5 p7 p8 p9 p10 p11 p12 => k (Ex.exit 2) (X_65_15_1_0_0 p1 p2 p3 p4 p5 p7 p8 p9 p10 p11 p12))
noncomputable def o_65_15_1_0 {R : Type} (G : Int → Zt65_0 → Zt65_1 → (Int × Unit) → Zt65_1 → Zt65_1 → Zt65_0 → (Int × Unit) → List Int → List Int → (Int × Unit) → List Int → List Int → (Ex → St → Option R) → Option R) : St → (Ex → St → Option R) → Option R := fun T k => match T.sl.getD 1 .junk, T.sl.getD 2 .junk, T.sl.getD 3 .junk, T.sl.getD 5 .junk, T.hp with
 | CV.ptr 5 [], CV.ptr 6 [], CV.ptr 9 [], CV.int i64 p0, ((Blk.mem (CV.pure (Ty.pair (Ty.slice (Ty.int u32)) (Ty.pair (Ty.slice (Ty.int i64)) (Ty.pair (Ty.int i64) Ty.unit))) p1)) :: (Blk.mem (CV.pure (Ty.pair (Ty.int i64) (Ty.pair (Ty.int u32) Ty.unit)) p2)) :: (Blk.mem (CV.pair (CV.nil 42 (Ty.int u32)) (CV.pair (CV.nil 3 (Ty.int i64)) (CV.pure (Ty.pair (Ty.int i64) Ty.unit) p3)))) :: (Blk.mem (CV.pure (Ty.pair (Ty.int i64) (Ty.pair (Ty.int u32) Ty.unit)) p4)) :: (Blk.mem (CV.pure (Ty.pair (Ty.int i64) (Ty.pair (Ty.int u32) Ty.unit)) p5)) :: (Blk.mem (CV.pure (Ty.pair (Ty.slice (Ty.int u32)) (Ty.pair (Ty.slice (Ty.int i64)) (Ty.pair (Ty.int i64) Ty.unit))) p6)) :: (Blk.mem (CV.pair (CV.whole 7) (CV.pair (CV.whole 8) (CV.pure (Ty.pair (Ty.int i64) Ty.unit) p7)))) :: (Blk.vec 42 (Ty.int u32) p8) :: (Blk.vec 3 (Ty.int i64) p9) :: (Blk.mem (CV.pair (CV.whole 10) (CV.pair (CV.whole 11) (CV.pure (Ty.pair (Ty.int i64) Ty.unit) p10)))) :: (Blk.vec 42 (Ty.int u32) p11) :: (Blk.vec 3 (Ty.int i64) p12) :: []) => gd (shapeOK T 44 [1, 2, 3, 5] 5) (G p0 p1 p2 p3 p4 p5 p6 p7 p8 p9 p10 p11 p12 k)
 | _, _, _, _, _ => none
theorem o_65_15_1_0_inv {R : Type} {G : Int → Zt65_0 → Zt65_1 → (Int × Unit) → Zt65_1 → Zt65_1 → Zt65_0 → (Int × Unit) → List Int → List Int → (Int × Unit) → List Int → List Int → (Ex → St → Option R) → Option R} {T : St} {k : Ex → St → Option R} {r : R} (h : o_65_15_1_0 G T k = some r) : ∃ p0 p1 p2 p3 p4 p5 p6 p7 p8 p9 p10 p11 p12, T = T_65_15_1_0 p0 p1 p2 p3 p4 p5 p6 p7 p8 p9 p10 p11 p12 ∧ G p0 p1 p2 p3 p4 p5 p6 p7 p8 p9 p10 p11 p12 k = some r := by
 unfold o_65_15_1_0 at h
 split at h
 · obtain ⟨hs, h'⟩ := gd_some h
   refine ⟨_, _, _, _, _, _, _, _, _, _, _, _, _, (st_of (asg := [(1, _), (2, _), (3, _), (5, _)]) hs ⟨by assumption, by assumption, by assumption, by assumption, trivial⟩ (by assumption)).trans ?_, h'⟩
   kernel_rfl
 · cases h
noncomputable def O_65_15_0 {R : Type} : St → (Ex → St → Option R) → Option R := fun T k => o_65_15_0_0 G_65_15_0_0 T k
noncomputable def O_65_15_1 {R : Type} : St → (Ex → St → Option R) → Option R := fun T k => o_65_15_1_0 G_65_15_1_0 T k
noncomputable def g_65_15 {R : Type} : List CV → List Blk → (CV → List Blk → Option R) → Option R := evFnL sm_65 FU (ovr noO (evFn sm_65 fns FU 0)) (ir15_t O_65_15_0 O_65_15_1) ir15
theorem body_65_15_0_0 {R : Type} (K0 : St → Option R) (K1 : Ex → St → Option R) (p0 : Int) (p1 : Zt65_0) (p2 : Zt65_1) (p3 : Int × Unit) (p4 p5 : Zt65_1) (p6 : Zt65_0) (p7 : Int × Unit) (p8 p9 : List Int) (p10 : Int × Unit) (p11 p12 : List Int) : evLB (evCodeL sm_65 FU (ovr noO (evFn sm_65 fns FU 0)) .nil ir15_b0) (St.norm ir15_v0) (T_65_15_0_0 p0 p1 p2 p3 p4 p5 p6 p7 p8 p9 p10 p11 p12) K0 K1 =
 bif decide (p0 < (↑(length (p6.1)) : Int)) then gd (inB p0 (length (p6.1))) (gd (room (length p11 + 1) 4) (K0 (T_65_15_0_0 (wrap i64 (p0 + 1)) p1 p2 p3 p4 p5 p6 p7 p8 p9 p10 (p11 ++ [getD (p6.1) (toNat p0) 0]) p12))) else K1 (Ex.exit 0) (X_65_15_0_0_0 p1 p2 p3 p4 p5 p6 p7 p8 p9 p10 p11 p12) := by kernel_rfl
theorem Bgd_65_15_0_0 {R : Type} {c : Bool} {x : Option R} {y : Option E_65_15_0_0} {k0 : Zt65_0 → Zt65_1 → (Int × Unit) → Zt65_1 → Zt65_1 → Zt65_0 → (Int × Unit) → List Int → List Int → (Int × Unit) → List Int → List Int → Option R} (h : x = B_65_15_0_0 y k0) : gd c x = B_65_15_0_0 (gd c y) k0 := by cases c; rfl; exact h
theorem Bcond_65_15_0_0 {R : Type} {c : Bool} {x x' : Option R} {y y' : Option E_65_15_0_0} {k0 : Zt65_0 → Zt65_1 → (Int × Unit) → Zt65_1 → Zt65_1 → Zt65_0 → (Int × Unit) → List Int → List Int → (Int × Unit) → List Int → List Int → Option R} (h : x = B_65_15_0_0 y k0) (h' : x' = B_65_15_0_0 y' k0) : (bif c then x else x') = B_65_15_0_0 (bif c then y else y') k0 := by cases c; exact h'; exact h
theorem loop_65_15_0_0 {R : Type} (k : Ex → St → Option R) : ∀ (m : Nat) (p0 : Int) (p1 : Zt65_0) (p2 : Zt65_1) (p3 : Int × Unit) (p4 : Zt65_1) (p5 : Zt65_1) (p6 : Zt65_0) (p7 : Int × Unit) (p8 : List Int) (p9 : List Int) (p10 : Int × Unit) (p11 : List Int) (p12 : List Int), evLoopN (evCodeL sm_65 FU (ovr noO (evFn sm_65 fns FU 0)) .nil ir15_b0) (St.norm ir15_v0) m (T_65_15_0_0 p0 p1 p2 p3 p4 p5 p6 p7 p8 p9 p10 p11 p12) k = B_65_15_0_0 (L_65_15_0_0 m p0 p1 p2 p3 p4 p5 p6 p7 p8 p9 p10 p11 p12) (fun p1 p2 p3 p4 p5 p6 p7 p8 p9 p10 p11 p12 => k (Ex.exit (0 : Nat)) (X_65_15_0_0_0 p1 p2 p3 p4 p5 p6 p7 p8 p9 p10 p11 p12))
 | 0, _, _, _, _, _, _, _, _, _, _, _, _, _ => rfl
 | m + 1, p0, p1, p2, p3, p4, p5, p6, p7, p8, p9, p10, p11, p12 => by
   rw [evLoopN_succ, body_65_15_0_0, L_65_15_0_0]
   repeat' first | apply Bgd_65_15_0_0 | apply Bcond_65_15_0_0 | exact loop_65_15_0_0 k m _ _ _ _ _ _ _ _ _ _ _ _ _ | rfl
theorem ok_65_15_0_0 {R : Type} (T : St) (k : Ex → St → Option R) (r : R) (h0 : o_65_15_0_0 G_65_15_0_0 T k = some r) : evLoopN (evCode sm_65 FU (evFn sm_65 fns FU 0) ir15_b0) (St.norm ir15_v0) FU T k = some r := by
 obtain ⟨p0, p1, p2, p3, p4, p5, p6, p7, p8, p9, p10, p11, p12, rfl, h⟩ := o_65_15_0_0_inv h0
 refine evLoopN_L (t := .nil) noO_ok trivial _ _ _ _ ?_
 rw [loop_65_15_0_0]
 exact h
theorem OK_65_15_0 {R : Type} (T : St) (k : Ex → St → Option R) (r : R) (h : O_65_15_0 T k = some r) : evLoopN (evCode sm_65 FU (evFn sm_65 fns FU 0) ir15_b0) (St.norm ir15_v0) FU T k = some r := ok_65_15_0_0 T k r h
theorem body_65_15_1_0 {R : Type} (K0 : St → Option R) (K1 : Ex → St → Option R) (p0 : Int) (p1 : Zt65_0) (p2 : Zt65_1) (p3 : Int × Unit) (p4 p5 : Zt65_1) (p6 : Zt65_0) (p7 : Int × Unit) (p8 p9 : List Int) (p10 : Int × Unit) (p11 p12 : List Int) : evLB (evCodeL sm_65 FU (ovr noO (evFn sm_65 fns FU 0)) .nil ir15_b1) (St.norm ir15_v1) (T_65_15_1_0 p0 p1 p2 p3 p4 p5 p6 p7 p8 p9 p10 p11 p12) K0 K1 =
 bif decide (p0 < (↑(length (p6.2.1)) : Int)) then gd (inB p0 (length (p6.2.1))) (gd (room (length p12 + 1) 8) (K0 (T_65_15_1_0 (wrap i64 (p0 + 1)) p1 p2 p3 p4 p5 p6 p7 p8 p9 p10 p11 (p12 ++ [getD (p6.2.1) (toNat p0) 0])))) else K1 (Ex.exit 2) (X_65_15_1_0_0 p1 p2 p3 p4 p5 p7 p8 p9 p10 p11 p12) := by kernel_rfl
theorem Bgd_65_15_1_0 {R : Type} {c : Bool} {x : Option R} {y : Option E_65_15_1_0} {k0 : Zt65_0 → Zt65_1 → (Int × Unit) → Zt65_1 → Zt65_1 → (Int × Unit) → List Int → List Int → (Int × Unit) → List Int → List Int → Option R} (h : x = B_65_15_1_0 y k0) : gd c x = B_65_15_1_0 (gd c y) k0 := by cases c; rfl; exact h
theorem Bcond_65_15_1_0 {R : Type} {c : Bool} {x x' : Option R} {y y' : Option E_65_15_1_0} {k0 : Zt65_0 → Zt65_1 → (Int × Unit) → Zt65_1 → Zt65_1 → (Int × Unit) → List Int → List Int → (Int × Unit) → List Int → List Int → Option R} (h : x = B_65_15_1_0 y k0) (h' : x' = B_65_15_1_0 y' k0) : (bif c then x else x') = B_65_15_1_0 (bif c then y else y') k0 := by cases c; exact h'; exact h
theorem loop_65_15_1_0 {R : Type} (k : Ex → St → Option R) : ∀ (m : Nat) (p0 : Int) (p1 : Zt65_0) (p2 : Zt65_1) (p3 : Int × Unit) (p4 : Zt65_1) (p5 : Zt65_1) (p6 : Zt65_0) (p7 : Int × Unit) (p8 : List Int) (p9 : List Int) (p10 : Int × Unit) (p11 : List Int) (p12 : List Int), evLoopN (evCodeL sm_65 FU (ovr noO (evFn sm_65 fns FU 0)) .nil ir15_b1) (St.norm ir15_v1) m (T_65_15_1_0 p0 p1 p2 p3 p4 p5 p6 p7 p8 p9 p10 p11 p12) k = B_65_15_1_0 (L_65_15_1_0 m p0 p1 p2 p3 p4 p5 p6 p7 p8 p9 p10 p11 p12) (fun p1 p2 p3 p4 p5 p7 p8 p9 p10 p11 p12 => k (Ex.exit (2 : Nat)) (X_65_15_1_0_0 p1 p2 p3 p4 p5 p7 p8 p9 p10 p11 p12))
 | 0, _, _, _, _, _, _, _, _, _, _, _, _, _ => rfl
 | m + 1, p0, p1, p2, p3, p4, p5, p6, p7, p8, p9, p10, p11, p12 => by
   rw [evLoopN_succ, body_65_15_1_0, L_65_15_1_0]
   repeat' first | apply Bgd_65_15_1_0 | apply Bcond_65_15_1_0 | exact loop_65_15_1_0 k m _ _ _ _ _ _ _ _ _ _ _ _ _ | rfl
theorem ok_65_15_1_0 {R : Type} (T : St) (k : Ex → St → Option R) (r : R) (h0 : o_65_15_1_0 G_65_15_1_0 T k = some r) : evLoopN (evCode sm_65 FU (evFn sm_65 fns FU 0) ir15_b1) (St.norm ir15_v1) FU T k = some r := by
 obtain ⟨p0, p1, p2, p3, p4, p5, p6, p7, p8, p9, p10, p11, p12, rfl, h⟩ := o_65_15_1_0_inv h0
 refine evLoopN_L (t := .nil) noO_ok trivial _ _ _ _ ?_
 rw [loop_65_15_1_0]
 exact h
theorem OK_65_15_1 {R : Type} (T : St) (k : Ex → St → Option R) (r : R) (h : O_65_15_1 T k = some r) : evLoopN (evCode sm_65 FU (evFn sm_65 fns FU 0) ir15_b1) (St.norm ir15_v1) FU T k = some r := ok_65_15_1_0 T k r h
theorem g_65_15_ok {R : Type} (args : List CV) (hp : List Blk) (k : CV → List Blk → Option R) (r : R) (h : g_65_15 args hp k = some r) : evFn sm_65 fns FU 1 15 args hp k = some r :=
 evFnL_sound (fn := ir15) (t := (ir15_t O_65_15_0 O_65_15_1)) (o := noO) rfl noO_ok (ir15_tok (fun T k r => OK_65_15_0 T k r) (fun T k r => OK_65_15_1 T k r)) h
theorem ov_65_65_ok {R : Type} : OvrOK (R := R) (fun f' => bif Nat.beq f' 15 then some (g_65_15) else none) (evFn sm_65 fns FU 1) := by
 intro f' g h args hp k r hg
 dsimp only at h
 by_cases h15 : f' = 15
 · subst h15
   injection h with h
   subst h
   exact evFn_le 0 (g_65_15_ok _ _ _ _ hg)
 rw [nbeq_ne h15, cond_false] at h
 cases h
noncomputable def F_65 (a0 : ((List Int) × ((List Int) × (Int × Unit)))) (a1 a2 : Int) (a3 : (Int × (Int × Unit))) : Option (((List Int) × ((List Int) × (Int × Unit))) × (Int × (Int × Unit)) × Int × Unit) :=
 gd (p_56 a0) (bif !(v_56 a0).1 then some (([], [], 0, PUnit.unit), (0, 0, PUnit.unit), 1, PUnit.unit) else gd (p_64 a3) (bif !(v_64 a3).1 then some (([], [], 0, PUnit.unit), (0, 0, PUnit.unit), 1, PUnit.unit) else bif decide (a1 < 0) then some (([], [], 0, PUnit.unit), (0, 0, PUnit.unit), 2, PUnit.unit) else bif decide (a1 ≥ (↑(length (a0.1)) : Int)) then some (([], [], 0, PUnit.unit), (0, 0, PUnit.unit), 2, PUnit.unit) else gd (p_94 a3) (B_65_15_0_0 (L_65_15_0_0 4611686018427387904 0 a0 a3 (0, PUnit.unit) (0, 0, PUnit.unit) ((v_94 a3).2.1) a0 (0, PUnit.unit) [] [] (a0.2.2.1, PUnit.unit) [] []) fun y31 y32 y33 y34 y35 y36 y37 y38 y39 y40 y41 y42 => B_65_15_1_0 (L_65_15_1_0 4611686018427387904 0 y31 y32 y33 y34 y35 y36 y37 y38 y39 y40 y41 y42) fun y43 y44 y45 y46 y47 y48 y49 y50 y51 y52 y53 => gd (inB a1 (length (y43.1))) (gd (inB a1 (length y52)) (gd (decide (toNat a1 < length y52) && true && true) (some ((List.set y52 (toNat a1) (Sp.andI u32 (getD (y43.1) (toNat a1) 0) (Sp.orI u32 a2 (Sp.xorI u32 4294967295 ((v_94 a3).1)))), y53, y51), y47, (v_94 a3).2.2.1, PUnit.unit)))))))
theorem fn_65 (a0 : ((List Int) × ((List Int) × (Int × Unit)))) (a1 a2 : Int) (a3 : (Int × (Int × Unit))) : evFnL sm_65 FU (ovr (fun f' => bif Nat.beq f' 15 then some (g_65_15) else none) (evFn sm_65 fns FU 1)) .nil ir65 (ofH [Zy65_4, (.int .i64), (.int .u32), Zy65_6] (a0, a1, a2, a3, ())) [] (pureK [Zy65_4, Zy65_6, (.int .i64)]) = F_65 a0 a1 a2 a3 := by kernel_rfl
noncomputable def Sp.p_65 (a0 : ((List Int) × ((List Int) × (Int × Unit)))) (a1 a2 : Int) (a3 : (Int × (Int × Unit))) : Bool := (F_65 a0 a1 a2 a3).isSome
noncomputable def Sp.v_65 (a0 : ((List Int) × ((List Int) × (Int × Unit)))) (a1 a2 : Int) (a3 : (Int × (Int × Unit))) : ((List Int) × ((List Int) × (Int × Unit))) × (Int × (Int × Unit)) × Int × Unit := (F_65 a0 a1 a2 a3).getD (dfH [Zy65_4, Zy65_6, (.int .i64)])
noncomputable def s_65 : Summ := shS [Zy65_4, (.int .i64), (.int .u32), Zy65_6] [Zy65_4, Zy65_6, (.int .i64)] (fun x => p_65 x.1 x.2.1 x.2.2.1 x.2.2.2.1) (fun x => v_65 x.1 x.2.1 x.2.2.1 x.2.2.2.1)
theorem pv_65 (a0 : ((List Int) × ((List Int) × (Int × Unit)))) (a1 a2 : Int) (a3 : (Int × (Int × Unit))) {y : ((List Int) × ((List Int) × (Int × Unit))) × (Int × (Int × Unit)) × Int × Unit} (h : F_65 a0 a1 a2 a3 = some y) : p_65 a0 a1 a2 a3 = true ∧ v_65 a0 a1 a2 a3 = y := ⟨by rw [p_65, h]; rfl, by rw [v_65, h]; rfl⟩
theorem run_65 (x : HDen [Zy65_4, (.int .i64), (.int .u32), Zy65_6]) (y : HDen [Zy65_4, Zy65_6, (.int .i64)]) (h : F_65 x.1 x.2.1 x.2.2.1 x.2.2.2.1 = some y) : evFn sm_65 fns FU 2 65 (ofH [Zy65_4, (.int .i64), (.int .u32), Zy65_6] x) [] (pureK [Zy65_4, Zy65_6, (.int .i64)]) = some y :=
 evFnL_sound (fn := ir65) (t := .nil) (o := (fun f' => bif Nat.beq f' 15 then some (g_65_15) else none)) rfl ov_65_65_ok trivial ((fn_65 _ _ _ _).trans h)
end
noncomputable section
abbrev Zy32_0 : Ty := (.pair (.pair (.slice (.int .u32)) (.pair (.slice (.int .i64)) (.pair (.int .i64) .unit))) (.pair (.arr 32 (.int .u8)) .unit))
abbrev Zt32_1 : Type := (List Int × List Int × Int × Unit) × List Int × Unit
abbrev Zy32_2 : Ty := (.pair (.int .i64) (.pair (.int .u32) .unit))
abbrev Zy32_3 : Ty := (Ty.pair (Ty.pair (Ty.slice (Ty.int u32)) (Ty.pair (Ty.slice (Ty.int i64)) (Ty.pair (Ty.int i64) Ty.unit))) (Ty.pair (Ty.arr (32 : Nat) (Ty.int u8)) Ty.unit))
abbrev Zy32_4 : Ty := (Ty.pair (Ty.int i64) (Ty.pair (Ty.int u32) Ty.unit))
abbrev Zt32_5 : Type := Int × Int × Unit
abbrev Zy32_6 : Ty := (Ty.pair (Ty.arr (32 : Nat) (Ty.int u8)) Ty.unit)
noncomputable def sm_32 : Nat → Option Summ := fun f => bif Nat.beq f 16 then some s_16 else bif Nat.beq f 21 then some s_21 else bif Nat.beq f 25 then some s_25 else bif Nat.beq f 48 then some s_48 else bif Nat.beq f 57 then some s_57 else bif Nat.beq f 64 then some s_64 else bif Nat.beq f 65 then some s_65 else none
noncomputable def T_32_0 (p0 p1 : Int) (p2 : Zt32_1) (p3 : Zt32_5) (p4 : Int × Unit) (p5 : List Int × Unit) (p6 p7 : List Int) (p8 : Zt32_5) : St := St.mk ([jk, CV.int i64 p0, jk, CV.ptr 0 [], jk, CV.ptr 1 [], CV.ptr 2 [], CV.ptr 5 [], jk, CV.int i64 p1] ++ (jl 58)) [Blk.mem (CV.pure Zy32_3 p2), Blk.mem (CV.pure Zy32_4 p3), Blk.mem (CV.pair (CV.pair (CV.whole 3) (CV.pair (CV.whole 4) (CV.pure (Ty.pair (Ty.int i64) Ty.unit) p4))) (CV.pure Zy32_6 p5)), Blk.vec 42 (Ty.int u32) p6, Blk.vec 3 (Ty.int i64) p7, Blk.mem (CV.pure Zy32_4 p8)] 0
noncomputable def X_32_0_0 (p1 : Int) : St := St.mk (jl 6 ++ ([CV.ptr 0 [], CV.ptr 3 [], CV.int i64 p1] ++ (jl 59))) [Blk.mem (CV.pair (CV.pair (CV.whole 1) (CV.pair (CV.whole 2) (CV.pure (Ty.pair (Ty.int i64) Ty.unit) ((0, PUnit.unit) : (Int × Unit))))) (CV.pure Zy32_6 ((replicate 32 (0 :Int), PUnit.unit) : ((List Int) × Unit)))), Blk.vec 42 (Ty.int u32) [], Blk.vec 3 (Ty.int i64) [], Blk.mem (CV.pure Zy32_4 ((0, 0, PUnit.unit) : (Int × (Int × Unit))))] 0
noncomputable def X_32_0_1 (p0 : Int) (p2 : Zt32_1) (p3 : Zt32_5) : St := St.mk (jl 6 ++ ([CV.ptr 0 [], CV.ptr 1 [], CV.int i64 ((v_65 (p2.1) (wrap i64 (Int.tdiv (wrap i64 (p0 * (↑(length (p2.1.1)) : Int))) 2)) 0 p3).2.2.1)] ++ (jl 59))) [Blk.mem (CV.pure Zy32_3 (((v_65 (p2.1) (wrap i64 (Int.tdiv (wrap i64 (p0 * (↑(length (p2.1.1)) : Int))) 2)) 0 p3).1, p2.2.1, PUnit.unit) : (((List Int) × ((List Int) × (Int × Unit))) × ((List Int) × Unit)))), Blk.mem (CV.pure Zy32_4 (((v_65 (p2.1) (wrap i64 (Int.tdiv (wrap i64 (p0 * (↑(length (p2.1.1)) : Int))) 2)) 0 p3).2.1) : (Int × (Int × Unit))))] 0
inductive Sp.E_32_0 where
 | e0 (p1 : Int)
 | e1 (p0 : Int) (p2 : Zt32_1) (p3 : Zt32_5)
noncomputable def Sp.B_32_0 {R : Type} (r : Option E_32_0) (k0 : Int → Option R) (k1 : Int → Zt32_1 → Zt32_5 → Option R) : Option R := match r with
 | none => none
 | some (.e0 p1) => k0 p1
 | some (.e1 p0 p2 p3) => k1 p0 p2 p3
noncomputable def Sp.J_32_0 (p0 p1 : Int) (p2 : (List Int × List Int × Int × Unit) × List Int × Unit) (p3 : Int × Int × Unit) (p4 : Int × Unit) (p5 : List Int × Unit) (p6 p7 : List Int) (p8 : Int × Int × Unit) : Option E_32_0 :=
 bif p1 != 0 then some (E_32_0.e0 p1) else gd (p_65 (p2.1) (wrap i64 (Int.tdiv (wrap i64 (p0 * (↑(length (p2.1.1)) : Int))) 2)) 0 p3) (some (E_32_0.e1 p0 p2 p3))
noncomputable def G_32_0 {R : Type} (p0 p1 : Int) (p2 : Zt32_1) (p3 : Zt32_5) (p4 : Int × Unit) (p5 : List Int × Unit) (p6 p7 : List Int) (p8 : Zt32_5) (k : Ex → St → Option R) : Option R := B_32_0 (J_32_0 p0 p1 p2 p3 p4 p5 p6 p7 p8) (fun p1 => k Ex.ret (X_32_0_0 p1)) (fun p0 p2 p3 => k Ex.ret (X_32_0_1 p0 p2 p3))
noncomputable def o_32_0 {R : Type} (G : Int → Int → Zt32_1 → Zt32_5 → (Int × Unit) → (List Int × Unit) → List Int → List Int → Zt32_5 → (Ex → St → Option R) → Option R) : St → (Ex → St → Option R) → Option R := fun T k => match T.sl.getD 1 .junk, T.sl.getD 3 .junk, T.sl.getD 5 .junk, T.sl.getD 6 .junk, T.sl.getD 7 .junk, T.sl.getD 9 .junk, T.hp with
 | CV.int i64 p0, CV.ptr 0 [], CV.ptr 1 [], CV.ptr 2 [], CV.ptr 5 [], CV.int i64 p1, ((Blk.mem (CV.pure (Ty.pair (Ty.pair (Ty.slice (Ty.int u32)) (Ty.pair (Ty.slice (Ty.int i64)) (Ty.pair (Ty.int i64) Ty.unit))) (Ty.pair (Ty.arr 32 (Ty.int u8)) Ty.unit)) p2)) :: (Blk.mem (CV.pure (Ty.pair (Ty.int i64) (Ty.pair (Ty.int u32) Ty.unit)) p3)) :: (Blk.mem (CV.pair (CV.pair (CV.whole 3) (CV.pair (CV.whole 4) (CV.pure (Ty.pair (Ty.int i64) Ty.unit) p4))) (CV.pure (Ty.pair (Ty.arr 32 (Ty.int u8)) Ty.unit) p5))) :: (Blk.vec 42 (Ty.int u32) p6) :: (Blk.vec 3 (Ty.int i64) p7) :: (Blk.mem (CV.pure (Ty.pair (Ty.int i64) (Ty.pair (Ty.int u32) Ty.unit)) p8)) :: []) => gd (shapeOK T 68 [1, 3, 5, 6, 7, 9] 0) (G p0 p1 p2 p3 p4 p5 p6 p7 p8 k)
 | _, _, _, _, _, _, _ => none
theorem o_32_0_inv {R : Type} {G : Int → Int → Zt32_1 → Zt32_5 → (Int × Unit) → (List Int × Unit) → List Int → List Int → Zt32_5 → (Ex → St → Option R) → Option R} {T : St} {k : Ex → St → Option R} {r : R} (h : o_32_0 G T k = some r) : ∃ p0 p1 p2 p3 p4 p5 p6 p7 p8, T = T_32_0 p0 p1 p2 p3 p4 p5 p6 p7 p8 ∧ G p0 p1 p2 p3 p4 p5 p6 p7 p8 k = some r := by
 unfold o_32_0 at h
 split at h
 · obtain ⟨hs, h'⟩ := gd_some h
   refine ⟨_, _, _, _, _, _, _, _, _, (st_of (asg := [(1, _), (3, _), (5, _), (6, _), (7, _), (9, _)]) hs ⟨by assumption, by assumption, by assumption, by assumption, by assumption, by assumption, trivial⟩ (by assumption)).trans ?_, h'⟩
   kernel_rfl
 · cases h
noncomputable def O_32_32_0 {R : Type} : St → (Ex → St → Option R) → Option R := fun T k => o_32_0 G_32_0 T k
theorem body_32_0 {R : Type} (K1 : Ex → St → Option R) (p0 p1 : Int) (p2 : Zt32_1) (p3 : Zt32_5) (p4 : Int × Unit) (p5 : List Int × Unit) (p6 p7 : List Int) (p8 : Zt32_5) : evJ (evCodeL sm_32 FU (ovr noO (evFn sm_32 fns FU 0)) .nil ir32_b0) (T_32_0 p0 p1 p2 p3 p4 p5 p6 p7 p8) K1 =
 bif p1 != 0 then K1 Ex.ret (X_32_0_0 p1) else gd (p_65 (p2.1) (wrap i64 (Int.tdiv (wrap i64 (p0 * (↑(length (p2.1.1)) : Int))) 2)) 0 p3) (K1 Ex.ret (X_32_0_1 p0 p2 p3)) := by kernel_rfl
theorem Bgd_32_0 {R : Type} {c : Bool} {x : Option R} {y : Option E_32_0} {k0 : Int → Option R} {k1 : Int → Zt32_1 → Zt32_5 → Option R} (h : x = B_32_0 y k0 k1) : gd c x = B_32_0 (gd c y) k0 k1 := by cases c; rfl; exact h
theorem Bcond_32_0 {R : Type} {c : Bool} {x x' : Option R} {y y' : Option E_32_0} {k0 : Int → Option R} {k1 : Int → Zt32_1 → Zt32_5 → Option R} (h : x = B_32_0 y k0 k1) (h' : x' = B_32_0 y' k0 k1) : (bif c then x else x') = B_32_0 (bif c then y else y') k0 k1 := by cases c; exact h'; exact h
theorem loop_32_0 {R : Type} (k : Ex → St → Option R) (p0 p1 : Int) (p2 : Zt32_1) (p3 : Zt32_5) (p4 : Int × Unit) (p5 : List Int × Unit) (p6 p7 : List Int) (p8 : Zt32_5) : evJ (evCodeL sm_32 FU (ovr noO (evFn sm_32 fns FU 0)) .nil ir32_b0) (T_32_0 p0 p1 p2 p3 p4 p5 p6 p7 p8) k = B_32_0 (J_32_0 p0 p1 p2 p3 p4 p5 p6 p7 p8) (fun p1 => k Ex.ret (X_32_0_0 p1)) (fun p0 p2 p3 => k Ex.ret (X_32_0_1 p0 p2 p3)) := by
 rw [body_32_0, J_32_0]
 repeat' first | apply Bgd_32_0 | apply Bcond_32_0 | rfl
theorem ok_32_0 {R : Type} (T : St) (k : Ex → St → Option R) (r : R) (h0 : o_32_0 G_32_0 T k = some r) : evCode sm_32 FU (evFn sm_32 fns FU 0) ir32_b0 T k = some r := by
 obtain ⟨p0, p1, p2, p3, p4, p5, p6, p7, p8, rfl, h⟩ := o_32_0_inv h0
 refine bodyL_sound (t := .nil) noO_ok trivial (((show ∀ (b : St → (Ex → St → Option R) → Option R) (T : St) (k : Ex → St → Option R), b T k = evJ b T k from fun _ _ _ => rfl) _ _ _).trans ((loop_32_0 k p0 p1 p2 p3 p4 p5 p6 p7 p8).trans h))
theorem OK_32_32_0 {R : Type} (T : St) (k : Ex → St → Option R) (r : R) (h : O_32_32_0 T k = some r) : evCode sm_32 FU (evFn sm_32 fns FU 0) ir32_b0 T k = some r := ok_32_0 T k r h
noncomputable def F_32 (a0 : (((List Int) × ((List Int) × (Int × Unit))) × ((List Int) × Unit))) (a1 : Int) (a2 : (Int × (Int × Unit))) : Option ((((List Int) × ((List Int) × (Int × Unit))) × ((List Int) × Unit)) × (Int × (Int × Unit)) × Int × Unit) :=
 gd (p_25 a0) (bif !(v_25 a0).1 then B_32_0 (J_32_0 a1 1 a0 a2 (0, PUnit.unit) (replicate 32 (0 :Int), PUnit.unit) [] [] (0, 0, PUnit.unit)) (fun y28 => some ((([], [], 0, PUnit.unit), replicate 32 (0 :Int), PUnit.unit), (0, 0, PUnit.unit), y28, PUnit.unit)) fun y29 y30 y31 => some (((v_65 (y30.1) (wrap i64 (Int.tdiv (wrap i64 (y29 * (↑(length (y30.1.1)) : Int))) 2)) 0 y31).1, y30.2.1, PUnit.unit), (v_65 (y30.1) (wrap i64 (Int.tdiv (wrap i64 (y29 * (↑(length (y30.1.1)) : Int))) 2)) 0 y31).2.1, (v_65 (y30.1) (wrap i64 (Int.tdiv (wrap i64 (y29 * (↑(length (y30.1.1)) : Int))) 2)) 0 y31).2.2.1, PUnit.unit) else gd (p_64 a2) (bif !(v_64 a2).1 then B_32_0 (J_32_0 a1 1 a0 a2 (0, PUnit.unit) (replicate 32 (0 :Int), PUnit.unit) [] [] (0, 0, PUnit.unit)) (fun y32 => some ((([], [], 0, PUnit.unit), replicate 32 (0 :Int), PUnit.unit), (0, 0, PUnit.unit), y32, PUnit.unit)) fun y33 y34 y35 => some (((v_65 (y34.1) (wrap i64 (Int.tdiv (wrap i64 (y33 * (↑(length (y34.1.1)) : Int))) 2)) 0 y35).1, y34.2.1, PUnit.unit), (v_65 (y34.1) (wrap i64 (Int.tdiv (wrap i64 (y33 * (↑(length (y34.1.1)) : Int))) 2)) 0 y35).2.1, (v_65 (y34.1) (wrap i64 (Int.tdiv (wrap i64 (y33 * (↑(length (y34.1.1)) : Int))) 2)) 0 y35).2.2.1, PUnit.unit) else gd (p_57 a1) (bif !(v_57 a1).1 then B_32_0 (J_32_0 a1 2 a0 a2 (0, PUnit.unit) (replicate 32 (0 :Int), PUnit.unit) [] [] (0, 0, PUnit.unit)) (fun y36 => some ((([], [], 0, PUnit.unit), replicate 32 (0 :Int), PUnit.unit), (0, 0, PUnit.unit), y36, PUnit.unit)) fun y37 y38 y39 => some (((v_65 (y38.1) (wrap i64 (Int.tdiv (wrap i64 (y37 * (↑(length (y38.1.1)) : Int))) 2)) 0 y39).1, y38.2.1, PUnit.unit), (v_65 (y38.1) (wrap i64 (Int.tdiv (wrap i64 (y37 * (↑(length (y38.1.1)) : Int))) 2)) 0 y39).2.1, (v_65 (y38.1) (wrap i64 (Int.tdiv (wrap i64 (y37 * (↑(length (y38.1.1)) : Int))) 2)) 0 y39).2.2.1, PUnit.unit) else gd (p_16 a0 a1) (bif !(v_16 a0 a1).1 then B_32_0 (J_32_0 a1 14 a0 a2 (0, PUnit.unit) (replicate 32 (0 :Int), PUnit.unit) [] [] (0, 0, PUnit.unit)) (fun y40 => some ((([], [], 0, PUnit.unit), replicate 32 (0 :Int), PUnit.unit), (0, 0, PUnit.unit), y40, PUnit.unit)) fun y41 y42 y43 => some (((v_65 (y42.1) (wrap i64 (Int.tdiv (wrap i64 (y41 * (↑(length (y42.1.1)) : Int))) 2)) 0 y43).1, y42.2.1, PUnit.unit), (v_65 (y42.1) (wrap i64 (Int.tdiv (wrap i64 (y41 * (↑(length (y42.1.1)) : Int))) 2)) 0 y43).2.1, (v_65 (y42.1) (wrap i64 (Int.tdiv (wrap i64 (y41 * (↑(length (y42.1.1)) : Int))) 2)) 0 y43).2.2.1, PUnit.unit) else gd (p_48 a0 a1) (gd (inB 0 (length ((v_48 a0 a1).1))) (bif getD ((v_48 a0 a1).1) 0 (0 :Int) == (0 :Int) then B_32_0 (J_32_0 a1 6 a0 a2 (0, PUnit.unit) (replicate 32 (0 :Int), PUnit.unit) [] [] (0, 0, PUnit.unit)) (fun y44 => some ((([], [], 0, PUnit.unit), replicate 32 (0 :Int), PUnit.unit), (0, 0, PUnit.unit), y44, PUnit.unit)) fun y45 y46 y47 => some (((v_65 (y46.1) (wrap i64 (Int.tdiv (wrap i64 (y45 * (↑(length (y46.1.1)) : Int))) 2)) 0 y47).1, y46.2.1, PUnit.unit), (v_65 (y46.1) (wrap i64 (Int.tdiv (wrap i64 (y45 * (↑(length (y46.1.1)) : Int))) 2)) 0 y47).2.1, (v_65 (y46.1) (wrap i64 (Int.tdiv (wrap i64 (y45 * (↑(length (y46.1.1)) : Int))) 2)) 0 y47).2.2.1, PUnit.unit) else gd (p_48 a0 a1) (gd (inB 1 (length ((v_48 a0 a1).1))) (gd (p_21 a0) (bif decide (wrap i64 (getD ((v_48 a0 a1).1) 1 0) < (v_21 a0).1) then B_32_0 (J_32_0 a1 20 a0 a2 (0, PUnit.unit) (replicate 32 (0 :Int), PUnit.unit) [] [] (0, 0, PUnit.unit)) (fun y48 => some ((([], [], 0, PUnit.unit), replicate 32 (0 :Int), PUnit.unit), (0, 0, PUnit.unit), y48, PUnit.unit)) fun y49 y50 y51 => some (((v_65 (y50.1) (wrap i64 (Int.tdiv (wrap i64 (y49 * (↑(length (y50.1.1)) : Int))) 2)) 0 y51).1, y50.2.1, PUnit.unit), (v_65 (y50.1) (wrap i64 (Int.tdiv (wrap i64 (y49 * (↑(length (y50.1.1)) : Int))) 2)) 0 y51).2.1, (v_65 (y50.1) (wrap i64 (Int.tdiv (wrap i64 (y49 * (↑(length (y50.1.1)) : Int))) 2)) 0 y51).2.2.1, PUnit.unit) else B_32_0 (J_32_0 a1 0 a0 a2 (0, PUnit.unit) (replicate 32 (0 :Int), PUnit.unit) [] [] (0, 0, PUnit.unit)) (fun y52 => some ((([], [], 0, PUnit.unit), replicate 32 (0 :Int), PUnit.unit), (0, 0, PUnit.unit), y52, PUnit.unit)) fun y53 y54 y55 => some (((v_65 (y54.1) (wrap i64 (Int.tdiv (wrap i64 (y53 * (↑(length (y54.1.1)) : Int))) 2)) 0 y55).1, y54.2.1, PUnit.unit), (v_65 (y54.1) (wrap i64 (Int.tdiv (wrap i64 (y53 * (↑(length (y54.1.1)) : Int))) 2)) 0 y55).2.1, (v_65 (y54.1) (wrap i64 (Int.tdiv (wrap i64 (y53 * (↑(length (y54.1.1)) : Int))) 2)) 0 y55).2.2.1, PUnit.unit))))))))))
theorem fn_32 (a0 : (((List Int) × ((List Int) × (Int × Unit))) × ((List Int) × Unit))) (a1 : Int) (a2 : (Int × (Int × Unit))) : evFnL sm_32 FU (ovr noO (evFn sm_32 fns FU 0)) (ir32_t O_32_32_0) ir32 (ofH [Zy32_0, (.int .i64), Zy32_2] (a0, a1, a2, ())) [] (pureK [Zy32_0, Zy32_2, (.int .i64)]) = F_32 a0 a1 a2 := by kernel_rfl
noncomputable def Sp.p_32 (a0 : (((List Int) × ((List Int) × (Int × Unit))) × ((List Int) × Unit))) (a1 : Int) (a2 : (Int × (Int × Unit))) : Bool := (F_32 a0 a1 a2).isSome
noncomputable def Sp.v_32 (a0 : (((List Int) × ((List Int) × (Int × Unit))) × ((List Int) × Unit))) (a1 : Int) (a2 : (Int × (Int × Unit))) : (((List Int) × ((List Int) × (Int × Unit))) × ((List Int) × Unit)) × (Int × (Int × Unit)) × Int × Unit := (F_32 a0 a1 a2).getD (dfH [Zy32_0, Zy32_2, (.int .i64)])
noncomputable def s_32 : Summ := shS [Zy32_0, (.int .i64), Zy32_2] [Zy32_0, Zy32_2, (.int .i64)] (fun x => p_32 x.1 x.2.1 x.2.2.1) (fun x => v_32 x.1 x.2.1 x.2.2.1)
theorem pv_32 (a0 : (((List Int) × ((List Int) × (Int × Unit))) × ((List Int) × Unit))) (a1 : Int) (a2 : (Int × (Int × Unit))) {y : (((List Int) × ((List Int) × (Int × Unit))) × ((List Int) × Unit)) × (Int × (Int × Unit)) × Int × Unit} (h : F_32 a0 a1 a2 = some y) : p_32 a0 a1 a2 = true ∧ v_32 a0 a1 a2 = y := ⟨by rw [p_32, h]; rfl, by rw [v_32, h]; rfl⟩
theorem run_32 (x : HDen [Zy32_0, (.int .i64), Zy32_2]) (y : HDen [Zy32_0, Zy32_2, (.int .i64)]) (h : F_32 x.1 x.2.1 x.2.2.1 = some y) : evFn sm_32 fns FU 1 32 (ofH [Zy32_0, (.int .i64), Zy32_2] x) [] (pureK [Zy32_0, Zy32_2, (.int .i64)]) = some y :=
 evFnL_sound (fn := ir32) (t := (ir32_t O_32_32_0)) (o := noO) rfl noO_ok (ir32_tok (fun T k r => OK_32_32_0 T k r)) ((fn_32 _ _ _).trans h)
end
noncomputable section
abbrev Zt24_0 : Type := List Int × List Int × Int × Unit
abbrev Zy24_1 : Ty := (Ty.pair (Ty.slice (Ty.int u32)) (Ty.pair (Ty.slice (Ty.int i64)) (Ty.pair (Ty.int i64) Ty.unit)))
abbrev Zy24_2 : Ty := (.pair (.slice (.int .u32)) (.pair (.slice (.int .i64)) (.pair (.int .i64) .unit)))
noncomputable def sm_24 : Nat → Option Summ := fun f => none
noncomputable def T_24_0 (p0 : Int) (p1 p2 : Zt24_0) : St := St.mk ([jk, jk, CV.ptr 0 [], CV.ptr 1 [], jk, CV.int i64 p0] ++ (jl 60)) [Blk.mem (CV.pure Zy24_1 p1), Blk.mem (CV.pure Zy24_1 p2)] 0
noncomputable def X_24_0_0 : St := St.mk ([jk, jk, jk, jk, CV.bool false] ++ (jl 61)) [] 0
noncomputable def X_24_0_1 (p1 p2 : Zt24_0) : St := St.mk ([jk, jk, CV.ptr 0 [], CV.ptr 1 []] ++ (jl 62)) [Blk.mem (CV.pure Zy24_1 p1), Blk.mem (CV.pure Zy24_1 p2)] 0
inductive Sp.E_24_0 where
 | e0
 | e1 (p1 p2 : Zt24_0)
noncomputable def Sp.B_24_0 {R : Type} (r : Option E_24_0) (k0 : Option R) (k1 : Zt24_0 → Zt24_0 → Option R) : Option R := match r with
 | none => none
 | some (.e0) => k0
 | some (.e1 p1 p2) => k1 p1 p2
noncomputable def Sp.L_24_0 : Nat → Int → (List Int × List Int × Int × Unit) → (List Int × List Int × Int × Unit) → Option E_24_0
 | 0, _, _, _ => none
 | m + 1, p0, p1, p2 => bif decide (p0 < (↑(length (p1.1)) : Int)) then gd (inB p0 (length (p1.1))) (gd (inB p0 (length (p2.1))) (bif getD (p1.1) (toNat p0) 0 != getD (p2.1) (toNat p0) 0 then some (E_24_0.e0) else L_24_0 m (wrap i64 (p0 + 1)) p1 p2)) else some (E_24_0.e1 p1 p2)
noncomputable def G_24_0 {R : Type} (p0 : Int) (p1 p2 : Zt24_0) (k : Ex → St → Option R) : Option R := B_24_0 (L_24_0 FU p0 p1 p2) (k Ex.ret (X_24_0_0)) (fun p1 p2 => k (Ex.exit 0) (X_24_0_1 p1 p2))
noncomputable def o_24_0 {R : Type} (G : Int → Zt24_0 → Zt24_0 → (Ex → St → Option R) → Option R) : St → (Ex → St → Option R) → Option R := fun T k => match T.sl.getD 2 .junk, T.sl.getD 3 .junk, T.sl.getD 5 .junk, T.hp with
 | CV.ptr 0 [], CV.ptr 1 [], CV.int i64 p0, ((Blk.mem (CV.pure (Ty.pair (Ty.slice (Ty.int u32)) (Ty.pair (Ty.slice (Ty.int i64)) (Ty.pair (Ty.int i64) Ty.unit))) p1)) :: (Blk.mem (CV.pure (Ty.pair (Ty.slice (Ty.int u32)) (Ty.pair (Ty.slice (Ty.int i64)) (Ty.pair (Ty.int i64) Ty.unit))) p2)) :: []) => gd (shapeOK T 66 [2, 3, 5] 0) (G p0 p1 p2 k)
 | _, _, _, _ => none
theorem o_24_0_inv {R : Type} {G : Int → Zt24_0 → Zt24_0 → (Ex → St → Option R) → Option R} {T : St} {k : Ex → St → Option R} {r : R} (h : o_24_0 G T k = some r) : ∃ p0 p1 p2, T = T_24_0 p0 p1 p2 ∧ G p0 p1 p2 k = some r := by
 unfold o_24_0 at h
 split at h
 · obtain ⟨hs, h'⟩ := gd_some h
   refine ⟨_, _, _, (st_of (asg := [(2, _), (3, _), (5, _)]) hs ⟨by assumption, by assumption, by assumption, trivial⟩ (by assumption)).trans ?_, h'⟩
   kernel_rfl
 · cases h
noncomputable def T_24_1 (p0 : Int) (p1 p2 : Zt24_0) : St := St.mk ([jk, jk, CV.ptr 0 [], CV.ptr 1 [], jk, jk, CV.int i64 p0] ++ (jl 59)) [Blk.mem (CV.pure Zy24_1 p1), Blk.mem (CV.pure Zy24_1 p2)] 0
noncomputable def X_24_1_0 : St := St.mk ([jk, jk, jk, jk, CV.bool false] ++ (jl 61)) [] 0
noncomputable def X_24_1_1 : St := St.mk (jl 66) [] 0
inductive Sp.E_24_1 where
 | e0
 | e1
noncomputable def Sp.B_24_1 {R : Type} (r : Option E_24_1) (k0 k1 : Option R) : Option R := match r with
 | none => none
 | some (.e0) => k0
 | some (.e1) => k1
noncomputable def Sp.L_24_1 : Nat → Int → (List Int × List Int × Int × Unit) → (List Int × List Int × Int × Unit) → Option E_24_1
 | 0, _, _, _ => none
 | m + 1, p0, p1, p2 => bif decide (p0 < (↑(length (p1.2.1)) : Int)) then gd (inB p0 (length (p1.2.1))) (gd (inB p0 (length (p2.2.1))) (bif getD (p1.2.1) (toNat p0) 0 != getD (p2.2.1) (toNat p0) 0 then some (E_24_1.e0) else L_24_1 m (wrap i64 (p0 + 1)) p1 p2)) else some (E_24_1.e1)
noncomputable def G_24_1 {R : Type} (p0 : Int) (p1 p2 : Zt24_0) (k : Ex → St → Option R) : Option R := B_24_1 (L_24_1 FU p0 p1 p2) (k Ex.ret (X_24_1_0)) (k (Ex.exit 2) (X_24_1_1))
noncomputable def o_24_1 {R : Type} (G : Int → Zt24_0 → Zt24_0 → (Ex → St → Option R) → Option R) : St → (Ex → St → Option R) → Option R := fun T k => match T.sl.getD 2 .junk, T.sl.getD 3 .junk, T.sl.getD 6 .junk, T.hp with
 | CV.ptr 0 [], CV.ptr 1 [], CV.int i64 p0, ((Blk.mem (CV.pure (Ty.pair (Ty.slice (Ty.int u32)) (Ty.pair (Ty.slice (Ty.int i64)) (Ty.pair (Ty.int i64) Ty.unit))) p1)) :: (Blk.mem (CV.pure (Ty.pair (Ty.slice (Ty.int u32)) (Ty.pair (Ty.slice (Ty.int i64)) (Ty.pair (Ty.int i64) Ty.unit))) p2)) :: []) => gd (shapeOK T 66 [2, 3, 6] 0) (G p0 p1 p2 k)
 | _, _, _, _ => none
theorem o_24_1_inv {R : Type} {G : Int → Zt24_0 → Zt24_0 → (Ex → St → Option R) → Option R} {T : St} {k : Ex → St → Option R} {r : R} (h : o_24_1 G T k = some r) : ∃ p0 p1 p2, T = T_24_1 p0 p1 p2 ∧ G p0 p1 p2 k = some r := by
 unfold o_24_1 at h
 split at h
 · obtain ⟨hs, h'⟩ := gd_some h
   refine ⟨_, _, _, (st_of (asg := [(2, _), (3, _), (6, _)]) hs ⟨by assumption, by assumption, by assumption, trivial⟩ (by assumption)).trans ?_, h'⟩
   kernel_rfl
 · cases h
noncomputable def O_24_24_0 {R : Type} : St → (Ex → St → Option R) → Option R := fun T k => o_24_0 G_24_0 T k
noncomputable def O_24_24_1 {R : Type} : St → (Ex → St → Option R) → Option R := fun T k => o_24_1 G_24_1 T k
theorem body_24_0 {R : Type} (K0 : St → Option R) (K1 : Ex → St → Option R) (p0 : Int) (p1 p2 : Zt24_0) : evLB (evCodeL sm_24 FU (ovr noO (evFn sm_24 fns FU 0)) .nil ir24_b0) (St.norm ir24_v0) (T_24_0 p0 p1 p2) K0 K1 =
 bif decide (p0 < (↑(length (p1.1)) : Int)) then gd (inB p0 (length (p1.1))) (gd (inB p0 (length (p2.1))) (bif getD (p1.1) (toNat p0) 0 != getD (p2.1) (toNat p0) 0 then K1 Ex.ret X_24_0_0 else K0 (T_24_0 (wrap i64 (p0 + 1)) p1 p2))) else K1 (Ex.exit 0) (X_24_0_1 p1 p2) := by kernel_rfl
theorem Bgd_24_0 {R : Type} {c : Bool} {x : Option R} {y : Option E_24_0} {k0 : Option R} {k1 : Zt24_0 → Zt24_0 → Option R} (h : x = B_24_0 y k0 k1) : gd c x = B_24_0 (gd c y) k0 k1 := by cases c; rfl; exact h
theorem Bcond_24_0 {R : Type} {c : Bool} {x x' : Option R} {y y' : Option E_24_0} {k0 : Option R} {k1 : Zt24_0 → Zt24_0 → Option R} (h : x = B_24_0 y k0 k1) (h' : x' = B_24_0 y' k0 k1) : (bif c then x else x') = B_24_0 (bif c then y else y') k0 k1 := by cases c; exact h'; exact h
theorem loop_24_0 {R : Type} (k : Ex → St → Option R) : ∀ (m : Nat) (p0 : Int) (p1 : Zt24_0) (p2 : Zt24_0), evLoopN (evCodeL sm_24 FU (ovr noO (evFn sm_24 fns FU 0)) .nil ir24_b0) (St.norm ir24_v0) m (T_24_0 p0 p1 p2) k = B_24_0 (L_24_0 m p0 p1 p2) (k Ex.ret (X_24_0_0)) (fun p1 p2 => k (Ex.exit (0 : Nat)) (X_24_0_1 p1 p2))
 | 0, _, _, _ => rfl
 | m + 1, p0, p1, p2 => by
   rw [evLoopN_succ, body_24_0, L_24_0]
   repeat' first | apply Bgd_24_0 | apply Bcond_24_0 | exact loop_24_0 k m _ _ _ | rfl
theorem ok_24_0 {R : Type} (T : St) (k : Ex → St → Option R) (r : R) (h0 : o_24_0 G_24_0 T k = some r) : evLoopN (evCode sm_24 FU (evFn sm_24 fns FU 0) ir24_b0) (St.norm ir24_v0) FU T k = some r := by
 obtain ⟨p0, p1, p2, rfl, h⟩ := o_24_0_inv h0
 refine evLoopN_L (t := .nil) noO_ok trivial _ _ _ _ ?_
 rw [loop_24_0]
 exact h
theorem OK_24_24_0 {R : Type} (T : St) (k : Ex → St → Option R) (r : R) (h : O_24_24_0 T k = some r) : evLoopN (evCode sm_24 FU (evFn sm_24 fns FU 0) ir24_b0) (St.norm ir24_v0) FU T k = some r := ok_24_0 T k r h
theorem body_24_1 {R : Type} (K0 : St → Option R) (K1 : Ex → St → Option R) (p0 : Int) (p1 p2 : Zt24_0) : evLB (evCodeL sm_24 FU (ovr noO (evFn sm_24 fns FU 0)) .nil ir24_b1) (St.norm ir24_v1) (T_24_1 p0 p1 p2) K0 K1 =
 bif decide (p0 < (↑(length (p1.2.1)) : Int)) then gd (inB p0 (length (p1.2.1))) (gd (inB p0 (length (p2.2.1))) (bif getD (p1.2.1) (toNat p0) 0 != getD (p2.2.1) (toNat p0) 0 then K1 Ex.ret X_24_1_0 else K0 (T_24_1 (wrap i64 (p0 + 1)) p1 p2))) else K1 (Ex.exit 2) X_24_1_1 := by kernel_rfl
theorem Bgd_24_1 {R : Type} {c : Bool} {x : Option R} {y : Option E_24_1} {k0 : Option R} {k1 : Option R} (h : x = B_24_1 y k0 k1) : gd c x = B_24_1 (gd c y) k0 k1 := by cases c; rfl; exact h
theorem Bcond_24_1 {R : Type} {c : Bool} {x x' : Option R} {y y' : Option E_24_1} {k0 : Option R} {k1 : Option R} (h : x = B_24_1 y k0 k1) (h' : x' = B_24_1 y' k0 k1) : (bif c then x else x') = B_24_1 (bif c then y else y') k0 k1 := by cases c; exact h'; exact h
theorem loop_24_1 {R : Type} (k : Ex → St → Option R) : ∀ (m : Nat) (p0 : Int) (p1 : Zt24_0) (p2 : Zt24_0), evLoopN (evCodeL sm_24 FU (ovr noO (evFn sm_24 fns FU 0)) .nil ir24_b1) (St.norm ir24_v1) m (T_24_1 p0 p1 p2) k = B_24_1 (L_24_1 m p0 p1 p2) (k Ex.ret (X_24_1_0)) (k (Ex.exit (2 : Nat)) (X_24_1_1))
 | 0, _, _, _ => rfl
 | m + 1, p0, p1, p2 => by
   rw [evLoopN_succ, body_24_1, L_24_1]
   repeat' first | apply Bgd_24_1 | apply Bcond_24_1 | exact loop_24_1 k m _ _ _ | rfl
theorem ok_24_1 {R : Type} (T : St) (k : Ex → St → Option R) (r : R) (h0 : o_24_1 G_24_1 T k = some r) : evLoopN (evCode sm_24 FU (evFn sm_24 fns FU 0) ir24_b1) (St.norm ir24_v1) FU T k = some r := by
 obtain ⟨p0, p1, p2, rfl, h⟩ := o_24_1_inv h0
 refine evLoopN_L (t := .nil) noO_ok trivial _ _ _ _ ?_
 rw [loop_24_1]
 exact h
theorem OK_24_24_1 {R : Type} (T : St) (k : Ex → St → Option R) (r : R) (h : O_24_24_1 T k = some r) : evLoopN (evCode sm_24 FU (evFn sm_24 fns FU 0) ir24_b1) (St.norm ir24_v1) FU T k = some r := ok_24_1 T k r h
noncomputable def F_24 (a0 : ((List Int) × ((List Int) × (Int × Unit)))) (a1 : ((List Int) × ((List Int) × (Int × Unit)))) : Option (Bool × Unit) :=
 bif a0.2.2.1 != a1.2.2.1 then some (false, PUnit.unit) else bif (↑(length (a0.1)) : Int) != (↑(length (a1.1)) : Int) then some (false, PUnit.unit) else bif (↑(length (a0.2.1)) : Int) != (↑(length (a1.2.1)) : Int) then some (false, PUnit.unit) else B_24_0 (L_24_0 4611686018427387904 0 a0 a1) (some (false, PUnit.unit)) fun y2 y3 => B_24_1 (L_24_1 4611686018427387904 0 y2 y3) (some (false, PUnit.unit)) (some (true, PUnit.unit))
theorem fn_24 (a0 : ((List Int) × ((List Int) × (Int × Unit)))) (a1 : ((List Int) × ((List Int) × (Int × Unit)))) : evFnL sm_24 FU (ovr noO (evFn sm_24 fns FU 0)) (ir24_t O_24_24_0 O_24_24_1) ir24 (ofH [Zy24_2, Zy24_2] (a0, a1, ())) [] (pureK [.bool]) = F_24 a0 a1 := by kernel_rfl
noncomputable def Sp.p_24 (a0 : ((List Int) × ((List Int) × (Int × Unit)))) (a1 : ((List Int) × ((List Int) × (Int × Unit)))) : Bool := (F_24 a0 a1).isSome
noncomputable def Sp.v_24 (a0 : ((List Int) × ((List Int) × (Int × Unit)))) (a1 : ((List Int) × ((List Int) × (Int × Unit)))) : Bool × Unit := (F_24 a0 a1).getD (dfH [.bool])
noncomputable def s_24 : Summ := shN [Zy24_2, Zy24_2] [.bool] (fun x => p_24 x.1 x.2.1) (fun x => v_24 x.1 x.2.1)
theorem pv_24 (a0 : ((List Int) × ((List Int) × (Int × Unit)))) (a1 : ((List Int) × ((List Int) × (Int × Unit)))) {y : Bool × Unit} (h : F_24 a0 a1 = some y) : p_24 a0 a1 = true ∧ v_24 a0 a1 = y := ⟨by rw [p_24, h]; rfl, by rw [v_24, h]; rfl⟩
theorem run_24 (x : HDen [Zy24_2, Zy24_2]) (y : HDen [.bool]) (h : F_24 x.1 x.2.1 = some y) : evFn sm_24 fns FU 1 24 (ofH [Zy24_2, Zy24_2] x) [] (pureK [.bool]) = some y :=
 evFnL_sound (fn := ir24) (t := (ir24_t O_24_24_0 O_24_24_1)) (o := noO) rfl noO_ok (ir24_tok (fun T k r => OK_24_24_0 T k r) (fun T k r => OK_24_24_1 T k r)) ((fn_24 _ _).trans h)
end
noncomputable section
noncomputable def sm_33 : Nat → Option Summ := fun f => bif Nat.beq f 24 then some s_24 else none
noncomputable def F_33 (a0 : (((List Int) × ((List Int) × (Int × Unit))) × ((List Int) × Unit))) (a1 : (((List Int) × ((List Int) × (Int × Unit))) × ((List Int) × Unit))) : Option (Bool × Unit) :=
 bif Ty.beq (Ty.arr 32 (Ty.int u8)) (a0.2.1) (a1.2.1) then gd (p_24 (a0.1) (a1.1)) (some ((v_24 (a0.1) (a1.1)).1, PUnit.unit)) else some (false, PUnit.unit)
theorem fn_33 (a0 : (((List Int) × ((List Int) × (Int × Unit))) × ((List Int) × Unit))) (a1 : (((List Int) × ((List Int) × (Int × Unit))) × ((List Int) × Unit))) : evFnL sm_33 FU (ovr noO (evFn sm_33 fns FU 0)) .nil ir33 (ofH [(.pair (.pair (.slice (.int .u32)) (.pair (.slice (.int .i64)) (.pair (.int .i64) .unit))) (.pair (.arr 32 (.int .u8)) .unit)), (.pair (.pair (.slice (.int .u32)) (.pair (.slice (.int .i64)) (.pair (.int .i64) .unit))) (.pair (.arr 32 (.int .u8)) .unit))] (a0, a1, ())) [] (pureK [.bool]) = F_33 a0 a1 := by kernel_rfl
noncomputable def Sp.p_33 (a0 : (((List Int) × ((List Int) × (Int × Unit))) × ((List Int) × Unit))) (a1 : (((List Int) × ((List Int) × (Int × Unit))) × ((List Int) × Unit))) : Bool := (F_33 a0 a1).isSome
noncomputable def Sp.v_33 (a0 : (((List Int) × ((List Int) × (Int × Unit))) × ((List Int) × Unit))) (a1 : (((List Int) × ((List Int) × (Int × Unit))) × ((List Int) × Unit))) : Bool × Unit := (F_33 a0 a1).getD (dfH [.bool])
noncomputable def s_33 : Summ := shN [(.pair (.pair (.slice (.int .u32)) (.pair (.slice (.int .i64)) (.pair (.int .i64) .unit))) (.pair (.arr 32 (.int .u8)) .unit)), (.pair (.pair (.slice (.int .u32)) (.pair (.slice (.int .i64)) (.pair (.int .i64) .unit))) (.pair (.arr 32 (.int .u8)) .unit))] [.bool] (fun x => p_33 x.1 x.2.1) (fun x => v_33 x.1 x.2.1)
theorem pv_33 (a0 : (((List Int) × ((List Int) × (Int × Unit))) × ((List Int) × Unit))) (a1 : (((List Int) × ((List Int) × (Int × Unit))) × ((List Int) × Unit))) {y : Bool × Unit} (h : F_33 a0 a1 = some y) : p_33 a0 a1 = true ∧ v_33 a0 a1 = y := ⟨by rw [p_33, h]; rfl, by rw [v_33, h]; rfl⟩
theorem run_33 (x : HDen [(.pair (.pair (.slice (.int .u32)) (.pair (.slice (.int .i64)) (.pair (.int .i64) .unit))) (.pair (.arr 32 (.int .u8)) .unit)), (.pair (.pair (.slice (.int .u32)) (.pair (.slice (.int .i64)) (.pair (.int .i64) .unit))) (.pair (.arr 32 (.int .u8)) .unit))]) (y : HDen [.bool]) (h : F_33 x.1 x.2.1 = some y) : evFn sm_33 fns FU 1 33 (ofH [(.pair (.pair (.slice (.int .u32)) (.pair (.slice (.int .i64)) (.pair (.int .i64) .unit))) (.pair (.arr 32 (.int .u8)) .unit)), (.pair (.pair (.slice (.int .u32)) (.pair (.slice (.int .i64)) (.pair (.int .i64) .unit))) (.pair (.arr 32 (.int .u8)) .unit))] x) [] (pureK [.bool]) = some y :=
 evFnL_sound (fn := ir33) (t := .nil) (o := noO) rfl noO_ok trivial ((fn_33 _ _).trans h)
end
noncomputable section
noncomputable def sm_6 : Nat → Option Summ := fun f => bif Nat.beq f 10 then some s_10 else bif Nat.beq f 11 then some s_11 else bif Nat.beq f 31 then some s_31 else bif Nat.beq f 32 then some s_32 else bif Nat.beq f 33 then some s_33 else none
noncomputable def F_6 (a0 : (((List Int) × ((List Int) × (Int × Unit))) × ((List Int) × Unit))) (a1 : Int) (a2 : (Int × (Int × Unit))) : Option (Bool) :=
 gd p_10 (bif !v_10.1 then some false else gd (p_11 a0) (bif !(v_11 a0).1 then some true else gd (p_31 a0 a1 a2) (gd (p_32 a0 a1 a2) (gd (p_33 ((v_31 a0 a1 a2).1) ((v_32 a0 a1 a2).1)) (bif (v_33 ((v_31 a0 a1 a2).1) ((v_32 a0 a1 a2).1)).1 then bif Ty.beq (Ty.pair (Ty.int i64) (Ty.pair (Ty.int u32) Ty.unit)) ((v_31 a0 a1 a2).2.1) ((v_32 a0 a1 a2).2.1) then some ((v_31 a0 a1 a2).2.2.1 == (v_32 a0 a1 a2).2.2.1) else some false else some false)))))
theorem fn_6 (a0 : (((List Int) × ((List Int) × (Int × Unit))) × ((List Int) × Unit))) (a1 : Int) (a2 : (Int × (Int × Unit))) : evFnL sm_6 FU (ovr noO (evFn sm_6 fns FU 0)) .nil ir6 (ofH [(.pair (.pair (.slice (.int .u32)) (.pair (.slice (.int .i64)) (.pair (.int .i64) .unit))) (.pair (.arr 32 (.int .u8)) .unit)), (.int .i64), (.pair (.int .i64) (.pair (.int .u32) .unit))] (a0, a1, a2, ())) [] bk = F_6 a0 a1 a2 := by kernel_rfl
theorem run_6 (a0 : (((List Int) × ((List Int) × (Int × Unit))) × ((List Int) × Unit))) (a1 : Int) (a2 : (Int × (Int × Unit))) {b : Bool} (h : F_6 a0 a1 a2 = some b) : evFn sm_6 fns FU 1 6 (ofH [(.pair (.pair (.slice (.int .u32)) (.pair (.slice (.int .i64)) (.pair (.int .i64) .unit))) (.pair (.arr 32 (.int .u8)) .unit)), (.int .i64), (.pair (.int .i64) (.pair (.int .u32) .unit))] (a0, a1, a2, ())) [] bk = some b :=
 evFnL_sound (fn := ir6) (t := .nil) (o := noO) rfl noO_ok trivial ((fn_6 _ _ _).trans h)
end
end Go.Ev
namespace Go.Proofs
open Go.Shelf
noncomputable def Try.clone61_ren : Go.Shelf.Ren := ⟨fun | 41 => 61 | n => n, fun | 22 => 22 | 23 => 42 | 4 => 4 | n => n, fun | n => n⟩
theorem Try.clone61 : Go.Proofs.SlLaysE0.n41 Try.prog Try.clone61_ren := {
 mixed := by kernel_rfl
 f41 := ⟨Try.f61.name, by decide, Try.func61.trans (congrArg some (by kernel_rfl))⟩
 t4 := Try.underlying4
 a4 := Try.isAgg4
 z4 := Try.sizeOf4
 v4 := Try.zeroValue4
 t22 := Try.underlying22
 a22 := Try.isAgg22
 z22 := Try.sizeOf22
 v22 := Try.zeroValue22 }
noncomputable def Try.clone103_ren : Go.Shelf.Ren := ⟨fun | 41 => 103 | n => n, fun | 22 => 23 | 23 => 3 | 4 => 4 | n => n, fun | n => n⟩
theorem Try.clone103 : Go.Proofs.SlLaysE0.n41 Try.prog Try.clone103_ren := {
 mixed := by kernel_rfl
 f41 := ⟨Try.f103.name, by decide, Try.func103.trans (congrArg some (by kernel_rfl))⟩
 t4 := Try.underlying4
 a4 := Try.isAgg4
 z4 := Try.sizeOf4
 v4 := Try.zeroValue4
 t22 := Try.underlying23
 a22 := Try.isAgg23
 z22 := Try.sizeOf23
 v22 := Try.zeroValue23 }
end Go.Proofs
namespace Go.Ev
open Go Go.Proofs Go.RowKit
set_option maxRecDepth 100000
set_option maxHeartbeats 4000000
noncomputable def smB : Nat → Bool := fun f => [10, 11, 12, 13, 14, 16, 17, 18, 19, 20, 21, 22, 23, 24, 25, 26, 27, 28, 29, 30, 31, 32, 33, 34, 35, 36, 37, 38, 39, 40, 41, 42, 43, 44, 45, 46, 47, 48, 49, 50, 51, 52, 53, 54, 55, 56, 57, 58, 59, 60, 61, 62, 63, 64, 65, 66, 69, 70, 71, 72, 73, 74, 77, 78, 79, 81, 83, 84, 85, 86, 87, 88, 89, 90, 91, 94, 95, 96, 97, 99, 100, 101, 102, 103, 104, 105, 106, 107, 108].contains f
theorem hm0 : Try.prog.follows .mixedOrders = true := by kernel_rfl
theorem key6 : fnKey Try.prog smB 6 = ir6.key := by kernel_rfl
theorem key10 : fnKey Try.prog smB 10 = ir10.key := by kernel_rfl
theorem key11 : fnKey Try.prog smB 11 = ir11.key := by kernel_rfl
theorem key12 : fnKey Try.prog smB 12 = ir12.key := by kernel_rfl
theorem key13 : fnKey Try.prog smB 13 = ir13.key := by kernel_rfl
theorem key14 : fnKey Try.prog smB 14 = ir14.key := by kernel_rfl
theorem key15 : fnKey Try.prog smB 15 = ir15.key := by kernel_rfl
theorem key16 : fnKey Try.prog smB 16 = ir16.key := by kernel_rfl
theorem key17 : fnKey Try.prog smB 17 = ir17.key := by kernel_rfl
theorem key18 : fnKey Try.prog smB 18 = ir18.key := by kernel_rfl
theorem key19 : fnKey Try.prog smB 19 = ir19.key := by kernel_rfl
theorem key20 : fnKey Try.prog smB 20 = ir20.key := by kernel_rfl
theorem key21 : fnKey Try.prog smB 21 = ir21.key := by kernel_rfl
theorem key22 : fnKey Try.prog smB 22 = ir22.key := by kernel_rfl
theorem key24 : fnKey Try.prog smB 24 = ir24.key := by kernel_rfl
theorem key25 : fnKey Try.prog smB 25 = ir25.key := by kernel_rfl
theorem key26 : fnKey Try.prog smB 26 = ir26.key := by kernel_rfl
theorem key31 : fnKey Try.prog smB 31 = ir31.key := by kernel_rfl
theorem key32 : fnKey Try.prog smB 32 = ir32.key := by kernel_rfl
theorem key33 : fnKey Try.prog smB 33 = ir33.key := by kernel_rfl
theorem key34 : fnKey Try.prog smB 34 = ir34.key := by kernel_rfl
theorem key35 : fnKey Try.prog smB 35 = ir35.key := by kernel_rfl
theorem key40 : fnKey Try.prog smB 40 = ir40.key := by kernel_rfl
theorem key41 : fnKey Try.prog smB 41 = ir41.key := by kernel_rfl
theorem key42 : fnKey Try.prog smB 42 = ir42.key := by kernel_rfl
theorem key43 : fnKey Try.prog smB 43 = ir43.key := by kernel_rfl
theorem key44 : fnKey Try.prog smB 44 = ir44.key := by kernel_rfl
theorem key45 : fnKey Try.prog smB 45 = ir45.key := by kernel_rfl
theorem key46 : fnKey Try.prog smB 46 = ir46.key := by kernel_rfl
theorem key47 : fnKey Try.prog smB 47 = ir47.key := by kernel_rfl
theorem key48 : fnKey Try.prog smB 48 = ir48.key := by kernel_rfl
theorem key49 : fnKey Try.prog smB 49 = ir49.key := by kernel_rfl
theorem key50 : fnKey Try.prog smB 50 = ir50.key := by kernel_rfl
theorem key51 : fnKey Try.prog smB 51 = ir51.key := by kernel_rfl
theorem key52 : fnKey Try.prog smB 52 = ir52.key := by kernel_rfl
theorem key53 : fnKey Try.prog smB 53 = ir53.key := by kernel_rfl
theorem key54 : fnKey Try.prog smB 54 = ir54.key := by kernel_rfl
theorem key56 : fnKey Try.prog smB 56 = ir56.key := by kernel_rfl
theorem key57 : fnKey Try.prog smB 57 = ir57.key := by kernel_rfl
theorem key58 : fnKey Try.prog smB 58 = ir58.key := by kernel_rfl
theorem key59 : fnKey Try.prog smB 59 = ir59.key := by kernel_rfl
theorem key60 : fnKey Try.prog smB 60 = ir60.key := by kernel_rfl
theorem key63 : fnKey Try.prog smB 63 = ir63.key := by kernel_rfl
theorem key64 : fnKey Try.prog smB 64 = ir64.key := by kernel_rfl
theorem key65 : fnKey Try.prog smB 65 = ir65.key := by kernel_rfl
theorem key66 : fnKey Try.prog smB 66 = ir66.key := by kernel_rfl
theorem key67 : fnKey Try.prog smB 67 = ir67.key := by kernel_rfl
theorem key68 : fnKey Try.prog smB 68 = ir68.key := by kernel_rfl
theorem key69 : fnKey Try.prog smB 69 = ir69.key := by kernel_rfl
theorem key70 : fnKey Try.prog smB 70 = ir70.key := by kernel_rfl
theorem key73 : fnKey Try.prog smB 73 = ir73.key := by kernel_rfl
theorem key75 : fnKey Try.prog smB 75 = ir75.key := by kernel_rfl
theorem key76 : fnKey Try.prog smB 76 = ir76.key := by kernel_rfl
theorem key77 : fnKey Try.prog smB 77 = ir77.key := by kernel_rfl
theorem key78 : fnKey Try.prog smB 78 = ir78.key := by kernel_rfl
theorem key79 : fnKey Try.prog smB 79 = ir79.key := by kernel_rfl
theorem key80 : fnKey Try.prog smB 80 = ir80.key := by kernel_rfl
theorem key81 : fnKey Try.prog smB 81 = ir81.key := by kernel_rfl
theorem key82 : fnKey Try.prog smB 82 = ir82.key := by kernel_rfl
theorem key83 : fnKey Try.prog smB 83 = ir83.key := by kernel_rfl
theorem key84 : fnKey Try.prog smB 84 = ir84.key := by kernel_rfl
theorem key85 : fnKey Try.prog smB 85 = ir85.key := by kernel_rfl
theorem key86 : fnKey Try.prog smB 86 = ir86.key := by kernel_rfl
theorem key87 : fnKey Try.prog smB 87 = ir87.key := by kernel_rfl
theorem key88 : fnKey Try.prog smB 88 = ir88.key := by kernel_rfl
theorem key89 : fnKey Try.prog smB 89 = ir89.key := by kernel_rfl
theorem key90 : fnKey Try.prog smB 90 = ir90.key := by kernel_rfl
theorem key91 : fnKey Try.prog smB 91 = ir91.key := by kernel_rfl
theorem key92 : fnKey Try.prog smB 92 = ir92.key := by kernel_rfl
theorem key93 : fnKey Try.prog smB 93 = ir93.key := by kernel_rfl
theorem key94 : fnKey Try.prog smB 94 = ir94.key := by kernel_rfl
theorem key95 : fnKey Try.prog smB 95 = ir95.key := by kernel_rfl
theorem key96 : fnKey Try.prog smB 96 = ir96.key := by kernel_rfl
theorem key98 : fnKey Try.prog smB 98 = ir98.key := by kernel_rfl
theorem key99 : fnKey Try.prog smB 99 = ir99.key := by kernel_rfl
theorem key100 : fnKey Try.prog smB 100 = ir100.key := by kernel_rfl
theorem key101 : fnKey Try.prog smB 101 = ir101.key := by kernel_rfl
theorem key102 : fnKey Try.prog smB 102 = ir102.key := by kernel_rfl
theorem key104 : fnKey Try.prog smB 104 = ir104.key := by kernel_rfl
theorem key105 : fnKey Try.prog smB 105 = ir105.key := by kernel_rfl
theorem key106 : fnKey Try.prog smB 106 = ir106.key := by kernel_rfl
theorem key107 : fnKey Try.prog smB 107 = ir107.key := by kernel_rfl
theorem key108 : fnKey Try.prog smB 108 = ir108.key := by kernel_rfl
theorem fns_ok : FnsOK Try.prog smB fns := by
 intro f fn h
 unfold fns at h
 split at h
 · simp only [Option.some.injEq] at h; subst h; exact key6
 · simp only [Option.some.injEq] at h; subst h; exact key10
 · simp only [Option.some.injEq] at h; subst h; exact key11
 · simp only [Option.some.injEq] at h; subst h; exact key12
 · simp only [Option.some.injEq] at h; subst h; exact key13
 · simp only [Option.some.injEq] at h; subst h; exact key14
 · simp only [Option.some.injEq] at h; subst h; exact key15
 · simp only [Option.some.injEq] at h; subst h; exact key16
 · simp only [Option.some.injEq] at h; subst h; exact key17
 · simp only [Option.some.injEq] at h; subst h; exact key18
 · simp only [Option.some.injEq] at h; subst h; exact key19
 · simp only [Option.some.injEq] at h; subst h; exact key20
 · simp only [Option.some.injEq] at h; subst h; exact key21
 · simp only [Option.some.injEq] at h; subst h; exact key22
 · simp only [Option.some.injEq] at h; subst h; exact key24
 · simp only [Option.some.injEq] at h; subst h; exact key25
 · simp only [Option.some.injEq] at h; subst h; exact key26
 · simp only [Option.some.injEq] at h; subst h; exact key31
 · simp only [Option.some.injEq] at h; subst h; exact key32
 · simp only [Option.some.injEq] at h; subst h; exact key33
 · simp only [Option.some.injEq] at h; subst h; exact key34
 · simp only [Option.some.injEq] at h; subst h; exact key35
 · simp only [Option.some.injEq] at h; subst h; exact key40
 · simp only [Option.some.injEq] at h; subst h; exact key41
 · simp only [Option.some.injEq] at h; subst h; exact key42
 · simp only [Option.some.injEq] at h; subst h; exact key43
 · simp only [Option.some.injEq] at h; subst h; exact key44
 · simp only [Option.some.injEq] at h; subst h; exact key45
 · simp only [Option.some.injEq] at h; subst h; exact key46
 · simp only [Option.some.injEq] at h; subst h; exact key47
 · simp only [Option.some.injEq] at h; subst h; exact key48
 · simp only [Option.some.injEq] at h; subst h; exact key49
 · simp only [Option.some.injEq] at h; subst h; exact key50
 · simp only [Option.some.injEq] at h; subst h; exact key51
 · simp only [Option.some.injEq] at h; subst h; exact key52
 · simp only [Option.some.injEq] at h; subst h; exact key53
 · simp only [Option.some.injEq] at h; subst h; exact key54
 · simp only [Option.some.injEq] at h; subst h; exact key56
 · simp only [Option.some.injEq] at h; subst h; exact key57
 · simp only [Option.some.injEq] at h; subst h; exact key58
 · simp only [Option.some.injEq] at h; subst h; exact key59
 · simp only [Option.some.injEq] at h; subst h; exact key60
 · simp only [Option.some.injEq] at h; subst h; exact key63
 · simp only [Option.some.injEq] at h; subst h; exact key64
 · simp only [Option.some.injEq] at h; subst h; exact key65
 · simp only [Option.some.injEq] at h; subst h; exact key66
 · simp only [Option.some.injEq] at h; subst h; exact key67
 · simp only [Option.some.injEq] at h; subst h; exact key68
 · simp only [Option.some.injEq] at h; subst h; exact key69
 · simp only [Option.some.injEq] at h; subst h; exact key70
 · simp only [Option.some.injEq] at h; subst h; exact key73
 · simp only [Option.some.injEq] at h; subst h; exact key75
 · simp only [Option.some.injEq] at h; subst h; exact key76
 · simp only [Option.some.injEq] at h; subst h; exact key77
 · simp only [Option.some.injEq] at h; subst h; exact key78
 · simp only [Option.some.injEq] at h; subst h; exact key79
 · simp only [Option.some.injEq] at h; subst h; exact key80
 · simp only [Option.some.injEq] at h; subst h; exact key81
 · simp only [Option.some.injEq] at h; subst h; exact key82
 · simp only [Option.some.injEq] at h; subst h; exact key83
 · simp only [Option.some.injEq] at h; subst h; exact key84
 · simp only [Option.some.injEq] at h; subst h; exact key85
 · simp only [Option.some.injEq] at h; subst h; exact key86
 · simp only [Option.some.injEq] at h; subst h; exact key87
 · simp only [Option.some.injEq] at h; subst h; exact key88
 · simp only [Option.some.injEq] at h; subst h; exact key89
 · simp only [Option.some.injEq] at h; subst h; exact key90
 · simp only [Option.some.injEq] at h; subst h; exact key91
 · simp only [Option.some.injEq] at h; subst h; exact key92
 · simp only [Option.some.injEq] at h; subst h; exact key93
 · simp only [Option.some.injEq] at h; subst h; exact key94
 · simp only [Option.some.injEq] at h; subst h; exact key95
 · simp only [Option.some.injEq] at h; subst h; exact key96
 · simp only [Option.some.injEq] at h; subst h; exact key98
 · simp only [Option.some.injEq] at h; subst h; exact key99
 · simp only [Option.some.injEq] at h; subst h; exact key100
 · simp only [Option.some.injEq] at h; subst h; exact key101
 · simp only [Option.some.injEq] at h; subst h; exact key102
 · simp only [Option.some.injEq] at h; subst h; exact key104
 · simp only [Option.some.injEq] at h; subst h; exact key105
 · simp only [Option.some.injEq] at h; subst h; exact key106
 · simp only [Option.some.injEq] at h; subst h; exact key107
 · simp only [Option.some.injEq] at h; subst h; exact key108
 · cases h
theorem info61 : ∃ i, Try.prog.info? 42 = some i ∧ i.zero = some (.int .u32 0) ∧ i.size = 1 ∧ i.bytes = 4 := ⟨_, rfl, by kernel_rfl, by kernel_rfl, by kernel_rfl⟩
theorem sok_61 : SummOK Try.prog 61 (vecS (.int .u32) 42 4) := by
 obtain ⟨i, hi, h0, h1, h2⟩ := info61
 exact clone_vec (by kernel_rfl) (by decide)
   (fun b off n c news w hl hn hb hc h3 => AnyE.slices_Clone Try.clone61 i _ 1 4 hi h0 h1 h2 (by kernel_rfl) (by decide) Try.sizeOf42 b off n c news w hl hn hb hc h3)
   (fun n c w => AnyE.slices_Clone_nil Try.clone61 n c w)
   (fun a c w => clone_zero Try.clone61 i _ 1 4 hi h0 h1 h2 (by kernel_rfl) (by decide) Try.sizeOf42 a c w)
theorem info103 : ∃ i, Try.prog.info? 3 = some i ∧ i.zero = some (.int .i64 0) ∧ i.size = 1 ∧ i.bytes = 8 := ⟨_, rfl, by kernel_rfl, by kernel_rfl, by kernel_rfl⟩
theorem sok_103 : SummOK Try.prog 103 (vecS (.int .i64) 3 8) := by
 obtain ⟨i, hi, h0, h1, h2⟩ := info103
 exact clone_vec (by kernel_rfl) (by decide)
   (fun b off n c news w hl hn hb hc h3 => AnyE.slices_Clone Try.clone103 i _ 1 8 hi h0 h1 h2 (by kernel_rfl) (by decide) Try.sizeOf3 b off n c news w hl hn hb hc h3)
   (fun n c w => AnyE.slices_Clone_nil Try.clone103 n c w)
   (fun a c w => clone_zero Try.clone103 i _ 1 8 hi h0 h1 h2 (by kernel_rfl) (by decide) Try.sizeOf3 a c w)
noncomputable def grow77_ren : Go.Shelf.Ren := ⟨fun | 4 => 77 | n => n, fun | 25 => 42 | 22 => 22 | n => n, fun | n => n⟩
theorem grow77_lay : Go.Proofs.Lays8.n4 Try.prog grow77_ren := {
 mixed := by kernel_rfl
 f4 := ⟨Try.f77.name, by decide, Try.func77.trans (congrArg some (by kernel_rfl))⟩
 t0 := Try.underlying0
 a0 := Try.isAgg0
 z0 := Try.sizeOf0
 v0 := Try.zeroValue0
 t3 := Try.underlying3
 a3 := Try.isAgg3
 z3 := Try.sizeOf3
 v3 := Try.zeroValue3
 t4 := Try.underlying4
 a4 := Try.isAgg4
 z4 := Try.sizeOf4
 v4 := Try.zeroValue4
 t9 := Try.underlying9
 a9 := Try.isAgg9
 z9 := Try.sizeOf9
 v9 := Try.zeroValue9
 t20 := Try.underlying20
 a20 := Try.isAgg20
 z20 := Try.sizeOf20
 v20 := Try.zeroValue20
 t22 := Try.underlying22
 a22 := Try.isAgg22
 z22 := Try.sizeOf22
 v22 := Try.zeroValue22 }
theorem growinfo77 : ∃ i, Try.prog.info? 42 = some i ∧ i.zero = some (.int .u32 0) ∧ i.size = 1 ∧ i.bytes = 4 := ⟨_, rfl, by kernel_rfl, by kernel_rfl, by kernel_rfl⟩
theorem sok_77 : SummOK Try.prog 77 (growS (.int .u32) 42 4) := by
 obtain ⟨i, hi, h0, h1, h2⟩ := growinfo77
 exact grow_vec (by kernel_rfl) (by decide) (fun n w hn hb => grow_calls grow77_lay i _ 1 4 hi h0 h1 h2 (by decide) (by decide) (by rfl) n w hn hb)
theorem smok_40 : ∀ f s, sm_40 f = some s → SummOK Try.prog f s := by
 intro f s h
 unfold sm_40 at h
 cases h
theorem call_40 {R : Type} (n base : Nat) : CallOK Try.prog base (evFn (R := R) sm_40 fns FU n) := ev_sound hm0 smok_40 (fun f s h => (smok_40 f s h).2.1) fns_ok n
theorem sok_40 : SummOK Try.prog 40 s_40 := summ_shN (by decide) (fun _ => rfl) (fun _ => rfl) (call_40 4) (by kernel_rfl) run_40
theorem smok_41 : ∀ f s, sm_41 f = some s → SummOK Try.prog f s := by
 intro f s h
 unfold sm_41 at h
 cases h
theorem call_41 {R : Type} (n base : Nat) : CallOK Try.prog base (evFn (R := R) sm_41 fns FU n) := ev_sound hm0 smok_41 (fun f s h => (smok_41 f s h).2.1) fns_ok n
theorem sok_41 : SummOK Try.prog 41 s_41 := summ_shN (by decide) (fun _ => rfl) (fun _ => rfl) (call_41 1) (by kernel_rfl) run_41
theorem smok_12 : ∀ f s, sm_12 f = some s → SummOK Try.prog f s := by
 intro f s h
 unfold sm_12 at h
 by_cases h40 : f = 40
 · subst h40
   injection h with h
   subst h
   exact sok_40
 rw [nbeq_ne h40, cond_false] at h
 by_cases h41 : f = 41
 · subst h41
   injection h with h
   subst h
   exact sok_41
 rw [nbeq_ne h41, cond_false] at h
 cases h
theorem call_12 {R : Type} (n base : Nat) : CallOK Try.prog base (evFn (R := R) sm_12 fns FU n) := ev_sound hm0 smok_12 (fun f s h => (smok_12 f s h).2.1) fns_ok n
theorem sok_12 : SummOK Try.prog 12 s_12 := summ_shN (by decide) (fun _ => rfl) (fun _ => rfl) (call_12 1) (by kernel_rfl) run_12
theorem smok_42 : ∀ f s, sm_42 f = some s → SummOK Try.prog f s := by
 intro f s h
 unfold sm_42 at h
 cases h
theorem call_42 {R : Type} (n base : Nat) : CallOK Try.prog base (evFn (R := R) sm_42 fns FU n) := ev_sound hm0 smok_42 (fun f s h => (smok_42 f s h).2.1) fns_ok n
theorem sok_42 : SummOK Try.prog 42 s_42 := summ_sh (fun _ => rfl) (fun _ => rfl) (call_42 1) (by kernel_rfl) run_42
theorem smok_46 : ∀ f s, sm_46 f = some s → SummOK Try.prog f s := by
 intro f s h
 unfold sm_46 at h
 cases h
theorem call_46 {R : Type} (n base : Nat) : CallOK Try.prog base (evFn (R := R) sm_46 fns FU n) := ev_sound hm0 smok_46 (fun f s h => (smok_46 f s h).2.1) fns_ok n
theorem sok_46 : SummOK Try.prog 46 s_46 := summ_shN (by decide) (fun _ => rfl) (fun _ => rfl) (call_46 1) (by kernel_rfl) run_46
theorem smok_44 : ∀ f s, sm_44 f = some s → SummOK Try.prog f s := by
 intro f s h
 unfold sm_44 at h
 cases h
theorem call_44 {R : Type} (n base : Nat) : CallOK Try.prog base (evFn (R := R) sm_44 fns FU n) := ev_sound hm0 smok_44 (fun f s h => (smok_44 f s h).2.1) fns_ok n
theorem sok_44 : SummOK Try.prog 44 s_44 := summ_sh (fun _ => rfl) (fun _ => rfl) (call_44 1) (by kernel_rfl) run_44
theorem smok_81 : ∀ f s, sm_81 f = some s → SummOK Try.prog f s := by
 intro f s h
 unfold sm_81 at h
 cases h
theorem call_81 {R : Type} (n base : Nat) : CallOK Try.prog base (evFn (R := R) sm_81 fns FU n) := ev_sound hm0 smok_81 (fun f s h => (smok_81 f s h).2.1) fns_ok n
theorem sok_81 : SummOK Try.prog 81 s_81 := summ_sh (fun _ => rfl) (fun _ => rfl) (call_81 2) (by kernel_rfl) run_81
theorem smok_47 : ∀ f s, sm_47 f = some s → SummOK Try.prog f s := by
 intro f s h
 unfold sm_47 at h
 by_cases h44 : f = 44
 · subst h44
   injection h with h
   subst h
   exact sok_44
 rw [nbeq_ne h44, cond_false] at h
 by_cases h81 : f = 81
 · subst h81
   injection h with h
   subst h
   exact sok_81
 rw [nbeq_ne h81, cond_false] at h
 by_cases h99 : f = 99
 · subst h99
   injection h with h
   subst h
   exact sok_99
 rw [nbeq_ne h99, cond_false] at h
 cases h
theorem call_47 {R : Type} (n base : Nat) : CallOK Try.prog base (evFn (R := R) sm_47 fns FU n) := ev_sound hm0 smok_47 (fun f s h => (smok_47 f s h).2.1) fns_ok n
theorem sok_47 : SummOK Try.prog 47 s_47 := summ_sh (fun _ => rfl) (fun _ => rfl) (call_47 3) (by kernel_rfl) run_47
theorem smok_14 : ∀ f s, sm_14 f = some s → SummOK Try.prog f s := by
 intro f s h
 unfold sm_14 at h
 by_cases h12 : f = 12
 · subst h12
   injection h with h
   subst h
   exact sok_12
 rw [nbeq_ne h12, cond_false] at h
 by_cases h42 : f = 42
 · subst h42
   injection h with h
   subst h
   exact sok_42
 rw [nbeq_ne h42, cond_false] at h
 by_cases h46 : f = 46
 · subst h46
   injection h with h
   subst h
   exact sok_46
 rw [nbeq_ne h46, cond_false] at h
 by_cases h47 : f = 47
 · subst h47
   injection h with h
   subst h
   exact sok_47
 rw [nbeq_ne h47, cond_false] at h
 cases h
theorem call_14 {R : Type} (n base : Nat) : CallOK Try.prog base (evFn (R := R) sm_14 fns FU n) := ev_sound hm0 smok_14 (fun f s h => (smok_14 f s h).2.1) fns_ok n
theorem sok_14 : SummOK Try.prog 14 s_14 := summ_sh (fun _ => rfl) (fun _ => rfl) (call_14 1) (by kernel_rfl) run_14
theorem smok_66 : ∀ f s, sm_66 f = some s → SummOK Try.prog f s := by
 intro f s h
 unfold sm_66 at h
 cases h
theorem call_66 {R : Type} (n base : Nat) : CallOK Try.prog base (evFn (R := R) sm_66 fns FU n) := ev_sound hm0 smok_66 (fun f s h => (smok_66 f s h).2.1) fns_ok n
theorem sok_66 : SummOK Try.prog 66 s_66 := summ_shN (by decide) (fun _ => rfl) (fun _ => rfl) (call_66 1) (by kernel_rfl) run_66
theorem smok_95 : ∀ f s, sm_95 f = some s → SummOK Try.prog f s := by
 intro f s h
 unfold sm_95 at h
 cases h
theorem call_95 {R : Type} (n base : Nat) : CallOK Try.prog base (evFn (R := R) sm_95 fns FU n) := ev_sound hm0 smok_95 (fun f s h => (smok_95 f s h).2.1) fns_ok n
theorem sok_95 : SummOK Try.prog 95 s_95 := summ_shN (by decide) (fun _ => rfl) (fun _ => rfl) (call_95 1) (by kernel_rfl) run_95
theorem smok_104 : ∀ f s, sm_104 f = some s → SummOK Try.prog f s := by
 intro f s h
 unfold sm_104 at h
 cases h
theorem call_104 {R : Type} (n base : Nat) : CallOK Try.prog base (evFn (R := R) sm_104 fns FU n) := ev_sound hm0 smok_104 (fun f s h => (smok_104 f s h).2.1) fns_ok n
theorem sok_104 : SummOK Try.prog 104 s_104 := summ_shN (by decide) (fun _ => rfl) (fun _ => rfl) (call_104 1) (by kernel_rfl) run_104
theorem smok_96 : ∀ f s, sm_96 f = some s → SummOK Try.prog f s := by
 intro f s h
 unfold sm_96 at h
 by_cases h104 : f = 104
 · subst h104
   injection h with h
   subst h
   exact sok_104
 rw [nbeq_ne h104, cond_false] at h
 cases h
theorem call_96 {R : Type} (n base : Nat) : CallOK Try.prog base (evFn (R := R) sm_96 fns FU n) := ev_sound hm0 smok_96 (fun f s h => (smok_96 f s h).2.1) fns_ok n
theorem sok_96 : SummOK Try.prog 96 s_96 := summ_shN (by decide) (fun _ => rfl) (fun _ => rfl) (call_96 1) (by kernel_rfl) run_96
theorem smok_35 : ∀ f s, sm_35 f = some s → SummOK Try.prog f s := by
 intro f s h
 unfold sm_35 at h
 by_cases h66 : f = 66
 · subst h66
   injection h with h
   subst h
   exact sok_66
 rw [nbeq_ne h66, cond_false] at h
 by_cases h95 : f = 95
 · subst h95
   injection h with h
   subst h
   exact sok_95
 rw [nbeq_ne h95, cond_false] at h
 by_cases h96 : f = 96
 · subst h96
   injection h with h
   subst h
   exact sok_96
 rw [nbeq_ne h96, cond_false] at h
 cases h
theorem call_35 {R : Type} (n base : Nat) : CallOK Try.prog base (evFn (R := R) sm_35 fns FU n) := ev_sound hm0 smok_35 (fun f s h => (smok_35 f s h).2.1) fns_ok n
theorem sok_35 : SummOK Try.prog 35 s_35 := summ_shN (by decide) (fun _ => rfl) (fun _ => rfl) (call_35 2) (by kernel_rfl) run_35
theorem smok_43 : ∀ f s, sm_43 f = some s → SummOK Try.prog f s := by
 intro f s h
 unfold sm_43 at h
 by_cases h77 : f = 77
 · subst h77
   injection h with h
   subst h
   exact sok_77
 rw [nbeq_ne h77, cond_false] at h
 cases h
theorem call_43 {R : Type} (n base : Nat) : CallOK Try.prog base (evFn (R := R) sm_43 fns FU n) := ev_sound hm0 smok_43 (fun f s h => (smok_43 f s h).2.1) fns_ok n
theorem sok_43 : SummOK Try.prog 43 s_43 := summ_sh (fun _ => rfl) (fun _ => rfl) (call_43 1) (by kernel_rfl) run_43
theorem smok_69 : ∀ f s, sm_69 f = some s → SummOK Try.prog f s := by
 intro f s h
 unfold sm_69 at h
 cases h
theorem call_69 {R : Type} (n base : Nat) : CallOK Try.prog base (evFn (R := R) sm_69 fns FU n) := ev_sound hm0 smok_69 (fun f s h => (smok_69 f s h).2.1) fns_ok n
theorem sok_69 : SummOK Try.prog 69 s_69 := summ_sh (fun _ => rfl) (fun _ => rfl) (call_69 1) (by kernel_rfl) run_69
theorem smok_70 : ∀ f s, sm_70 f = some s → SummOK Try.prog f s := by
 intro f s h
 unfold sm_70 at h
 by_cases h35 : f = 35
 · subst h35
   injection h with h
   subst h
   exact sok_35
 rw [nbeq_ne h35, cond_false] at h
 cases h
theorem call_70 {R : Type} (n base : Nat) : CallOK Try.prog base (evFn (R := R) sm_70 fns FU n) := ev_sound hm0 smok_70 (fun f s h => (smok_70 f s h).2.1) fns_ok n
theorem sok_70 : SummOK Try.prog 70 s_70 := summ_shN (by decide) (fun _ => rfl) (fun _ => rfl) (call_70 1) (by kernel_rfl) run_70
theorem smok_73 : ∀ f s, sm_73 f = some s → SummOK Try.prog f s := by
 intro f s h
 unfold sm_73 at h
 by_cases h35 : f = 35
 · subst h35
   injection h with h
   subst h
   exact sok_35
 rw [nbeq_ne h35, cond_false] at h
 cases h
theorem call_73 {R : Type} (n base : Nat) : CallOK Try.prog base (evFn (R := R) sm_73 fns FU n) := ev_sound hm0 smok_73 (fun f s h => (smok_73 f s h).2.1) fns_ok n
theorem sok_73 : SummOK Try.prog 73 s_73 := summ_shN (by decide) (fun _ => rfl) (fun _ => rfl) (call_73 1) (by kernel_rfl) run_73
theorem smok_78 : ∀ f s, sm_78 f = some s → SummOK Try.prog f s := by
 intro f s h
 unfold sm_78 at h
 cases h
theorem call_78 {R : Type} (n base : Nat) : CallOK Try.prog base (evFn (R := R) sm_78 fns FU n) := ev_sound hm0 smok_78 (fun f s h => (smok_78 f s h).2.1) fns_ok n
theorem sok_78 : SummOK Try.prog 78 s_78 := summ_shN (by decide) (fun _ => rfl) (fun _ => rfl) (call_78 1) (by kernel_rfl) run_78
theorem smok_79 : ∀ f s, sm_79 f = some s → SummOK Try.prog f s := by
 intro f s h
 unfold sm_79 at h
 by_cases h35 : f = 35
 · subst h35
   injection h with h
   subst h
   exact sok_35
 rw [nbeq_ne h35, cond_false] at h
 cases h
theorem call_79 {R : Type} (n base : Nat) : CallOK Try.prog base (evFn (R := R) sm_79 fns FU n) := ev_sound hm0 smok_79 (fun f s h => (smok_79 f s h).2.1) fns_ok n
theorem sok_79 : SummOK Try.prog 79 s_79 := summ_shN (by decide) (fun _ => rfl) (fun _ => rfl) (call_79 1) (by kernel_rfl) run_79
theorem smok_45 : ∀ f s, sm_45 f = some s → SummOK Try.prog f s := by
 intro f s h
 unfold sm_45 at h
 by_cases h69 : f = 69
 · subst h69
   injection h with h
   subst h
   exact sok_69
 rw [nbeq_ne h69, cond_false] at h
 by_cases h70 : f = 70
 · subst h70
   injection h with h
   subst h
   exact sok_70
 rw [nbeq_ne h70, cond_false] at h
 by_cases h73 : f = 73
 · subst h73
   injection h with h
   subst h
   exact sok_73
 rw [nbeq_ne h73, cond_false] at h
 by_cases h78 : f = 78
 · subst h78
   injection h with h
   subst h
   exact sok_78
 rw [nbeq_ne h78, cond_false] at h
 by_cases h79 : f = 79
 · subst h79
   injection h with h
   subst h
   exact sok_79
 rw [nbeq_ne h79, cond_false] at h
 cases h
theorem call_45 {R : Type} (n base : Nat) : CallOK Try.prog base (evFn (R := R) sm_45 fns FU n) := ev_sound hm0 smok_45 (fun f s h => (smok_45 f s h).2.1) fns_ok n
theorem sok_45 : SummOK Try.prog 45 s_45 := summ_shN (by decide) (fun _ => rfl) (fun _ => rfl) (call_45 1) (by kernel_rfl) run_45
theorem smok_13 : ∀ f s, sm_13 f = some s → SummOK Try.prog f s := by
 intro f s h
 unfold sm_13 at h
 by_cases h14 : f = 14
 · subst h14
   injection h with h
   subst h
   exact sok_14
 rw [nbeq_ne h14, cond_false] at h
 by_cases h35 : f = 35
 · subst h35
   injection h with h
   subst h
   exact sok_35
 rw [nbeq_ne h35, cond_false] at h
 by_cases h42 : f = 42
 · subst h42
   injection h with h
   subst h
   exact sok_42
 rw [nbeq_ne h42, cond_false] at h
 by_cases h43 : f = 43
 · subst h43
   injection h with h
   subst h
   exact sok_43
 rw [nbeq_ne h43, cond_false] at h
 by_cases h44 : f = 44
 · subst h44
   injection h with h
   subst h
   exact sok_44
 rw [nbeq_ne h44, cond_false] at h
 by_cases h45 : f = 45
 · subst h45
   injection h with h
   subst h
   exact sok_45
 rw [nbeq_ne h45, cond_false] at h
 cases h
theorem call_13 {R : Type} (n base : Nat) : CallOK Try.prog base (evFn (R := R) sm_13 fns FU n) := ev_sound hm0 smok_13 (fun f s h => (smok_13 f s h).2.1) fns_ok n
theorem sok_13 : SummOK Try.prog 13 s_13 := summ_shN (by decide) (fun _ => rfl) (fun _ => rfl) (call_13 1) (by kernel_rfl) run_13
theorem smok_51 : ∀ f s, sm_51 f = some s → SummOK Try.prog f s := by
 intro f s h
 unfold sm_51 at h
 by_cases h42 : f = 42
 · subst h42
   injection h with h
   subst h
   exact sok_42
 rw [nbeq_ne h42, cond_false] at h
 cases h
theorem call_51 {R : Type} (n base : Nat) : CallOK Try.prog base (evFn (R := R) sm_51 fns FU n) := ev_sound hm0 smok_51 (fun f s h => (smok_51 f s h).2.1) fns_ok n
theorem sok_51 : SummOK Try.prog 51 s_51 := summ_shN (by decide) (fun _ => rfl) (fun _ => rfl) (call_51 1) (by kernel_rfl) run_51
theorem smok_17 : ∀ f s, sm_17 f = some s → SummOK Try.prog f s := by
 intro f s h
 unfold sm_17 at h
 by_cases h12 : f = 12
 · subst h12
   injection h with h
   subst h
   exact sok_12
 rw [nbeq_ne h12, cond_false] at h
 by_cases h13 : f = 13
 · subst h13
   injection h with h
   subst h
   exact sok_13
 rw [nbeq_ne h13, cond_false] at h
 by_cases h14 : f = 14
 · subst h14
   injection h with h
   subst h
   exact sok_14
 rw [nbeq_ne h14, cond_false] at h
 by_cases h51 : f = 51
 · subst h51
   injection h with h
   subst h
   exact sok_51
 rw [nbeq_ne h51, cond_false] at h
 cases h
theorem call_17 {R : Type} (n base : Nat) : CallOK Try.prog base (evFn (R := R) sm_17 fns FU n) := ev_sound hm0 smok_17 (fun f s h => (smok_17 f s h).2.1) fns_ok n
theorem sok_17 : SummOK Try.prog 17 s_17 := summ_shN (by decide) (fun _ => rfl) (fun _ => rfl) (call_17 1) (by kernel_rfl) run_17
theorem smok_107 : ∀ f s, sm_107 f = some s → SummOK Try.prog f s := by
 intro f s h
 unfold sm_107 at h
 cases h
theorem call_107 {R : Type} (n base : Nat) : CallOK Try.prog base (evFn (R := R) sm_107 fns FU n) := ev_sound hm0 smok_107 (fun f s h => (smok_107 f s h).2.1) fns_ok n
theorem sok_107 : SummOK Try.prog 107 s_107 := summ_shN (by decide) (fun _ => rfl) (fun _ => rfl) (call_107 1) (by kernel_rfl) run_107
theorem smok_108 : ∀ f s, sm_108 f = some s → SummOK Try.prog f s := by
 intro f s h
 unfold sm_108 at h
 cases h
theorem call_108 {R : Type} (n base : Nat) : CallOK Try.prog base (evFn (R := R) sm_108 fns FU n) := ev_sound hm0 smok_108 (fun f s h => (smok_108 f s h).2.1) fns_ok n
theorem sok_108 : SummOK Try.prog 108 s_108 := summ_shN (by decide) (fun _ => rfl) (fun _ => rfl) (call_108 1) (by kernel_rfl) run_108
theorem smok_102 : ∀ f s, sm_102 f = some s → SummOK Try.prog f s := by
 intro f s h
 unfold sm_102 at h
 by_cases h107 : f = 107
 · subst h107
   injection h with h
   subst h
   exact sok_107
 rw [nbeq_ne h107, cond_false] at h
 by_cases h108 : f = 108
 · subst h108
   injection h with h
   subst h
   exact sok_108
 rw [nbeq_ne h108, cond_false] at h
 cases h
theorem call_102 {R : Type} (n base : Nat) : CallOK Try.prog base (evFn (R := R) sm_102 fns FU n) := ev_sound hm0 smok_102 (fun f s h => (smok_102 f s h).2.1) fns_ok n
theorem sok_102 : SummOK Try.prog 102 s_102 := summ_shN (by decide) (fun _ => rfl) (fun _ => rfl) (call_102 1) (by kernel_rfl) run_102
theorem smok_89 : ∀ f s, sm_89 f = some s → SummOK Try.prog f s := by
 intro f s h
 unfold sm_89 at h
 by_cases h102 : f = 102
 · subst h102
   injection h with h
   subst h
   exact sok_102
 rw [nbeq_ne h102, cond_false] at h
 cases h
theorem call_89 {R : Type} (n base : Nat) : CallOK Try.prog base (evFn (R := R) sm_89 fns FU n) := ev_sound hm0 smok_89 (fun f s h => (smok_89 f s h).2.1) fns_ok n
theorem sok_89 : SummOK Try.prog 89 s_89 := summ_sh (fun _ => rfl) (fun _ => rfl) (call_89 1) (by kernel_rfl) run_89
theorem smok_53 : ∀ f s, sm_53 f = some s → SummOK Try.prog f s := by
 intro f s h
 unfold sm_53 at h
 by_cases h89 : f = 89
 · subst h89
   injection h with h
   subst h
   exact sok_89
 rw [nbeq_ne h89, cond_false] at h
 cases h
theorem call_53 {R : Type} (n base : Nat) : CallOK Try.prog base (evFn (R := R) sm_53 fns FU n) := ev_sound hm0 smok_53 (fun f s h => (smok_53 f s h).2.1) fns_ok n
theorem sok_53 : SummOK Try.prog 53 s_53 := summ_sh (fun _ => rfl) (fun _ => rfl) (call_53 1) (by kernel_rfl) run_53
theorem smok_22 : ∀ f s, sm_22 f = some s → SummOK Try.prog f s := by
 intro f s h
 unfold sm_22 at h
 by_cases h41 : f = 41
 · subst h41
   injection h with h
   subst h
   exact sok_41
 rw [nbeq_ne h41, cond_false] at h
 by_cases h53 : f = 53
 · subst h53
   injection h with h
   subst h
   exact sok_53
 rw [nbeq_ne h53, cond_false] at h
 cases h
theorem call_22 {R : Type} (n base : Nat) : CallOK Try.prog base (evFn (R := R) sm_22 fns FU n) := ev_sound hm0 smok_22 (fun f s h => (smok_22 f s h).2.1) fns_ok n
theorem sok_22 : SummOK Try.prog 22 s_22 := summ_sh (fun _ => rfl) (fun _ => rfl) (call_22 1) (by kernel_rfl) run_22
theorem smok_10 : ∀ f s, sm_10 f = some s → SummOK Try.prog f s := by
 intro f s h
 unfold sm_10 at h
 by_cases h14 : f = 14
 · subst h14
   injection h with h
   subst h
   exact sok_14
 rw [nbeq_ne h14, cond_false] at h
 by_cases h17 : f = 17
 · subst h17
   injection h with h
   subst h
   exact sok_17
 rw [nbeq_ne h17, cond_false] at h
 by_cases h22 : f = 22
 · subst h22
   injection h with h
   subst h
   exact sok_22
 rw [nbeq_ne h22, cond_false] at h
 cases h
theorem call_10 {R : Type} (n base : Nat) : CallOK Try.prog base (evFn (R := R) sm_10 fns FU n) := ev_sound hm0 smok_10 (fun f s h => (smok_10 f s h).2.1) fns_ok n
theorem sok_10 : SummOK Try.prog 10 s_10 := summ_shN (by decide) (fun _ => rfl) (fun _ => rfl) (call_10 1) (by kernel_rfl) run_10
theorem smok_11 : ∀ f s, sm_11 f = some s → SummOK Try.prog f s := by
 intro f s h
 unfold sm_11 at h
 cases h
theorem call_11 {R : Type} (n base : Nat) : CallOK Try.prog base (evFn (R := R) sm_11 fns FU n) := ev_sound hm0 smok_11 (fun f s h => (smok_11 f s h).2.1) fns_ok n
theorem sok_11 : SummOK Try.prog 11 s_11 := summ_shN (by decide) (fun _ => rfl) (fun _ => rfl) (call_11 1) (by kernel_rfl) run_11
theorem smok_19 : ∀ f s, sm_19 f = some s → SummOK Try.prog f s := by
 intro f s h
 unfold sm_19 at h
 by_cases h17 : f = 17
 · subst h17
   injection h with h
   subst h
   exact sok_17
 rw [nbeq_ne h17, cond_false] at h
 cases h
theorem call_19 {R : Type} (n base : Nat) : CallOK Try.prog base (evFn (R := R) sm_19 fns FU n) := ev_sound hm0 smok_19 (fun f s h => (smok_19 f s h).2.1) fns_ok n
theorem sok_19 : SummOK Try.prog 19 s_19 := summ_shN (by decide) (fun _ => rfl) (fun _ => rfl) (call_19 1) (by kernel_rfl) run_19
theorem smok_20 : ∀ f s, sm_20 f = some s → SummOK Try.prog f s := by
 intro f s h
 unfold sm_20 at h
 by_cases h14 : f = 14
 · subst h14
   injection h with h
   subst h
   exact sok_14
 rw [nbeq_ne h14, cond_false] at h
 by_cases h19 : f = 19
 · subst h19
   injection h with h
   subst h
   exact sok_19
 rw [nbeq_ne h19, cond_false] at h
 cases h
theorem call_20 {R : Type} (n base : Nat) : CallOK Try.prog base (evFn (R := R) sm_20 fns FU n) := ev_sound hm0 smok_20 (fun f s h => (smok_20 f s h).2.1) fns_ok n
theorem sok_20 : SummOK Try.prog 20 s_20 := summ_shN (by decide) (fun _ => rfl) (fun _ => rfl) (call_20 1) (by kernel_rfl) run_20
theorem smok_34 : ∀ f s, sm_34 f = some s → SummOK Try.prog f s := by
 intro f s h
 unfold sm_34 at h
 cases h
theorem call_34 {R : Type} (n base : Nat) : CallOK Try.prog base (evFn (R := R) sm_34 fns FU n) := ev_sound hm0 smok_34 (fun f s h => (smok_34 f s h).2.1) fns_ok n
theorem sok_34 : SummOK Try.prog 34 s_34 := summ_shN (by decide) (fun _ => rfl) (fun _ => rfl) (call_34 1) (by kernel_rfl) run_34
theorem smok_60 : ∀ f s, sm_60 f = some s → SummOK Try.prog f s := by
 intro f s h
 unfold sm_60 at h
 by_cases h12 : f = 12
 · subst h12
   injection h with h
   subst h
   exact sok_12
 rw [nbeq_ne h12, cond_false] at h
 by_cases h13 : f = 13
 · subst h13
   injection h with h
   subst h
   exact sok_13
 rw [nbeq_ne h13, cond_false] at h
 by_cases h46 : f = 46
 · subst h46
   injection h with h
   subst h
   exact sok_46
 rw [nbeq_ne h46, cond_false] at h
 cases h
theorem call_60 {R : Type} (n base : Nat) : CallOK Try.prog base (evFn (R := R) sm_60 fns FU n) := ev_sound hm0 smok_60 (fun f s h => (smok_60 f s h).2.1) fns_ok n
theorem sok_60 : SummOK Try.prog 60 s_60 := summ_shN (by decide) (fun _ => rfl) (fun _ => rfl) (call_60 1) (by kernel_rfl) run_60
theorem smok_91 : ∀ f s, sm_91 f = some s → SummOK Try.prog f s := by
 intro f s h
 unfold sm_91 at h
 by_cases h40 : f = 40
 · subst h40
   injection h with h
   subst h
   exact sok_40
 rw [nbeq_ne h40, cond_false] at h
 cases h
theorem call_91 {R : Type} (n base : Nat) : CallOK Try.prog base (evFn (R := R) sm_91 fns FU n) := ev_sound hm0 smok_91 (fun f s h => (smok_91 f s h).2.1) fns_ok n
theorem sok_91 : SummOK Try.prog 91 s_91 := summ_shN (by decide) (fun _ => rfl) (fun _ => rfl) (call_91 1) (by kernel_rfl) run_91
theorem smok_63 : ∀ f s, sm_63 f = some s → SummOK Try.prog f s := by
 intro f s h
 unfold sm_63 at h
 by_cases h61 : f = 61
 · subst h61
   injection h with h
   subst h
   exact sok_61
 rw [nbeq_ne h61, cond_false] at h
 by_cases h91 : f = 91
 · subst h91
   injection h with h
   subst h
   exact sok_91
 rw [nbeq_ne h91, cond_false] at h
 by_cases h103 : f = 103
 · subst h103
   injection h with h
   subst h
   exact sok_103
 rw [nbeq_ne h103, cond_false] at h
 cases h
theorem call_63 {R : Type} (n base : Nat) : CallOK Try.prog base (evFn (R := R) sm_63 fns FU n) := ev_sound hm0 smok_63 (fun f s h => (smok_63 f s h).2.1) fns_ok n
theorem sok_63 : SummOK Try.prog 63 s_63 := summ_sh (fun _ => rfl) (fun _ => rfl) (call_63 3) (by kernel_rfl) run_63
theorem smok_31 : ∀ f s, sm_31 f = some s → SummOK Try.prog f s := by
 intro f s h
 unfold sm_31 at h
 by_cases h14 : f = 14
 · subst h14
   injection h with h
   subst h
   exact sok_14
 rw [nbeq_ne h14, cond_false] at h
 by_cases h20 : f = 20
 · subst h20
   injection h with h
   subst h
   exact sok_20
 rw [nbeq_ne h20, cond_false] at h
 by_cases h34 : f = 34
 · subst h34
   injection h with h
   subst h
   exact sok_34
 rw [nbeq_ne h34, cond_false] at h
 by_cases h51 : f = 51
 · subst h51
   injection h with h
   subst h
   exact sok_51
 rw [nbeq_ne h51, cond_false] at h
 by_cases h60 : f = 60
 · subst h60
   injection h with h
   subst h
   exact sok_60
 rw [nbeq_ne h60, cond_false] at h
 by_cases h63 : f = 63
 · subst h63
   injection h with h
   subst h
   exact sok_63
 rw [nbeq_ne h63, cond_false] at h
 cases h
theorem call_31 {R : Type} (n base : Nat) : CallOK Try.prog base (evFn (R := R) sm_31 fns FU n) := ev_sound hm0 smok_31 (fun f s h => (smok_31 f s h).2.1) fns_ok n
theorem sok_31 : SummOK Try.prog 31 s_31 := summ_sh (fun _ => rfl) (fun _ => rfl) (call_31 1) (by kernel_rfl) run_31
theorem smok_54 : ∀ f s, sm_54 f = some s → SummOK Try.prog f s := by
 intro f s h
 unfold sm_54 at h
 cases h
theorem call_54 {R : Type} (n base : Nat) : CallOK Try.prog base (evFn (R := R) sm_54 fns FU n) := ev_sound hm0 smok_54 (fun f s h => (smok_54 f s h).2.1) fns_ok n
theorem sok_54 : SummOK Try.prog 54 s_54 := summ_shN (by decide) (fun _ => rfl) (fun _ => rfl) (call_54 1) (by kernel_rfl) run_54
theorem smok_90 : ∀ f s, sm_90 f = some s → SummOK Try.prog f s := by
 intro f s h
 unfold sm_90 at h
 cases h
theorem call_90 {R : Type} (n base : Nat) : CallOK Try.prog base (evFn (R := R) sm_90 fns FU n) := ev_sound hm0 smok_90 (fun f s h => (smok_90 f s h).2.1) fns_ok n
theorem sok_90 : SummOK Try.prog 90 s_90 := summ_shN (by decide) (fun _ => rfl) (fun _ => rfl) (call_90 1) (by kernel_rfl) run_90
theorem smok_56 : ∀ f s, sm_56 f = some s → SummOK Try.prog f s := by
 intro f s h
 unfold sm_56 at h
 by_cases h90 : f = 90
 · subst h90
   injection h with h
   subst h
   exact sok_90
 rw [nbeq_ne h90, cond_false] at h
 cases h
theorem call_56 {R : Type} (n base : Nat) : CallOK Try.prog base (evFn (R := R) sm_56 fns FU n) := ev_sound hm0 smok_56 (fun f s h => (smok_56 f s h).2.1) fns_ok n
theorem sok_56 : SummOK Try.prog 56 s_56 := summ_shN (by decide) (fun _ => rfl) (fun _ => rfl) (call_56 1) (by kernel_rfl) run_56
theorem smok_25 : ∀ f s, sm_25 f = some s → SummOK Try.prog f s := by
 intro f s h
 unfold sm_25 at h
 by_cases h54 : f = 54
 · subst h54
   injection h with h
   subst h
   exact sok_54
 rw [nbeq_ne h54, cond_false] at h
 by_cases h56 : f = 56
 · subst h56
   injection h with h
   subst h
   exact sok_56
 rw [nbeq_ne h56, cond_false] at h
 cases h
theorem call_25 {R : Type} (n base : Nat) : CallOK Try.prog base (evFn (R := R) sm_25 fns FU n) := ev_sound hm0 smok_25 (fun f s h => (smok_25 f s h).2.1) fns_ok n
theorem sok_25 : SummOK Try.prog 25 s_25 := summ_shN (by decide) (fun _ => rfl) (fun _ => rfl) (call_25 1) (by kernel_rfl) run_25
theorem smok_48 : ∀ f s, sm_48 f = some s → SummOK Try.prog f s := by
 intro f s h
 unfold sm_48 at h
 cases h
theorem call_48 {R : Type} (n base : Nat) : CallOK Try.prog base (evFn (R := R) sm_48 fns FU n) := ev_sound hm0 smok_48 (fun f s h => (smok_48 f s h).2.1) fns_ok n
theorem sok_48 : SummOK Try.prog 48 s_48 := summ_sh (fun _ => rfl) (fun _ => rfl) (call_48 1) (by kernel_rfl) run_48
theorem smok_57 : ∀ f s, sm_57 f = some s → SummOK Try.prog f s := by
 intro f s h
 unfold sm_57 at h
 cases h
theorem call_57 {R : Type} (n base : Nat) : CallOK Try.prog base (evFn (R := R) sm_57 fns FU n) := ev_sound hm0 smok_57 (fun f s h => (smok_57 f s h).2.1) fns_ok n
theorem sok_57 : SummOK Try.prog 57 s_57 := summ_shN (by decide) (fun _ => rfl) (fun _ => rfl) (call_57 1) (by kernel_rfl) run_57
theorem smok_58 : ∀ f s, sm_58 f = some s → SummOK Try.prog f s := by
 intro f s h
 unfold sm_58 at h
 cases h
theorem call_58 {R : Type} (n base : Nat) : CallOK Try.prog base (evFn (R := R) sm_58 fns FU n) := ev_sound hm0 smok_58 (fun f s h => (smok_58 f s h).2.1) fns_ok n
theorem sok_58 : SummOK Try.prog 58 s_58 := summ_shN (by decide) (fun _ => rfl) (fun _ => rfl) (call_58 1) (by kernel_rfl) run_58
theorem smok_59 : ∀ f s, sm_59 f = some s → SummOK Try.prog f s := by
 intro f s h
 unfold sm_59 at h
 cases h
theorem call_59 {R : Type} (n base : Nat) : CallOK Try.prog base (evFn (R := R) sm_59 fns FU n) := ev_sound hm0 smok_59 (fun f s h => (smok_59 f s h).2.1) fns_ok n
theorem sok_59 : SummOK Try.prog 59 s_59 := summ_sh (fun _ => rfl) (fun _ => rfl) (call_59 1) (by kernel_rfl) run_59
theorem smok_26 : ∀ f s, sm_26 f = some s → SummOK Try.prog f s := by
 intro f s h
 unfold sm_26 at h
 by_cases h25 : f = 25
 · subst h25
   injection h with h
   subst h
   exact sok_25
 rw [nbeq_ne h25, cond_false] at h
 by_cases h48 : f = 48
 · subst h48
   injection h with h
   subst h
   exact sok_48
 rw [nbeq_ne h48, cond_false] at h
 by_cases h57 : f = 57
 · subst h57
   injection h with h
   subst h
   exact sok_57
 rw [nbeq_ne h57, cond_false] at h
 by_cases h58 : f = 58
 · subst h58
   injection h with h
   subst h
   exact sok_58
 rw [nbeq_ne h58, cond_false] at h
 by_cases h59 : f = 59
 · subst h59
   injection h with h
   subst h
   exact sok_59
 rw [nbeq_ne h59, cond_false] at h
 cases h
theorem call_26 {R : Type} (n base : Nat) : CallOK Try.prog base (evFn (R := R) sm_26 fns FU n) := ev_sound hm0 smok_26 (fun f s h => (smok_26 f s h).2.1) fns_ok n
theorem sok_26 : SummOK Try.prog 26 s_26 := summ_sh (fun _ => rfl) (fun _ => rfl) (call_26 1) (by kernel_rfl) run_26
theorem smok_100 : ∀ f s, sm_100 f = some s → SummOK Try.prog f s := by
 intro f s h
 unfold sm_100 at h
 cases h
theorem call_100 {R : Type} (n base : Nat) : CallOK Try.prog base (evFn (R := R) sm_100 fns FU n) := ev_sound hm0 smok_100 (fun f s h => (smok_100 f s h).2.1) fns_ok n
theorem sok_100 : SummOK Try.prog 100 s_100 := summ_sh (fun _ => rfl) (fun _ => rfl) (call_100 1) (by kernel_rfl) run_100
theorem smok_105 : ∀ f s, sm_105 f = some s → SummOK Try.prog f s := by
 intro f s h
 unfold sm_105 at h
 cases h
theorem call_105 {R : Type} (n base : Nat) : CallOK Try.prog base (evFn (R := R) sm_105 fns FU n) := ev_sound hm0 smok_105 (fun f s h => (smok_105 f s h).2.1) fns_ok n
theorem sok_105 : SummOK Try.prog 105 s_105 := summ_shN (by decide) (fun _ => rfl) (fun _ => rfl) (call_105 1) (by kernel_rfl) run_105
theorem smok_106 : ∀ f s, sm_106 f = some s → SummOK Try.prog f s := by
 intro f s h
 unfold sm_106 at h
 cases h
theorem call_106 {R : Type} (n base : Nat) : CallOK Try.prog base (evFn (R := R) sm_106 fns FU n) := ev_sound hm0 smok_106 (fun f s h => (smok_106 f s h).2.1) fns_ok n
theorem sok_106 : SummOK Try.prog 106 s_106 := summ_shN (by decide) (fun _ => rfl) (fun _ => rfl) (call_106 1) (by kernel_rfl) run_106
theorem smok_101 : ∀ f s, sm_101 f = some s → SummOK Try.prog f s := by
 intro f s h
 unfold sm_101 at h
 by_cases h105 : f = 105
 · subst h105
   injection h with h
   subst h
   exact sok_105
 rw [nbeq_ne h105, cond_false] at h
 by_cases h106 : f = 106
 · subst h106
   injection h with h
   subst h
   exact sok_106
 rw [nbeq_ne h106, cond_false] at h
 cases h
theorem call_101 {R : Type} (n base : Nat) : CallOK Try.prog base (evFn (R := R) sm_101 fns FU n) := ev_sound hm0 smok_101 (fun f s h => (smok_101 f s h).2.1) fns_ok n
theorem sok_101 : SummOK Try.prog 101 s_101 := summ_shN (by decide) (fun _ => rfl) (fun _ => rfl) (call_101 1) (by kernel_rfl) run_101
theorem smok_83 : ∀ f s, sm_83 f = some s → SummOK Try.prog f s := by
 intro f s h
 unfold sm_83 at h
 by_cases h100 : f = 100
 · subst h100
   injection h with h
   subst h
   exact sok_100
 rw [nbeq_ne h100, cond_false] at h
 by_cases h101 : f = 101
 · subst h101
   injection h with h
   subst h
   exact sok_101
 rw [nbeq_ne h101, cond_false] at h
 cases h
theorem call_83 {R : Type} (n base : Nat) : CallOK Try.prog base (evFn (R := R) sm_83 fns FU n) := ev_sound hm0 smok_83 (fun f s h => (smok_83 f s h).2.1) fns_ok n
theorem sok_83 : SummOK Try.prog 83 s_83 := summ_shN (by decide) (fun _ => rfl) (fun _ => rfl) (call_83 1) (by kernel_rfl) run_83
theorem smok_49 : ∀ f s, sm_49 f = some s → SummOK Try.prog f s := by
 intro f s h
 unfold sm_49 at h
 by_cases h83 : f = 83
 · subst h83
   injection h with h
   subst h
   exact sok_83
 rw [nbeq_ne h83, cond_false] at h
 cases h
theorem call_49 {R : Type} (n base : Nat) : CallOK Try.prog base (evFn (R := R) sm_49 fns FU n) := ev_sound hm0 smok_49 (fun f s h => (smok_49 f s h).2.1) fns_ok n
theorem sok_49 : SummOK Try.prog 49 s_49 := summ_shN (by decide) (fun _ => rfl) (fun _ => rfl) (call_49 2) (by kernel_rfl) run_49
theorem smok_84 : ∀ f s, sm_84 f = some s → SummOK Try.prog f s := by
 intro f s h
 unfold sm_84 at h
 cases h
theorem call_84 {R : Type} (n base : Nat) : CallOK Try.prog base (evFn (R := R) sm_84 fns FU n) := ev_sound hm0 smok_84 (fun f s h => (smok_84 f s h).2.1) fns_ok n
theorem sok_84 : SummOK Try.prog 84 s_84 := summ_shN (by decide) (fun _ => rfl) (fun _ => rfl) (call_84 1) (by kernel_rfl) run_84
theorem smok_85 : ∀ f s, sm_85 f = some s → SummOK Try.prog f s := by
 intro f s h
 unfold sm_85 at h
 cases h
theorem call_85 {R : Type} (n base : Nat) : CallOK Try.prog base (evFn (R := R) sm_85 fns FU n) := ev_sound hm0 smok_85 (fun f s h => (smok_85 f s h).2.1) fns_ok n
theorem sok_85 : SummOK Try.prog 85 s_85 := summ_sh (fun _ => rfl) (fun _ => rfl) (call_85 1) (by kernel_rfl) run_85
theorem smok_86 : ∀ f s, sm_86 f = some s → SummOK Try.prog f s := by
 intro f s h
 unfold sm_86 at h
 by_cases h83 : f = 83
 · subst h83
   injection h with h
   subst h
   exact sok_83
 rw [nbeq_ne h83, cond_false] at h
 cases h
theorem call_86 {R : Type} (n base : Nat) : CallOK Try.prog base (evFn (R := R) sm_86 fns FU n) := ev_sound hm0 smok_86 (fun f s h => (smok_86 f s h).2.1) fns_ok n
theorem sok_86 : SummOK Try.prog 86 s_86 := summ_shN (by decide) (fun _ => rfl) (fun _ => rfl) (call_86 1) (by kernel_rfl) run_86
theorem smok_87 : ∀ f s, sm_87 f = some s → SummOK Try.prog f s := by
 intro f s h
 unfold sm_87 at h
 by_cases h83 : f = 83
 · subst h83
   injection h with h
   subst h
   exact sok_83
 rw [nbeq_ne h83, cond_false] at h
 cases h
theorem call_87 {R : Type} (n base : Nat) : CallOK Try.prog base (evFn (R := R) sm_87 fns FU n) := ev_sound hm0 smok_87 (fun f s h => (smok_87 f s h).2.1) fns_ok n
theorem sok_87 : SummOK Try.prog 87 s_87 := summ_shN (by decide) (fun _ => rfl) (fun _ => rfl) (call_87 1) (by kernel_rfl) run_87
theorem smok_88 : ∀ f s, sm_88 f = some s → SummOK Try.prog f s := by
 intro f s h
 unfold sm_88 at h
 by_cases h83 : f = 83
 · subst h83
   injection h with h
   subst h
   exact sok_83
 rw [nbeq_ne h83, cond_false] at h
 cases h
theorem call_88 {R : Type} (n base : Nat) : CallOK Try.prog base (evFn (R := R) sm_88 fns FU n) := ev_sound hm0 smok_88 (fun f s h => (smok_88 f s h).2.1) fns_ok n
theorem sok_88 : SummOK Try.prog 88 s_88 := summ_shN (by decide) (fun _ => rfl) (fun _ => rfl) (call_88 1) (by kernel_rfl) run_88
theorem smok_50 : ∀ f s, sm_50 f = some s → SummOK Try.prog f s := by
 intro f s h
 unfold sm_50 at h
 by_cases h84 : f = 84
 · subst h84
   injection h with h
   subst h
   exact sok_84
 rw [nbeq_ne h84, cond_false] at h
 by_cases h85 : f = 85
 · subst h85
   injection h with h
   subst h
   exact sok_85
 rw [nbeq_ne h85, cond_false] at h
 by_cases h86 : f = 86
 · subst h86
   injection h with h
   subst h
   exact sok_86
 rw [nbeq_ne h86, cond_false] at h
 by_cases h87 : f = 87
 · subst h87
   injection h with h
   subst h
   exact sok_87
 rw [nbeq_ne h87, cond_false] at h
 by_cases h88 : f = 88
 · subst h88
   injection h with h
   subst h
   exact sok_88
 rw [nbeq_ne h88, cond_false] at h
 cases h
theorem call_50 {R : Type} (n base : Nat) : CallOK Try.prog base (evFn (R := R) sm_50 fns FU n) := ev_sound hm0 smok_50 (fun f s h => (smok_50 f s h).2.1) fns_ok n
theorem sok_50 : SummOK Try.prog 50 s_50 := summ_shN (by decide) (fun _ => rfl) (fun _ => rfl) (call_50 1) (by kernel_rfl) run_50
theorem smok_16 : ∀ f s, sm_16 f = some s → SummOK Try.prog f s := by
 intro f s h
 unfold sm_16 at h
 by_cases h26 : f = 26
 · subst h26
   injection h with h
   subst h
   exact sok_26
 rw [nbeq_ne h26, cond_false] at h
 by_cases h48 : f = 48
 · subst h48
   injection h with h
   subst h
   exact sok_48
 rw [nbeq_ne h48, cond_false] at h
 by_cases h49 : f = 49
 · subst h49
   injection h with h
   subst h
   exact sok_49
 rw [nbeq_ne h49, cond_false] at h
 by_cases h50 : f = 50
 · subst h50
   injection h with h
   subst h
   exact sok_50
 rw [nbeq_ne h50, cond_false] at h
 cases h
theorem call_16 {R : Type} (n base : Nat) : CallOK Try.prog base (evFn (R := R) sm_16 fns FU n) := ev_sound hm0 smok_16 (fun f s h => (smok_16 f s h).2.1) fns_ok n
theorem sok_16 : SummOK Try.prog 16 s_16 := summ_shN (by decide) (fun _ => rfl) (fun _ => rfl) (call_16 1) (by kernel_rfl) run_16
theorem smok_52 : ∀ f s, sm_52 f = some s → SummOK Try.prog f s := by
 intro f s h
 unfold sm_52 at h
 by_cases h16 : f = 16
 · subst h16
   injection h with h
   subst h
   exact sok_16
 rw [nbeq_ne h16, cond_false] at h
 by_cases h48 : f = 48
 · subst h48
   injection h with h
   subst h
   exact sok_48
 rw [nbeq_ne h48, cond_false] at h
 cases h
theorem call_52 {R : Type} (n base : Nat) : CallOK Try.prog base (evFn (R := R) sm_52 fns FU n) := ev_sound hm0 smok_52 (fun f s h => (smok_52 f s h).2.1) fns_ok n
theorem sok_52 : SummOK Try.prog 52 s_52 := summ_shN (by decide) (fun _ => rfl) (fun _ => rfl) (call_52 1) (by kernel_rfl) run_52
theorem smok_18 : ∀ f s, sm_18 f = some s → SummOK Try.prog f s := by
 intro f s h
 unfold sm_18 at h
 by_cases h25 : f = 25
 · subst h25
   injection h with h
   subst h
   exact sok_25
 rw [nbeq_ne h25, cond_false] at h
 by_cases h48 : f = 48
 · subst h48
   injection h with h
   subst h
   exact sok_48
 rw [nbeq_ne h48, cond_false] at h
 by_cases h52 : f = 52
 · subst h52
   injection h with h
   subst h
   exact sok_52
 rw [nbeq_ne h52, cond_false] at h
 cases h
theorem call_18 {R : Type} (n base : Nat) : CallOK Try.prog base (evFn (R := R) sm_18 fns FU n) := ev_sound hm0 smok_18 (fun f s h => (smok_18 f s h).2.1) fns_ok n
theorem sok_18 : SummOK Try.prog 18 s_18 := summ_shN (by decide) (fun _ => rfl) (fun _ => rfl) (call_18 1) (by kernel_rfl) run_18
theorem smok_21 : ∀ f s, sm_21 f = some s → SummOK Try.prog f s := by
 intro f s h
 unfold sm_21 at h
 by_cases h18 : f = 18
 · subst h18
   injection h with h
   subst h
   exact sok_18
 rw [nbeq_ne h18, cond_false] at h
 by_cases h48 : f = 48
 · subst h48
   injection h with h
   subst h
   exact sok_48
 rw [nbeq_ne h48, cond_false] at h
 cases h
theorem call_21 {R : Type} (n base : Nat) : CallOK Try.prog base (evFn (R := R) sm_21 fns FU n) := ev_sound hm0 smok_21 (fun f s h => (smok_21 f s h).2.1) fns_ok n
theorem sok_21 : SummOK Try.prog 21 s_21 := summ_shN (by decide) (fun _ => rfl) (fun _ => rfl) (call_21 1) (by kernel_rfl) run_21
theorem smok_64 : ∀ f s, sm_64 f = some s → SummOK Try.prog f s := by
 intro f s h
 unfold sm_64 at h
 cases h
theorem call_64 {R : Type} (n base : Nat) : CallOK Try.prog base (evFn (R := R) sm_64 fns FU n) := ev_sound hm0 smok_64 (fun f s h => (smok_64 f s h).2.1) fns_ok n
theorem sok_64 : SummOK Try.prog 64 s_64 := summ_shN (by decide) (fun _ => rfl) (fun _ => rfl) (call_64 1) (by kernel_rfl) run_64
theorem smok_94 : ∀ f s, sm_94 f = some s → SummOK Try.prog f s := by
 intro f s h
 unfold sm_94 at h
 cases h
theorem call_94 {R : Type} (n base : Nat) : CallOK Try.prog base (evFn (R := R) sm_94 fns FU n) := ev_sound hm0 smok_94 (fun f s h => (smok_94 f s h).2.1) fns_ok n
theorem sok_94 : SummOK Try.prog 94 s_94 := summ_shN (by decide) (fun _ => rfl) (fun _ => rfl) (call_94 1) (by kernel_rfl) run_94
theorem smok_65 : ∀ f s, sm_65 f = some s → SummOK Try.prog f s := by
 intro f s h
 unfold sm_65 at h
 by_cases h56 : f = 56
 · subst h56
   injection h with h
   subst h
   exact sok_56
 rw [nbeq_ne h56, cond_false] at h
 by_cases h64 : f = 64
 · subst h64
   injection h with h
   subst h
   exact sok_64
 rw [nbeq_ne h64, cond_false] at h
 by_cases h94 : f = 94
 · subst h94
   injection h with h
   subst h
   exact sok_94
 rw [nbeq_ne h94, cond_false] at h
 cases h
theorem call_65 {R : Type} (n base : Nat) : CallOK Try.prog base (evFn (R := R) sm_65 fns FU n) := ev_sound hm0 smok_65 (fun f s h => (smok_65 f s h).2.1) fns_ok n
theorem sok_65 : SummOK Try.prog 65 s_65 := summ_sh (fun _ => rfl) (fun _ => rfl) (call_65 2) (by kernel_rfl) run_65
theorem smok_32 : ∀ f s, sm_32 f = some s → SummOK Try.prog f s := by
 intro f s h
 unfold sm_32 at h
 by_cases h16 : f = 16
 · subst h16
   injection h with h
   subst h
   exact sok_16
 rw [nbeq_ne h16, cond_false] at h
 by_cases h21 : f = 21
 · subst h21
   injection h with h
   subst h
   exact sok_21
 rw [nbeq_ne h21, cond_false] at h
 by_cases h25 : f = 25
 · subst h25
   injection h with h
   subst h
   exact sok_25
 rw [nbeq_ne h25, cond_false] at h
 by_cases h48 : f = 48
 · subst h48
   injection h with h
   subst h
   exact sok_48
 rw [nbeq_ne h48, cond_false] at h
 by_cases h57 : f = 57
 · subst h57
   injection h with h
   subst h
   exact sok_57
 rw [nbeq_ne h57, cond_false] at h
 by_cases h64 : f = 64
 · subst h64
   injection h with h
   subst h
   exact sok_64
 rw [nbeq_ne h64, cond_false] at h
 by_cases h65 : f = 65
 · subst h65
   injection h with h
   subst h
   exact sok_65
 rw [nbeq_ne h65, cond_false] at h
 cases h
theorem call_32 {R : Type} (n base : Nat) : CallOK Try.prog base (evFn (R := R) sm_32 fns FU n) := ev_sound hm0 smok_32 (fun f s h => (smok_32 f s h).2.1) fns_ok n
theorem sok_32 : SummOK Try.prog 32 s_32 := summ_sh (fun _ => rfl) (fun _ => rfl) (call_32 1) (by kernel_rfl) run_32
theorem smok_24 : ∀ f s, sm_24 f = some s → SummOK Try.prog f s := by
 intro f s h
 unfold sm_24 at h
 cases h
theorem call_24 {R : Type} (n base : Nat) : CallOK Try.prog base (evFn (R := R) sm_24 fns FU n) := ev_sound hm0 smok_24 (fun f s h => (smok_24 f s h).2.1) fns_ok n
theorem sok_24 : SummOK Try.prog 24 s_24 := summ_shN (by decide) (fun _ => rfl) (fun _ => rfl) (call_24 1) (by kernel_rfl) run_24
theorem smok_33 : ∀ f s, sm_33 f = some s → SummOK Try.prog f s := by
 intro f s h
 unfold sm_33 at h
 by_cases h24 : f = 24
 · subst h24
   injection h with h
   subst h
   exact sok_24
 rw [nbeq_ne h24, cond_false] at h
 cases h
theorem call_33 {R : Type} (n base : Nat) : CallOK Try.prog base (evFn (R := R) sm_33 fns FU n) := ev_sound hm0 smok_33 (fun f s h => (smok_33 f s h).2.1) fns_ok n
theorem sok_33 : SummOK Try.prog 33 s_33 := summ_shN (by decide) (fun _ => rfl) (fun _ => rfl) (call_33 1) (by kernel_rfl) run_33
theorem smok_6 : ∀ f s, sm_6 f = some s → SummOK Try.prog f s := by
 intro f s h
 unfold sm_6 at h
 by_cases h10 : f = 10
 · subst h10
   injection h with h
   subst h
   exact sok_10
 rw [nbeq_ne h10, cond_false] at h
 by_cases h11 : f = 11
 · subst h11
   injection h with h
   subst h
   exact sok_11
 rw [nbeq_ne h11, cond_false] at h
 by_cases h31 : f = 31
 · subst h31
   injection h with h
   subst h
   exact sok_31
 rw [nbeq_ne h31, cond_false] at h
 by_cases h32 : f = 32
 · subst h32
   injection h with h
   subst h
   exact sok_32
 rw [nbeq_ne h32, cond_false] at h
 by_cases h33 : f = 33
 · subst h33
   injection h with h
   subst h
   exact sok_33
 rw [nbeq_ne h33, cond_false] at h
 cases h
theorem call_6 {R : Type} (n base : Nat) : CallOK Try.prog base (evFn (R := R) sm_6 fns FU n) := ev_sound hm0 smok_6 (fun f s h => (smok_6 f s h).2.1) fns_ok n
end Go.Ev
