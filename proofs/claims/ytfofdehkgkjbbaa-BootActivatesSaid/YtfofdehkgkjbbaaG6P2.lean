/- Helpers: functions of the program as Lean functions, and what they compute. No condition. -/
import Derived.Test.YtfofdehkgkjbbaaE6P2
import Derived.Test.YtfofdehkgkjbbaaG6P0
import Derived.Test.YtfofdehkgkjbbaaG6P1
set_option maxRecDepth 10000
set_option linter.unusedVariables false
set_option linter.unusedSimpArgs false
open Go.IntKind (wrap i64 i32 i16 i8 u64 u32 u16 u8)
open List (getD length take drop replicate)
open Int (toNat)
open Go.Ev.Sp
namespace Go.Ev
open Go
set_option maxRecDepth 100000
set_option maxHeartbeats 4000000
set_option linter.unusedVariables false
noncomputable section
noncomputable def sm_89 : Nat → Option Summ := fun f => bif Nat.beq f 102 then some s_102 else none
noncomputable def T_89_2 (p0 : Int) (p1 : List Int) : St := St.mk (jl 7 ++ ([CV.whole 0, CV.int i64 p0] ++ (jl 39))) [Blk.vec 42 (Ty.int u32) p1] 0
noncomputable def X_89_2_0 (p1 : List Int) : St := St.mk (jl 7 ++ ([CV.whole 0] ++ (jl 40))) [Blk.vec 42 (Ty.int u32) p1] 0
inductive Sp.E_89_2 where
 | e0 (p1 : List Int)
noncomputable def Sp.B_89_2 {R : Type} (r : Option E_89_2) (k0 : List Int → Option R) : Option R := match r with
 | none => none
 | some (.e0 p1) => k0 p1
noncomputable def Sp.L_89_2 : Nat → Int → List Int → Option E_89_2
 | 0, _, _ => none
 | m + 1, p0, p1 => bif decide (p0 < (↑(length p1) : Int)) then gd (sl3 p0 (↑(length p1) : Int) (↑(length p1) : Int)) (gd (sl3 0 p0 (↑(length p1) : Int)) (gd (decide (0 + (toNat p0 - 0) ≤ length p1) && (decide (toNat p0 + (toNat (↑(length p1) : Int) - toNat p0) ≤ length p1) && decide (0 < length p1))) (L_89_2 m (wrap i64 (p0 + (↑(Nat.min (length (take (toNat p0 - 0) (drop 0 p1))) (toNat (↑(length p1) : Int) - toNat p0)) : Int))) (over p1 (toNat p0) (take (toNat (↑(length p1) : Int) - toNat p0) (take (toNat p0 - 0) (drop 0 p1))))))) else some (E_89_2.e0 p1)
noncomputable def G_89_2 {R : Type} (p0 : Int) (p1 : List Int) (k : Ex → St → Option R) : Option R := B_89_2 (L_89_2 FU p0 p1) (fun p1 => k (Ex.exit 0) (X_89_2_0 p1))
noncomputable def o_89_2 {R : Type} (G : Int → List Int → (Ex → St → Option R) → Option R) : St → (Ex → St → Option R) → Option R := fun T k => match T.sl.getD 7 .junk, T.sl.getD 8 .junk, T.hp with
 | CV.whole 0, CV.int i64 p0, ((Blk.vec 42 (Ty.int u32) p1) :: []) => gd (shapeOK T 48 [7, 8] 0) (G p0 p1 k)
 | _, _, _ => none
theorem o_89_2_inv {R : Type} {G : Int → List Int → (Ex → St → Option R) → Option R} {T : St} {k : Ex → St → Option R} {r : R} (h : o_89_2 G T k = some r) : ∃ p0 p1, T = T_89_2 p0 p1 ∧ G p0 p1 k = some r := by
 unfold o_89_2 at h
 split at h
 · obtain ⟨hs, h'⟩ := gd_some h
   refine ⟨_, _, (st_of (asg := [(7, _), (8, _)]) hs ⟨by assumption, by assumption, trivial⟩ (by assumption)).trans ?_, h'⟩
   kernel_rfl
 · cases h
noncomputable def T_89_1 (p0 : List Int) (p1 : Int) : St := St.mk ([CV.pure (Ty.slice (Ty.int u32)) p0, jk, jk, jk, jk, jk, CV.int u64 p1] ++ (jl 41)) [] 0
noncomputable def X_89_1_0 (y5 : List Int) : St := St.mk ([jk, jk, jk, jk, CV.whole 0] ++ (jl 43)) [Blk.vec 42 (Ty.int u32) y5] 0
inductive Sp.E_89_1 where
 | e0 (y5 : List Int)
noncomputable def Sp.B_89_1 {R : Type} (r : Option E_89_1) (k0 : List Int → Option R) : Option R := match r with
 | none => none
 | some (.e0 y5) => k0 y5
noncomputable def Sp.J_89_1 (p0 : List Int) (p1 : Int) : Option E_89_1 :=
 gd (decide (0 ≤ wrap i64 p1) && (wrap i64 p1 == wrap i64 p1 && room (toNat (wrap i64 p1)) 4)) (gd (decide (0 + length (replicate (toNat (wrap i64 p1)) (0 :Int)) ≤ length (replicate (toNat (wrap i64 p1)) (0 :Int))) && decide (0 < length (replicate (toNat (wrap i64 p1)) (0 :Int)))) (B_89_2 (L_89_2 4611686018427387904 (↑(Nat.min (length p0) (length (replicate (toNat (wrap i64 p1)) (0 :Int)))) : Int) (over (replicate (toNat (wrap i64 p1)) (0 :Int)) 0 (take (length (replicate (toNat (wrap i64 p1)) (0 :Int))) p0))) fun y5 => some (E_89_1.e0 y5)))
noncomputable def G_89_1 {R : Type} (p0 : List Int) (p1 : Int) (k : Ex → St → Option R) : Option R := B_89_1 (J_89_1 p0 p1) (fun y5 => k Ex.ret (X_89_1_0 y5))
noncomputable def o_89_1 {R : Type} (G : List Int → Int → (Ex → St → Option R) → Option R) : St → (Ex → St → Option R) → Option R := fun T k => match T.sl.getD 0 .junk, T.sl.getD 6 .junk, T.hp with
 | CV.pure (Ty.slice (Ty.int u32)) p0, CV.int u64 p1, [] => gd (shapeOK T 48 [0, 6] 0) (G p0 p1 k)
 | _, _, _ => none
theorem o_89_1_inv {R : Type} {G : List Int → Int → (Ex → St → Option R) → Option R} {T : St} {k : Ex → St → Option R} {r : R} (h : o_89_1 G T k = some r) : ∃ p0 p1, T = T_89_1 p0 p1 ∧ G p0 p1 k = some r := by
 unfold o_89_1 at h
 split at h
 · obtain ⟨hs, h'⟩ := gd_some h
   refine ⟨_, _, (st_of (asg := [(0, _), (6, _)]) hs ⟨by assumption, by assumption, trivial⟩ (by assumption)).trans ?_, h'⟩
   kernel_rfl
 · cases h
noncomputable def T_89_0 (p0 : List Int) (p1 : Int) : St := St.mk ([CV.pure (Ty.slice (Ty.int u32)) p0, CV.int i64 p1] ++ (jl 46)) [] 0
noncomputable def X_89_0_0 (y1 : List Int) : St := St.mk ([jk, jk, jk, jk, CV.whole 0] ++ (jl 43)) [Blk.vec 42 (Ty.int u32) y1] 0
inductive Sp.E_89_0 where
 | e0 (y1 : List Int)
noncomputable def Sp.B_89_0 {R : Type} (r : Option E_89_0) (k0 : List Int → Option R) : Option R := match r with
 | none => none
 | some (.e0 y1) => k0 y1
noncomputable def Sp.J_89_0 (p0 : List Int) (p1 : Int) : Option E_89_0 :=
 gd (p_102 (wrap u64 (↑(length p0) : Int)) (wrap u64 p1)) (bif decide ((v_102 (wrap u64 (↑(length p0) : Int)) (wrap u64 p1)).1 > 0) then none else bif decide ((v_102 (wrap u64 (↑(length p0) : Int)) (wrap u64 p1)).2.1 > 9223372036854775807) then none else B_89_1 (J_89_1 p0 ((v_102 (wrap u64 (↑(length p0) : Int)) (wrap u64 p1)).2.1)) fun y1 => some (E_89_0.e0 y1))
noncomputable def G_89_0 {R : Type} (p0 : List Int) (p1 : Int) (k : Ex → St → Option R) : Option R := B_89_0 (J_89_0 p0 p1) (fun y1 => k Ex.ret (X_89_0_0 y1))
noncomputable def o_89_0 {R : Type} (G : List Int → Int → (Ex → St → Option R) → Option R) : St → (Ex → St → Option R) → Option R := fun T k => match T.sl.getD 0 .junk, T.sl.getD 1 .junk, T.hp with
 | CV.pure (Ty.slice (Ty.int u32)) p0, CV.int i64 p1, [] => gd (shapeOK T 48 [0, 1] 0) (G p0 p1 k)
 | _, _, _ => none
theorem o_89_0_inv {R : Type} {G : List Int → Int → (Ex → St → Option R) → Option R} {T : St} {k : Ex → St → Option R} {r : R} (h : o_89_0 G T k = some r) : ∃ p0 p1, T = T_89_0 p0 p1 ∧ G p0 p1 k = some r := by
 unfold o_89_0 at h
 split at h
 · obtain ⟨hs, h'⟩ := gd_some h
   refine ⟨_, _, (st_of (asg := [(0, _), (1, _)]) hs ⟨by assumption, by assumption, trivial⟩ (by assumption)).trans ?_, h'⟩
   kernel_rfl
 · cases h
noncomputable def O_89_89_2 {R : Type} : St → (Ex → St → Option R) → Option R := fun T k => o_89_2 G_89_2 T k
noncomputable def O_89_89_1 {R : Type} : St → (Ex → St → Option R) → Option R := fun T k => o_89_1 G_89_1 T k
noncomputable def O_89_89_0 {R : Type} : St → (Ex → St → Option R) → Option R := fun T k => o_89_0 G_89_0 T k
theorem body_89_2 {R : Type} (K0 : St → Option R) (K1 : Ex → St → Option R) (p0 : Int) (p1 : List Int) : evLB (evCodeL sm_89 FU (ovr noO (evFn sm_89 fns FU 0)) .nil ir89_b2) (St.norm ir89_v2) (T_89_2 p0 p1) K0 K1 =
 bif decide (p0 < (↑(length p1) : Int)) then gd (sl3 p0 (↑(length p1) : Int) (↑(length p1) : Int)) (gd (sl3 0 p0 (↑(length p1) : Int)) (gd (decide (0 + (toNat p0 - 0) ≤ length p1) && (decide (toNat p0 + (toNat (↑(length p1) : Int) - toNat p0) ≤ length p1) && decide (0 < length p1))) (K0 (T_89_2 (wrap i64 (p0 + (↑(Nat.min (length (take (toNat p0 - 0) (drop 0 p1))) (toNat (↑(length p1) : Int) - toNat p0)) : Int))) (over p1 (toNat p0) (take (toNat (↑(length p1) : Int) - toNat p0) (take (toNat p0 - 0) (drop 0 p1)))))))) else K1 (Ex.exit 0) (X_89_2_0 p1) := by kernel_rfl
theorem Bgd_89_2 {R : Type} {c : Bool} {x : Option R} {y : Option E_89_2} {k0 : List Int → Option R} (h : x = B_89_2 y k0) : gd c x = B_89_2 (gd c y) k0 := by cases c; rfl; exact h
theorem Bcond_89_2 {R : Type} {c : Bool} {x x' : Option R} {y y' : Option E_89_2} {k0 : List Int → Option R} (h : x = B_89_2 y k0) (h' : x' = B_89_2 y' k0) : (bif c then x else x') = B_89_2 (bif c then y else y') k0 := by cases c; exact h'; exact h
theorem loop_89_2 {R : Type} (k : Ex → St → Option R) : ∀ (m : Nat) (p0 : Int) (p1 : List Int), evLoopN (evCodeL sm_89 FU (ovr noO (evFn sm_89 fns FU 0)) .nil ir89_b2) (St.norm ir89_v2) m (T_89_2 p0 p1) k = B_89_2 (L_89_2 m p0 p1) (fun p1 => k (Ex.exit (0 : Nat)) (X_89_2_0 p1))
 | 0, _, _ => rfl
 | m + 1, p0, p1 => by
   rw [evLoopN_succ, body_89_2, L_89_2]
   repeat' first | apply Bgd_89_2 | apply Bcond_89_2 | exact loop_89_2 k m _ _ | rfl
theorem ok_89_2 {R : Type} (T : St) (k : Ex → St → Option R) (r : R) (h0 : o_89_2 G_89_2 T k = some r) : evLoopN (evCode sm_89 FU (evFn sm_89 fns FU 0) ir89_b2) (St.norm ir89_v2) FU T k = some r := by
 obtain ⟨p0, p1, rfl, h⟩ := o_89_2_inv h0
 refine evLoopN_L (t := .nil) noO_ok trivial _ _ _ _ ?_
 rw [loop_89_2]
 exact h
theorem OK_89_89_2 {R : Type} (T : St) (k : Ex → St → Option R) (r : R) (h : O_89_89_2 T k = some r) : evLoopN (evCode sm_89 FU (evFn sm_89 fns FU 0) ir89_b2) (St.norm ir89_v2) FU T k = some r := ok_89_2 T k r h
theorem body_89_1 {R : Type} (K1 : Ex → St → Option R) (p0 : List Int) (p1 : Int) : evJ (evCodeL sm_89 FU (ovr noO (evFn sm_89 fns FU 0)) (ir89_bt1 O_89_89_2) ir89_b1) (T_89_1 p0 p1) K1 =
 gd (decide (0 ≤ wrap i64 p1) && (wrap i64 p1 == wrap i64 p1 && room (toNat (wrap i64 p1)) 4)) (gd (decide (0 + length (replicate (toNat (wrap i64 p1)) (0 :Int)) ≤ length (replicate (toNat (wrap i64 p1)) (0 :Int))) && decide (0 < length (replicate (toNat (wrap i64 p1)) (0 :Int)))) (B_89_2 (L_89_2 4611686018427387904 (↑(Nat.min (length p0) (length (replicate (toNat (wrap i64 p1)) (0 :Int)))) : Int) (over (replicate (toNat (wrap i64 p1)) (0 :Int)) 0 (take (length (replicate (toNat (wrap i64 p1)) (0 :Int))) p0))) fun y5 => K1 Ex.ret (X_89_1_0 y5))) := by kernel_rfl
theorem Bgd_89_1 {R : Type} {c : Bool} {x : Option R} {y : Option E_89_1} {k0 : List Int → Option R} (h : x = B_89_1 y k0) : gd c x = B_89_1 (gd c y) k0 := by cases c; rfl; exact h
theorem Bcond_89_1 {R : Type} {c : Bool} {x x' : Option R} {y y' : Option E_89_1} {k0 : List Int → Option R} (h : x = B_89_1 y k0) (h' : x' = B_89_1 y' k0) : (bif c then x else x') = B_89_1 (bif c then y else y') k0 := by cases c; exact h'; exact h
theorem Bin_89_1_89_2 {R : Type} {r : Option E_89_2} {k0 : List Int → Option R} {f0 : List Int → Option R} {g0 : List Int → Option E_89_1} (h0 : ∀ z0, f0 z0 = B_89_1 (g0 z0) k0) : B_89_2 r f0 = B_89_1 (B_89_2 r g0) k0 := by
 cases r with
 | none => rfl
 | some e => cases e with
   | e0 z0 => exact h0 _
theorem loop_89_1 {R : Type} (k : Ex → St → Option R) (p0 : List Int) (p1 : Int) : evJ (evCodeL sm_89 FU (ovr noO (evFn sm_89 fns FU 0)) (ir89_bt1 O_89_89_2) ir89_b1) (T_89_1 p0 p1) k = B_89_1 (J_89_1 p0 p1) (fun y5 => k Ex.ret (X_89_1_0 y5)) := by
 rw [body_89_1, J_89_1]
 repeat' first | apply Bgd_89_1 | apply Bcond_89_1 | (apply Bin_89_1_89_2 <;> intros) | rfl
theorem ok_89_1 {R : Type} (T : St) (k : Ex → St → Option R) (r : R) (h0 : o_89_1 G_89_1 T k = some r) : evCode sm_89 FU (evFn sm_89 fns FU 0) ir89_b1 T k = some r := by
 obtain ⟨p0, p1, rfl, h⟩ := o_89_1_inv h0
 refine bodyL_sound (t := (ir89_bt1 O_89_89_2)) noO_ok (ir89_bt1ok (fun T k r => OK_89_89_2 T k r)) (((show ∀ (b : St → (Ex → St → Option R) → Option R) (T : St) (k : Ex → St → Option R), b T k = evJ b T k from fun _ _ _ => rfl) _ _ _).trans ((loop_89_1 k p0 p1).trans h))
theorem OK_89_89_1 {R : Type} (T : St) (k : Ex → St → Option R) (r : R) (h : O_89_89_1 T k = some r) : evCode sm_89 FU (evFn sm_89 fns FU 0) ir89_b1 T k = some r := ok_89_1 T k r h
theorem body_89_0 {R : Type} (K1 : Ex → St → Option R) (p0 : List Int) (p1 : Int) : evJ (evCodeL sm_89 FU (ovr noO (evFn sm_89 fns FU 0)) (ir89_bt0 O_89_89_1) ir89_b0) (T_89_0 p0 p1) K1 =
 gd (p_102 (wrap u64 (↑(length p0) : Int)) (wrap u64 p1)) (bif decide ((v_102 (wrap u64 (↑(length p0) : Int)) (wrap u64 p1)).1 > 0) then none else bif decide ((v_102 (wrap u64 (↑(length p0) : Int)) (wrap u64 p1)).2.1 > 9223372036854775807) then none else B_89_1 (J_89_1 p0 ((v_102 (wrap u64 (↑(length p0) : Int)) (wrap u64 p1)).2.1)) fun y1 => K1 Ex.ret (X_89_0_0 y1)) := by kernel_rfl
theorem Bgd_89_0 {R : Type} {c : Bool} {x : Option R} {y : Option E_89_0} {k0 : List Int → Option R} (h : x = B_89_0 y k0) : gd c x = B_89_0 (gd c y) k0 := by cases c; rfl; exact h
theorem Bcond_89_0 {R : Type} {c : Bool} {x x' : Option R} {y y' : Option E_89_0} {k0 : List Int → Option R} (h : x = B_89_0 y k0) (h' : x' = B_89_0 y' k0) : (bif c then x else x') = B_89_0 (bif c then y else y') k0 := by cases c; exact h'; exact h
theorem Bin_89_0_89_1 {R : Type} {r : Option E_89_1} {k0 : List Int → Option R} {f0 : List Int → Option R} {g0 : List Int → Option E_89_0} (h0 : ∀ z0, f0 z0 = B_89_0 (g0 z0) k0) : B_89_1 r f0 = B_89_0 (B_89_1 r g0) k0 := by
 cases r with
 | none => rfl
 | some e => cases e with
   | e0 z0 => exact h0 _
theorem loop_89_0 {R : Type} (k : Ex → St → Option R) (p0 : List Int) (p1 : Int) : evJ (evCodeL sm_89 FU (ovr noO (evFn sm_89 fns FU 0)) (ir89_bt0 O_89_89_1) ir89_b0) (T_89_0 p0 p1) k = B_89_0 (J_89_0 p0 p1) (fun y1 => k Ex.ret (X_89_0_0 y1)) := by
 rw [body_89_0, J_89_0]
 repeat' first | apply Bgd_89_0 | apply Bcond_89_0 | (apply Bin_89_0_89_1 <;> intros) | rfl
theorem ok_89_0 {R : Type} (T : St) (k : Ex → St → Option R) (r : R) (h0 : o_89_0 G_89_0 T k = some r) : evCode sm_89 FU (evFn sm_89 fns FU 0) ir89_b0 T k = some r := by
 obtain ⟨p0, p1, rfl, h⟩ := o_89_0_inv h0
 refine bodyL_sound (t := (ir89_bt0 O_89_89_1)) noO_ok (ir89_bt0ok (fun T k r => OK_89_89_1 T k r)) (((show ∀ (b : St → (Ex → St → Option R) → Option R) (T : St) (k : Ex → St → Option R), b T k = evJ b T k from fun _ _ _ => rfl) _ _ _).trans ((loop_89_0 k p0 p1).trans h))
theorem OK_89_89_0 {R : Type} (T : St) (k : Ex → St → Option R) (r : R) (h : O_89_89_0 T k = some r) : evCode sm_89 FU (evFn sm_89 fns FU 0) ir89_b0 T k = some r := ok_89_0 T k r h
noncomputable def F_89 (a0 : (List Int)) (a1 : Int) : Option ((List Int) × Unit) :=
 bif decide (a1 < 0) then none else B_89_0 (J_89_0 a0 a1) fun y1 => some (y1, PUnit.unit)
theorem fn_89 (a0 : (List Int)) (a1 : Int) : evFnL sm_89 FU (ovr noO (evFn sm_89 fns FU 0)) (ir89_t O_89_89_0) ir89 (ofH [(.slice (.int .u32)), (.int .i64)] (a0, a1, ())) [] (pureK [(.slice (.int .u32))]) = F_89 a0 a1 := by kernel_rfl
noncomputable def Sp.p_89 (a0 : (List Int)) (a1 : Int) : Bool := (F_89 a0 a1).isSome
noncomputable def Sp.v_89 (a0 : (List Int)) (a1 : Int) : (List Int) × Unit := (F_89 a0 a1).getD (dfH [(.slice (.int .u32))])
noncomputable def s_89 : Summ := shS [(.slice (.int .u32)), (.int .i64)] [(.slice (.int .u32))] (fun x => p_89 x.1 x.2.1) (fun x => v_89 x.1 x.2.1)
theorem run_89 (x : HDen [(.slice (.int .u32)), (.int .i64)]) (y : HDen [(.slice (.int .u32))]) (h : F_89 x.1 x.2.1 = some y) : evFn sm_89 fns FU 1 89 (ofH [(.slice (.int .u32)), (.int .i64)] x) [] (pureK [(.slice (.int .u32))]) = some y :=
 evFnL_sound (fn := ir89) (t := (ir89_t O_89_89_0)) (o := noO) rfl noO_ok (ir89_tok (fun T k r => OK_89_89_0 T k r)) ((fn_89 _ _).trans h)
end
noncomputable section
noncomputable def sm_53 : Nat → Option Summ := fun f => bif Nat.beq f 89 then some s_89 else none
noncomputable def F_53 (a0 a1 : Int) : Option (((List Int) × ((List Int) × (Int × Unit))) × Int × Unit) :=
 bif decide (a0 < 1) then some (([], [], 0, PUnit.unit), 2, PUnit.unit) else bif decide (a0 > 64) then some (([], [], 0, PUnit.unit), 2, PUnit.unit) else bif decide (a1 < 1) then some (([], [], 0, PUnit.unit), 2, PUnit.unit) else bif decide (a1 > 1000000) then some (([], [], 0, PUnit.unit), 2, PUnit.unit) else gd (p_89 [4294967295] (wrap i64 (a0 * 64))) (gd (decide (0 ≤ a0) && (a0 == a0 && room (toNat a0) 8)) (some (((v_89 [4294967295] (wrap i64 (a0 * 64))).1, replicate (toNat a0) (0 :Int), a1, PUnit.unit), 0, PUnit.unit)))
theorem fn_53 (a0 a1 : Int) : evFnL sm_53 FU (ovr noO (evFn sm_53 fns FU 0)) .nil ir53 (ofH [(.int .i64), (.int .i64)] (a0, a1, ())) [] (pureK [(.pair (.slice (.int .u32)) (.pair (.slice (.int .i64)) (.pair (.int .i64) .unit))), (.int .i64)]) = F_53 a0 a1 := by kernel_rfl
noncomputable def Sp.p_53 (a0 a1 : Int) : Bool := (F_53 a0 a1).isSome
noncomputable def Sp.v_53 (a0 a1 : Int) : ((List Int) × ((List Int) × (Int × Unit))) × Int × Unit := (F_53 a0 a1).getD (dfH [(.pair (.slice (.int .u32)) (.pair (.slice (.int .i64)) (.pair (.int .i64) .unit))), (.int .i64)])
noncomputable def s_53 : Summ := shS [(.int .i64), (.int .i64)] [(.pair (.slice (.int .u32)) (.pair (.slice (.int .i64)) (.pair (.int .i64) .unit))), (.int .i64)] (fun x => p_53 x.1 x.2.1) (fun x => v_53 x.1 x.2.1)
theorem run_53 (x : HDen [(.int .i64), (.int .i64)]) (y : HDen [(.pair (.slice (.int .u32)) (.pair (.slice (.int .i64)) (.pair (.int .i64) .unit))), (.int .i64)]) (h : F_53 x.1 x.2.1 = some y) : evFn sm_53 fns FU 1 53 (ofH [(.int .i64), (.int .i64)] x) [] (pureK [(.pair (.slice (.int .u32)) (.pair (.slice (.int .i64)) (.pair (.int .i64) .unit))), (.int .i64)]) = some y :=
 evFnL_sound (fn := ir53) (t := .nil) (o := noO) rfl noO_ok trivial ((fn_53 _ _).trans h)
end
noncomputable section
noncomputable def sm_22 : Nat → Option Summ := fun f => bif Nat.beq f 41 then some s_41 else bif Nat.beq f 53 then some s_53 else none
noncomputable def F_22 (a0 a1 : Int) (a2 : (List Int)) : Option ((((List Int) × ((List Int) × (Int × Unit))) × ((List Int) × Unit)) × Int × Unit) :=
 gd (p_41 a0) (bif !(v_41 a0).1 then some ((([], [], 0, PUnit.unit), replicate 32 (0 :Int), PUnit.unit), 2, PUnit.unit) else gd (p_53 a0 a1) (bif (v_53 a0 a1).2.1 != 0 then some ((([], [], 0, PUnit.unit), replicate 32 (0 :Int), PUnit.unit), 2, PUnit.unit) else some (((v_53 a0 a1).1, a2, PUnit.unit), 0, PUnit.unit)))
theorem fn_22 (a0 a1 : Int) (a2 : (List Int)) : evFnL sm_22 FU (ovr noO (evFn sm_22 fns FU 0)) .nil ir22 (ofH [(.int .i64), (.int .i64), (.arr 32 (.int .u8))] (a0, a1, a2, ())) [] (pureK [(.pair (.pair (.slice (.int .u32)) (.pair (.slice (.int .i64)) (.pair (.int .i64) .unit))) (.pair (.arr 32 (.int .u8)) .unit)), (.int .i64)]) = F_22 a0 a1 a2 := by kernel_rfl
noncomputable def Sp.p_22 (a0 a1 : Int) (a2 : (List Int)) : Bool := (F_22 a0 a1 a2).isSome
noncomputable def Sp.v_22 (a0 a1 : Int) (a2 : (List Int)) : (((List Int) × ((List Int) × (Int × Unit))) × ((List Int) × Unit)) × Int × Unit := (F_22 a0 a1 a2).getD (dfH [(.pair (.pair (.slice (.int .u32)) (.pair (.slice (.int .i64)) (.pair (.int .i64) .unit))) (.pair (.arr 32 (.int .u8)) .unit)), (.int .i64)])
noncomputable def s_22 : Summ := shS [(.int .i64), (.int .i64), (.arr 32 (.int .u8))] [(.pair (.pair (.slice (.int .u32)) (.pair (.slice (.int .i64)) (.pair (.int .i64) .unit))) (.pair (.arr 32 (.int .u8)) .unit)), (.int .i64)] (fun x => p_22 x.1 x.2.1 x.2.2.1) (fun x => v_22 x.1 x.2.1 x.2.2.1)
theorem run_22 (x : HDen [(.int .i64), (.int .i64), (.arr 32 (.int .u8))]) (y : HDen [(.pair (.pair (.slice (.int .u32)) (.pair (.slice (.int .i64)) (.pair (.int .i64) .unit))) (.pair (.arr 32 (.int .u8)) .unit)), (.int .i64)]) (h : F_22 x.1 x.2.1 x.2.2.1 = some y) : evFn sm_22 fns FU 1 22 (ofH [(.int .i64), (.int .i64), (.arr 32 (.int .u8))] x) [] (pureK [(.pair (.pair (.slice (.int .u32)) (.pair (.slice (.int .i64)) (.pair (.int .i64) .unit))) (.pair (.arr 32 (.int .u8)) .unit)), (.int .i64)]) = some y :=
 evFnL_sound (fn := ir22) (t := .nil) (o := noO) rfl noO_ok trivial ((fn_22 _ _ _).trans h)
end
noncomputable section
noncomputable def sm_10 : Nat → Option Summ := fun f => bif Nat.beq f 14 then some s_14 else bif Nat.beq f 17 then some s_17 else bif Nat.beq f 22 then some s_22 else none
noncomputable def F_10  : Option (Bool × Unit) :=
 gd (p_22 18 10 ([1] ++ replicate 31 (0 :Int))) (gd (p_14 ((v_22 18 10 ([1] ++ replicate 31 (0 :Int))).1) 0) (gd (p_17 ((v_22 18 10 ([1] ++ replicate 31 (0 :Int))).1)) (bif (v_22 18 10 ([1] ++ replicate 31 (0 :Int))).2.1 == 0 then bif (↑(length ((v_22 18 10 ([1] ++ replicate 31 (0 :Int))).1.1.1)) : Int) == 1152 then bif !(v_14 ((v_22 18 10 ([1] ++ replicate 31 (0 :Int))).1) 0).2.1 then some ((v_17 ((v_22 18 10 ([1] ++ replicate 31 (0 :Int))).1)).2.1 == 7, PUnit.unit) else some (false, PUnit.unit) else some (false, PUnit.unit) else some (false, PUnit.unit))))
theorem fn_10  : evFnL sm_10 FU (ovr noO (evFn sm_10 fns FU 0)) .nil ir10 (ofH [] (())) [] (pureK [.bool]) = F_10 := by kernel_rfl
noncomputable def Sp.p_10  : Bool := (F_10).isSome
noncomputable def Sp.v_10  : Bool × Unit := (F_10).getD (dfH [.bool])
noncomputable def s_10 : Summ := shN [] [.bool] (fun x => p_10 ) (fun x => v_10 )
theorem pv_10  {y : Bool × Unit} (h : F_10 = some y) : p_10 = true ∧ v_10 = y := ⟨by rw [p_10, h]; rfl, by rw [v_10, h]; rfl⟩
theorem run_10 (x : HDen []) (y : HDen [.bool]) (h : F_10  = some y) : evFn sm_10 fns FU 1 10 (ofH [] x) [] (pureK [.bool]) = some y :=
 evFnL_sound (fn := ir10) (t := .nil) (o := noO) rfl noO_ok trivial ((fn_10).trans h)
end
noncomputable section
noncomputable def sm_11 : Nat → Option Summ := fun f => none
noncomputable def F_11 (a0 : (((List Int) × ((List Int) × (Int × Unit))) × ((List Int) × Unit))) : Option (Bool × Unit) :=
 bif decide ((↑(length (a0.1.2.1)) : Int) ≤ 70) then some (decide ((↑(length (a0.1.1)) : Int) ≤ 4480), PUnit.unit) else some (false, PUnit.unit)
theorem fn_11 (a0 : (((List Int) × ((List Int) × (Int × Unit))) × ((List Int) × Unit))) : evFnL sm_11 FU (ovr noO (evFn sm_11 fns FU 0)) .nil ir11 (ofH [(.pair (.pair (.slice (.int .u32)) (.pair (.slice (.int .i64)) (.pair (.int .i64) .unit))) (.pair (.arr 32 (.int .u8)) .unit))] (a0, ())) [] (pureK [.bool]) = F_11 a0 := by kernel_rfl
noncomputable def Sp.p_11 (a0 : (((List Int) × ((List Int) × (Int × Unit))) × ((List Int) × Unit))) : Bool := (F_11 a0).isSome
noncomputable def Sp.v_11 (a0 : (((List Int) × ((List Int) × (Int × Unit))) × ((List Int) × Unit))) : Bool × Unit := (F_11 a0).getD (dfH [.bool])
noncomputable def s_11 : Summ := shN [(.pair (.pair (.slice (.int .u32)) (.pair (.slice (.int .i64)) (.pair (.int .i64) .unit))) (.pair (.arr 32 (.int .u8)) .unit))] [.bool] (fun x => p_11 x.1) (fun x => v_11 x.1)
theorem pv_11 (a0 : (((List Int) × ((List Int) × (Int × Unit))) × ((List Int) × Unit))) {y : Bool × Unit} (h : F_11 a0 = some y) : p_11 a0 = true ∧ v_11 a0 = y := ⟨by rw [p_11, h]; rfl, by rw [v_11, h]; rfl⟩
theorem run_11 (x : HDen [(.pair (.pair (.slice (.int .u32)) (.pair (.slice (.int .i64)) (.pair (.int .i64) .unit))) (.pair (.arr 32 (.int .u8)) .unit))]) (y : HDen [.bool]) (h : F_11 x.1 = some y) : evFn sm_11 fns FU 1 11 (ofH [(.pair (.pair (.slice (.int .u32)) (.pair (.slice (.int .i64)) (.pair (.int .i64) .unit))) (.pair (.arr 32 (.int .u8)) .unit))] x) [] (pureK [.bool]) = some y :=
 evFnL_sound (fn := ir11) (t := .nil) (o := noO) rfl noO_ok trivial ((fn_11 _).trans h)
end
noncomputable section
noncomputable def sm_19 : Nat → Option Summ := fun f => bif Nat.beq f 17 then some s_17 else none
noncomputable def F_19 (a0 : (((List Int) × ((List Int) × (Int × Unit))) × ((List Int) × Unit))) : Option (Int × Bool × Unit) :=
 gd (p_17 a0) (some ((v_17 a0).1, (v_17 a0).2.1 == 0, PUnit.unit))
theorem fn_19 (a0 : (((List Int) × ((List Int) × (Int × Unit))) × ((List Int) × Unit))) : evFnL sm_19 FU (ovr noO (evFn sm_19 fns FU 0)) .nil ir19 (ofH [(.pair (.pair (.slice (.int .u32)) (.pair (.slice (.int .i64)) (.pair (.int .i64) .unit))) (.pair (.arr 32 (.int .u8)) .unit))] (a0, ())) [] (pureK [(.int .i64), .bool]) = F_19 a0 := by kernel_rfl
noncomputable def Sp.p_19 (a0 : (((List Int) × ((List Int) × (Int × Unit))) × ((List Int) × Unit))) : Bool := (F_19 a0).isSome
noncomputable def Sp.v_19 (a0 : (((List Int) × ((List Int) × (Int × Unit))) × ((List Int) × Unit))) : Int × Bool × Unit := (F_19 a0).getD (dfH [(.int .i64), .bool])
noncomputable def s_19 : Summ := shN [(.pair (.pair (.slice (.int .u32)) (.pair (.slice (.int .i64)) (.pair (.int .i64) .unit))) (.pair (.arr 32 (.int .u8)) .unit))] [(.int .i64), .bool] (fun x => p_19 x.1) (fun x => v_19 x.1)
theorem pv_19 (a0 : (((List Int) × ((List Int) × (Int × Unit))) × ((List Int) × Unit))) {y : Int × Bool × Unit} (h : F_19 a0 = some y) : p_19 a0 = true ∧ v_19 a0 = y := ⟨by rw [p_19, h]; rfl, by rw [v_19, h]; rfl⟩
theorem run_19 (x : HDen [(.pair (.pair (.slice (.int .u32)) (.pair (.slice (.int .i64)) (.pair (.int .i64) .unit))) (.pair (.arr 32 (.int .u8)) .unit))]) (y : HDen [(.int .i64), .bool]) (h : F_19 x.1 = some y) : evFn sm_19 fns FU 1 19 (ofH [(.pair (.pair (.slice (.int .u32)) (.pair (.slice (.int .i64)) (.pair (.int .i64) .unit))) (.pair (.arr 32 (.int .u8)) .unit))] x) [] (pureK [(.int .i64), .bool]) = some y :=
 evFnL_sound (fn := ir19) (t := .nil) (o := noO) rfl noO_ok trivial ((fn_19 _).trans h)
end
noncomputable section
noncomputable def sm_20 : Nat → Option Summ := fun f => bif Nat.beq f 14 then some s_14 else bif Nat.beq f 19 then some s_19 else none
noncomputable def F_20 (a0 : (((List Int) × ((List Int) × (Int × Unit))) × ((List Int) × Unit))) : Option (Int × Unit) :=
 gd (p_19 a0) (bif !(v_19 a0).2.1 then some (0, PUnit.unit) else gd (p_14 a0 ((v_19 a0).1)) (some ((v_14 a0 ((v_19 a0).1)).1.1, PUnit.unit)))
theorem fn_20 (a0 : (((List Int) × ((List Int) × (Int × Unit))) × ((List Int) × Unit))) : evFnL sm_20 FU (ovr noO (evFn sm_20 fns FU 0)) .nil ir20 (ofH [(.pair (.pair (.slice (.int .u32)) (.pair (.slice (.int .i64)) (.pair (.int .i64) .unit))) (.pair (.arr 32 (.int .u8)) .unit))] (a0, ())) [] (pureK [(.int .i64)]) = F_20 a0 := by kernel_rfl
noncomputable def Sp.p_20 (a0 : (((List Int) × ((List Int) × (Int × Unit))) × ((List Int) × Unit))) : Bool := (F_20 a0).isSome
noncomputable def Sp.v_20 (a0 : (((List Int) × ((List Int) × (Int × Unit))) × ((List Int) × Unit))) : Int × Unit := (F_20 a0).getD (dfH [(.int .i64)])
noncomputable def s_20 : Summ := shN [(.pair (.pair (.slice (.int .u32)) (.pair (.slice (.int .i64)) (.pair (.int .i64) .unit))) (.pair (.arr 32 (.int .u8)) .unit))] [(.int .i64)] (fun x => p_20 x.1) (fun x => v_20 x.1)
theorem pv_20 (a0 : (((List Int) × ((List Int) × (Int × Unit))) × ((List Int) × Unit))) {y : Int × Unit} (h : F_20 a0 = some y) : p_20 a0 = true ∧ v_20 a0 = y := ⟨by rw [p_20, h]; rfl, by rw [v_20, h]; rfl⟩
theorem run_20 (x : HDen [(.pair (.pair (.slice (.int .u32)) (.pair (.slice (.int .i64)) (.pair (.int .i64) .unit))) (.pair (.arr 32 (.int .u8)) .unit))]) (y : HDen [(.int .i64)]) (h : F_20 x.1 = some y) : evFn sm_20 fns FU 1 20 (ofH [(.pair (.pair (.slice (.int .u32)) (.pair (.slice (.int .i64)) (.pair (.int .i64) .unit))) (.pair (.arr 32 (.int .u8)) .unit))] x) [] (pureK [(.int .i64)]) = some y :=
 evFnL_sound (fn := ir20) (t := .nil) (o := noO) rfl noO_ok trivial ((fn_20 _).trans h)
end
noncomputable section
noncomputable def sm_34 : Nat → Option Summ := fun f => none
noncomputable def F_34  : Option ((Int × (Int × Unit)) × Unit) :=
 some ((1099511627776, 0, PUnit.unit), PUnit.unit)
theorem fn_34  : evFnL sm_34 FU (ovr noO (evFn sm_34 fns FU 0)) .nil ir34 (ofH [] (())) [] (pureK [(.pair (.int .i64) (.pair (.int .u32) .unit))]) = F_34 := by kernel_rfl
noncomputable def Sp.p_34  : Bool := (F_34).isSome
noncomputable def Sp.v_34  : (Int × (Int × Unit)) × Unit := (F_34).getD (dfH [(.pair (.int .i64) (.pair (.int .u32) .unit))])
noncomputable def s_34 : Summ := shN [] [(.pair (.int .i64) (.pair (.int .u32) .unit))] (fun x => p_34 ) (fun x => v_34 )
theorem pv_34  {y : (Int × (Int × Unit)) × Unit} (h : F_34 = some y) : p_34 = true ∧ v_34 = y := ⟨by rw [p_34, h]; rfl, by rw [v_34, h]; rfl⟩
theorem run_34 (x : HDen []) (y : HDen [(.pair (.int .i64) (.pair (.int .u32) .unit))]) (h : F_34  = some y) : evFn sm_34 fns FU 1 34 (ofH [] x) [] (pureK [(.pair (.int .i64) (.pair (.int .u32) .unit))]) = some y :=
 evFnL_sound (fn := ir34) (t := .nil) (o := noO) rfl noO_ok trivial ((fn_34).trans h)
end
noncomputable section
noncomputable def sm_60 : Nat → Option Summ := fun f => bif Nat.beq f 12 then some s_12 else bif Nat.beq f 13 then some s_13 else bif Nat.beq f 46 then some s_46 else none
noncomputable def F_60 (a0 : (((List Int) × ((List Int) × (Int × Unit))) × ((List Int) × Unit))) (a1 : Int) : Option (Int × Unit) :=
 gd (p_12 a0) (bif !(v_12 a0).1 then some (1, PUnit.unit) else gd (p_46 a1) (bif !(v_46 a1).1 then some (2, PUnit.unit) else gd (p_13 a0 a1) (bif !(v_13 a0 a1).1 then some (14, PUnit.unit) else some (0, PUnit.unit))))
theorem fn_60 (a0 : (((List Int) × ((List Int) × (Int × Unit))) × ((List Int) × Unit))) (a1 : Int) : evFnL sm_60 FU (ovr noO (evFn sm_60 fns FU 0)) .nil ir60 (ofH [(.pair (.pair (.slice (.int .u32)) (.pair (.slice (.int .i64)) (.pair (.int .i64) .unit))) (.pair (.arr 32 (.int .u8)) .unit)), (.int .i64)] (a0, a1, ())) [] (pureK [(.int .i64)]) = F_60 a0 a1 := by kernel_rfl
noncomputable def Sp.p_60 (a0 : (((List Int) × ((List Int) × (Int × Unit))) × ((List Int) × Unit))) (a1 : Int) : Bool := (F_60 a0 a1).isSome
noncomputable def Sp.v_60 (a0 : (((List Int) × ((List Int) × (Int × Unit))) × ((List Int) × Unit))) (a1 : Int) : Int × Unit := (F_60 a0 a1).getD (dfH [(.int .i64)])
noncomputable def s_60 : Summ := shN [(.pair (.pair (.slice (.int .u32)) (.pair (.slice (.int .i64)) (.pair (.int .i64) .unit))) (.pair (.arr 32 (.int .u8)) .unit)), (.int .i64)] [(.int .i64)] (fun x => p_60 x.1 x.2.1) (fun x => v_60 x.1 x.2.1)
theorem pv_60 (a0 : (((List Int) × ((List Int) × (Int × Unit))) × ((List Int) × Unit))) (a1 : Int) {y : Int × Unit} (h : F_60 a0 a1 = some y) : p_60 a0 a1 = true ∧ v_60 a0 a1 = y := ⟨by rw [p_60, h]; rfl, by rw [v_60, h]; rfl⟩
theorem run_60 (x : HDen [(.pair (.pair (.slice (.int .u32)) (.pair (.slice (.int .i64)) (.pair (.int .i64) .unit))) (.pair (.arr 32 (.int .u8)) .unit)), (.int .i64)]) (y : HDen [(.int .i64)]) (h : F_60 x.1 x.2.1 = some y) : evFn sm_60 fns FU 1 60 (ofH [(.pair (.pair (.slice (.int .u32)) (.pair (.slice (.int .i64)) (.pair (.int .i64) .unit))) (.pair (.arr 32 (.int .u8)) .unit)), (.int .i64)] x) [] (pureK [(.int .i64)]) = some y :=
 evFnL_sound (fn := ir60) (t := .nil) (o := noO) rfl noO_ok trivial ((fn_60 _ _).trans h)
end
noncomputable section
noncomputable def sm_91 : Nat → Option Summ := fun f => bif Nat.beq f 40 then some s_40 else none
noncomputable def F_91 (a0 : ((List Int) × ((List Int) × (Int × Unit)))) (a1 : (Int × (Int × Unit))) (a2 a3 : Int) : Option (Int × Unit) :=
 gd (p_40 a0) (bif !(v_40 a0).1 then some (1, PUnit.unit) else bif decide (a1.1 < 0) then some (1, PUnit.unit) else bif decide (a1.1 > 1099511627776) then some (1, PUnit.unit) else bif decide (a2 < 0) then some (2, PUnit.unit) else bif decide (a2 ≥ a3) then some (2, PUnit.unit) else some (0, PUnit.unit))
theorem fn_91 (a0 : ((List Int) × ((List Int) × (Int × Unit)))) (a1 : (Int × (Int × Unit))) (a2 a3 : Int) : evFnL sm_91 FU (ovr noO (evFn sm_91 fns FU 0)) .nil ir91 (ofH [(.pair (.slice (.int .u32)) (.pair (.slice (.int .i64)) (.pair (.int .i64) .unit))), (.pair (.int .i64) (.pair (.int .u32) .unit)), (.int .i64), (.int .i64)] (a0, a1, a2, a3, ())) [] (pureK [(.int .i64)]) = F_91 a0 a1 a2 a3 := by kernel_rfl
noncomputable def Sp.p_91 (a0 : ((List Int) × ((List Int) × (Int × Unit)))) (a1 : (Int × (Int × Unit))) (a2 a3 : Int) : Bool := (F_91 a0 a1 a2 a3).isSome
noncomputable def Sp.v_91 (a0 : ((List Int) × ((List Int) × (Int × Unit)))) (a1 : (Int × (Int × Unit))) (a2 a3 : Int) : Int × Unit := (F_91 a0 a1 a2 a3).getD (dfH [(.int .i64)])
noncomputable def s_91 : Summ := shN [(.pair (.slice (.int .u32)) (.pair (.slice (.int .i64)) (.pair (.int .i64) .unit))), (.pair (.int .i64) (.pair (.int .u32) .unit)), (.int .i64), (.int .i64)] [(.int .i64)] (fun x => p_91 x.1 x.2.1 x.2.2.1 x.2.2.2.1) (fun x => v_91 x.1 x.2.1 x.2.2.1 x.2.2.2.1)
theorem pv_91 (a0 : ((List Int) × ((List Int) × (Int × Unit)))) (a1 : (Int × (Int × Unit))) (a2 a3 : Int) {y : Int × Unit} (h : F_91 a0 a1 a2 a3 = some y) : p_91 a0 a1 a2 a3 = true ∧ v_91 a0 a1 a2 a3 = y := ⟨by rw [p_91, h]; rfl, by rw [v_91, h]; rfl⟩
theorem run_91 (x : HDen [(.pair (.slice (.int .u32)) (.pair (.slice (.int .i64)) (.pair (.int .i64) .unit))), (.pair (.int .i64) (.pair (.int .u32) .unit)), (.int .i64), (.int .i64)]) (y : HDen [(.int .i64)]) (h : F_91 x.1 x.2.1 x.2.2.1 x.2.2.2.1 = some y) : evFn sm_91 fns FU 1 91 (ofH [(.pair (.slice (.int .u32)) (.pair (.slice (.int .i64)) (.pair (.int .i64) .unit))), (.pair (.int .i64) (.pair (.int .u32) .unit)), (.int .i64), (.int .i64)] x) [] (pureK [(.int .i64)]) = some y :=
 evFnL_sound (fn := ir91) (t := .nil) (o := noO) rfl noO_ok trivial ((fn_91 _ _ _ _).trans h)
end
noncomputable section
abbrev s63_61 : Summ := vecS (.int .u32) 42 4
abbrev s63_103 : Summ := vecS (.int .i64) 3 8
noncomputable def sm_63 : Nat → Option Summ := fun f => bif Nat.beq f 61 then some s63_61 else bif Nat.beq f 91 then some s_91 else bif Nat.beq f 103 then some s63_103 else none
noncomputable def F_63 (a0 : ((List Int) × ((List Int) × (Int × Unit)))) (a1 a2 : Int) (a3 : (Int × (Int × Unit))) : Option (((List Int) × ((List Int) × (Int × Unit))) × (Int × (Int × Unit)) × Int × Unit) :=
 gd (p_91 a0 a3 a1 (↑(length (a0.1)) : Int)) (bif (v_91 a0 a3 a1 (↑(length (a0.1)) : Int)).1 != 0 then some (([], [], 0, PUnit.unit), (0, 0, PUnit.unit), (v_91 a0 a3 a1 (↑(length (a0.1)) : Int)).1, PUnit.unit) else gd (room (length (a0.1)) 4) (gd (room (length (a0.2.1)) 8) (bif a3.1 == 0 then some ((a0.1, a0.2.1, a0.2.2.1, PUnit.unit), a3, 18, PUnit.unit) else bif a3.1 == 1 then gd (inB a1 (length (a0.1))) (gd (decide (toNat a1 < length (a0.1)) && true) (gd (inB a1 (length (a0.1))) (gd (decide (toNat a1 < length (a0.1)) && true && true) (some ((List.set (a0.1) (toNat a1) (Sp.andnI u32 (getD (a0.1) (toNat a1) 0) (Sp.andnI u32 (a3.2.1) a2)), a0.2.1, a0.2.2.1, PUnit.unit), (0, a3.2), 18, PUnit.unit))))) else gd (inB a1 (length (a0.1))) (gd (decide (toNat a1 < length (a0.1)) && true) (gd (inB a1 (length (a0.1))) (gd (decide (toNat a1 < length (a0.1)) && true && true) (some ((List.set (a0.1) (toNat a1) (Sp.andnI u32 (getD (a0.1) (toNat a1) 0) (Sp.andnI u32 4294967295 a2)), a0.2.1, a0.2.2.1, PUnit.unit), (wrap i64 (a3.1 - 1), a3.2), 0, PUnit.unit))))))))
theorem fn_63 (a0 : ((List Int) × ((List Int) × (Int × Unit)))) (a1 a2 : Int) (a3 : (Int × (Int × Unit))) : evFnL sm_63 FU (ovr noO (evFn sm_63 fns FU 2)) .nil ir63 (ofH [(.pair (.slice (.int .u32)) (.pair (.slice (.int .i64)) (.pair (.int .i64) .unit))), (.int .i64), (.int .u32), (.pair (.int .i64) (.pair (.int .u32) .unit))] (a0, a1, a2, a3, ())) [] (pureK [(.pair (.slice (.int .u32)) (.pair (.slice (.int .i64)) (.pair (.int .i64) .unit))), (.pair (.int .i64) (.pair (.int .u32) .unit)), (.int .i64)]) = F_63 a0 a1 a2 a3 := by kernel_rfl
noncomputable def Sp.p_63 (a0 : ((List Int) × ((List Int) × (Int × Unit)))) (a1 a2 : Int) (a3 : (Int × (Int × Unit))) : Bool := (F_63 a0 a1 a2 a3).isSome
noncomputable def Sp.v_63 (a0 : ((List Int) × ((List Int) × (Int × Unit)))) (a1 a2 : Int) (a3 : (Int × (Int × Unit))) : ((List Int) × ((List Int) × (Int × Unit))) × (Int × (Int × Unit)) × Int × Unit := (F_63 a0 a1 a2 a3).getD (dfH [(.pair (.slice (.int .u32)) (.pair (.slice (.int .i64)) (.pair (.int .i64) .unit))), (.pair (.int .i64) (.pair (.int .u32) .unit)), (.int .i64)])
noncomputable def s_63 : Summ := shS [(.pair (.slice (.int .u32)) (.pair (.slice (.int .i64)) (.pair (.int .i64) .unit))), (.int .i64), (.int .u32), (.pair (.int .i64) (.pair (.int .u32) .unit))] [(.pair (.slice (.int .u32)) (.pair (.slice (.int .i64)) (.pair (.int .i64) .unit))), (.pair (.int .i64) (.pair (.int .u32) .unit)), (.int .i64)] (fun x => p_63 x.1 x.2.1 x.2.2.1 x.2.2.2.1) (fun x => v_63 x.1 x.2.1 x.2.2.1 x.2.2.2.1)
theorem pv_63 (a0 : ((List Int) × ((List Int) × (Int × Unit)))) (a1 a2 : Int) (a3 : (Int × (Int × Unit))) {y : ((List Int) × ((List Int) × (Int × Unit))) × (Int × (Int × Unit)) × Int × Unit} (h : F_63 a0 a1 a2 a3 = some y) : p_63 a0 a1 a2 a3 = true ∧ v_63 a0 a1 a2 a3 = y := ⟨by rw [p_63, h]; rfl, by rw [v_63, h]; rfl⟩
theorem run_63 (x : HDen [(.pair (.slice (.int .u32)) (.pair (.slice (.int .i64)) (.pair (.int .i64) .unit))), (.int .i64), (.int .u32), (.pair (.int .i64) (.pair (.int .u32) .unit))]) (y : HDen [(.pair (.slice (.int .u32)) (.pair (.slice (.int .i64)) (.pair (.int .i64) .unit))), (.pair (.int .i64) (.pair (.int .u32) .unit)), (.int .i64)]) (h : F_63 x.1 x.2.1 x.2.2.1 x.2.2.2.1 = some y) : evFn sm_63 fns FU 3 63 (ofH [(.pair (.slice (.int .u32)) (.pair (.slice (.int .i64)) (.pair (.int .i64) .unit))), (.int .i64), (.int .u32), (.pair (.int .i64) (.pair (.int .u32) .unit))] x) [] (pureK [(.pair (.slice (.int .u32)) (.pair (.slice (.int .i64)) (.pair (.int .i64) .unit))), (.pair (.int .i64) (.pair (.int .u32) .unit)), (.int .i64)]) = some y :=
 evFnL_sound (fn := ir63) (t := .nil) (o := noO) rfl noO_ok trivial ((fn_63 _ _ _ _).trans h)
end
noncomputable section
abbrev Zt31_0 : Type := (List Int × List Int × Int × Unit) × List Int × Unit
abbrev Zy31_1 : Ty := (.pair (.pair (.slice (.int .u32)) (.pair (.slice (.int .i64)) (.pair (.int .i64) .unit))) (.pair (.arr 32 (.int .u8)) .unit))
abbrev Zt31_2 : Type := Int × Int × Unit
abbrev Zy31_3 : Ty := (Ty.pair (Ty.pair (Ty.slice (Ty.int u32)) (Ty.pair (Ty.slice (Ty.int i64)) (Ty.pair (Ty.int i64) Ty.unit))) (Ty.pair (Ty.arr (32 : Nat) (Ty.int u8)) Ty.unit))
abbrev Zy31_4 : Ty := (Ty.pair (Ty.int i64) (Ty.pair (Ty.int u32) Ty.unit))
abbrev Zy31_5 : Ty := (.pair (.int .i64) (.pair (.int .u32) .unit))
abbrev Zy31_6 : Ty := (Ty.pair (Ty.arr (32 : Nat) (Ty.int u8)) Ty.unit)
abbrev Zy31_7 : Ty := (Ty.pair (Ty.int i64) Ty.unit)
abbrev Zt31_8 : Type := List Int × Unit
abbrev Zt31_9 : Type := ((List Int) × ((List Int) × (Int × Unit))) × ((List Int) × Unit)
abbrev Zt31_10 : Type := Int × (Int × Unit)
noncomputable def sm_31 : Nat → Option Summ := fun f => bif Nat.beq f 14 then some s_14 else bif Nat.beq f 20 then some s_20 else bif Nat.beq f 34 then some s_34 else bif Nat.beq f 51 then some s_51 else bif Nat.beq f 60 then some s_60 else bif Nat.beq f 63 then some s_63 else none
noncomputable def T_31_1 (p0 p1 : Int) (p2 : Zt31_0) (p3 : Zt31_2) (p4 : Int × Unit) (p5 : Zt31_8) (p6 p7 : List Int) (p8 : Zt31_2) : St := St.mk ([jk, CV.int i64 p0, jk, CV.ptr 0 [], jk, CV.ptr 1 [], CV.ptr 2 [], CV.ptr 5 [], jk, CV.int i64 p1] ++ (jl 76)) [Blk.mem (CV.pure Zy31_3 p2), Blk.mem (CV.pure Zy31_4 p3), Blk.mem (CV.pair (CV.pair (CV.whole 3) (CV.pair (CV.whole 4) (CV.pure Zy31_7 p4))) (CV.pure Zy31_6 p5)), Blk.vec 42 (Ty.int u32) p6, Blk.vec 3 (Ty.int i64) p7, Blk.mem (CV.pure Zy31_4 p8)] 0
noncomputable def X_31_1_0 (p1 : Int) : St := St.mk (jl 6 ++ ([CV.ptr 0 [], CV.ptr 3 [], CV.int i64 p1] ++ (jl 77))) [Blk.mem (CV.pair (CV.pair (CV.whole 1) (CV.pair (CV.whole 2) (CV.pure Zy31_7 ((0, PUnit.unit) : (Int × Unit))))) (CV.pure Zy31_6 ((replicate 32 (0 :Int), PUnit.unit) : ((List Int) × Unit)))), Blk.vec 42 (Ty.int u32) [], Blk.vec 3 (Ty.int i64) [], Blk.mem (CV.pure Zy31_4 ((0, 0, PUnit.unit) : (Zt31_10)))] 0
noncomputable def X_31_1_1 (p0 : Int) (p2 : Zt31_0) (p3 : Zt31_2) : St := St.mk (jl 6 ++ ([CV.ptr 0 [], CV.ptr 3 [], CV.int i64 ((v_63 (p2.1) (wrap i64 (wrap i64 (Int.tdiv (wrap i64 (p0 * (↑(length (p2.1.1)) : Int))) 2) + 0)) 0 p3).2.2.1)] ++ (jl 77))) [Blk.mem (CV.pair (CV.pair (CV.whole 1) (CV.pair (CV.whole 2) (CV.pure Zy31_7 ((0, PUnit.unit) : (Int × Unit))))) (CV.pure Zy31_6 ((replicate 32 (0 :Int), PUnit.unit) : ((List Int) × Unit)))), Blk.vec 42 (Ty.int u32) [], Blk.vec 3 (Ty.int i64) [], Blk.mem (CV.pure Zy31_4 ((0, 0, PUnit.unit) : (Zt31_10)))] 0
noncomputable def X_31_1_2 (p0 : Int) (p2 : Zt31_0) (p3 : Zt31_2) : St := St.mk (jl 6 ++ ([CV.ptr 0 [], CV.ptr 1 [], CV.int i64 ((v_63 (p2.1) (wrap i64 (wrap i64 (Int.tdiv (wrap i64 (p0 * (↑(length (p2.1.1)) : Int))) 2) + 0)) 0 p3).2.2.1)] ++ (jl 77))) [Blk.mem (CV.pure Zy31_3 (((v_63 (p2.1) (wrap i64 (wrap i64 (Int.tdiv (wrap i64 (p0 * (↑(length (p2.1.1)) : Int))) 2) + 0)) 0 p3).1, p2.2.1, PUnit.unit) : (Zt31_9))), Blk.mem (CV.pure Zy31_4 (((v_63 (p2.1) (wrap i64 (wrap i64 (Int.tdiv (wrap i64 (p0 * (↑(length (p2.1.1)) : Int))) 2) + 0)) 0 p3).2.1) : (Zt31_10)))] 0
inductive Sp.E_31_1 where
 | e0 (p1 : Int)
 | e1 (p0 : Int) (p2 : Zt31_0) (p3 : Zt31_2)
 | e2 (p0 : Int) (p2 : Zt31_0) (p3 : Zt31_2)
noncomputable def Sp.B_31_1 {R : Type} (r : Option E_31_1) (k0 : Int → Option R) (k1 k2 : Int → Zt31_0 → Zt31_2 → Option R) : Option R := match r with
 | none => none
 | some (.e0 p1) => k0 p1
 | some (.e1 p0 p2 p3) => k1 p0 p2 p3
 | some (.e2 p0 p2 p3) => k2 p0 p2 p3
noncomputable def Sp.J_31_1 (p0 p1 : Int) (p2 : (List Int × List Int × Int × Unit) × List Int × Unit) (p3 : Int × Int × Unit) (p4 : Int × Unit) (p5 : List Int × Unit) (p6 p7 : List Int) (p8 : Int × Int × Unit) : Option E_31_1 :=
 bif p1 != 0 then some (E_31_1.e0 p1) else gd (p_63 (p2.1) (wrap i64 (wrap i64 (Int.tdiv (wrap i64 (p0 * (↑(length (p2.1.1)) : Int))) 2) + 0)) 0 p3) (bif (v_63 (p2.1) (wrap i64 (wrap i64 (Int.tdiv (wrap i64 (p0 * (↑(length (p2.1.1)) : Int))) 2) + 0)) 0 p3).2.2.1 != 0 then bif (v_63 (p2.1) (wrap i64 (wrap i64 (Int.tdiv (wrap i64 (p0 * (↑(length (p2.1.1)) : Int))) 2) + 0)) 0 p3).2.2.1 != 18 then some (E_31_1.e1 p0 p2 p3) else some (E_31_1.e2 p0 p2 p3) else some (E_31_1.e2 p0 p2 p3))
noncomputable def G_31_1 {R : Type} (p0 p1 : Int) (p2 : Zt31_0) (p3 : Zt31_2) (p4 : Int × Unit) (p5 : Zt31_8) (p6 p7 : List Int) (p8 : Zt31_2) (k : Ex → St → Option R) : Option R := B_31_1 (J_31_1 p0 p1 p2 p3 p4 p5 p6 p7 p8) (fun p1 => k Ex.ret (X_31_1_0 p1)) (fun p0 p2 p3 => k Ex.ret (X_31_1_1 p0 p2 p3)) (fun p0 p2 p3 => k Ex.ret (X_31_1_2 p0 p2 p3))
noncomputable def o_31_1 {R : Type} (G : Int → Int → Zt31_0 → Zt31_2 → (Int × Unit) → Zt31_8 → List Int → List Int → Zt31_2 → (Ex → St → Option R) → Option R) : St → (Ex → St → Option R) → Option R := fun T k => match T.sl.getD 1 .junk, T.sl.getD 3 .junk, T.sl.getD 5 .junk, T.sl.getD 6 .junk, T.sl.getD 7 .junk, T.sl.getD 9 .junk, T.hp with
 | CV.int i64 p0, CV.ptr 0 [], CV.ptr 1 [], CV.ptr 2 [], CV.ptr 5 [], CV.int i64 p1, ((Blk.mem (CV.pure (Ty.pair (Ty.pair (Ty.slice (Ty.int u32)) (Ty.pair (Ty.slice (Ty.int i64)) (Ty.pair (Ty.int i64) Ty.unit))) (Ty.pair (Ty.arr 32 (Ty.int u8)) Ty.unit)) p2)) :: (Blk.mem (CV.pure (Ty.pair (Ty.int i64) (Ty.pair (Ty.int u32) Ty.unit)) p3)) :: (Blk.mem (CV.pair (CV.pair (CV.whole 3) (CV.pair (CV.whole 4) (CV.pure (Ty.pair (Ty.int i64) Ty.unit) p4))) (CV.pure (Ty.pair (Ty.arr 32 (Ty.int u8)) Ty.unit) p5))) :: (Blk.vec 42 (Ty.int u32) p6) :: (Blk.vec 3 (Ty.int i64) p7) :: (Blk.mem (CV.pure (Ty.pair (Ty.int i64) (Ty.pair (Ty.int u32) Ty.unit)) p8)) :: []) => gd (shapeOK T 86 [1, 3, 5, 6, 7, 9] 0) (G p0 p1 p2 p3 p4 p5 p6 p7 p8 k)
 | _, _, _, _, _, _, _ => none
theorem o_31_1_inv {R : Type} {G : Int → Int → Zt31_0 → Zt31_2 → (Int × Unit) → Zt31_8 → List Int → List Int → Zt31_2 → (Ex → St → Option R) → Option R} {T : St} {k : Ex → St → Option R} {r : R} (h : o_31_1 G T k = some r) : ∃ p0 p1 p2 p3 p4 p5 p6 p7 p8, T = T_31_1 p0 p1 p2 p3 p4 p5 p6 p7 p8 ∧ G p0 p1 p2 p3 p4 p5 p6 p7 p8 k = some r := by
 unfold o_31_1 at h
 split at h
 · obtain ⟨hs, h'⟩ := gd_some h
   refine ⟨_, _, _, _, _, _, _, _, _, (st_of (asg := [(1, _), (3, _), (5, _), (6, _), (7, _), (9, _)]) hs ⟨by assumption, by assumption, by assumption, by assumption, by assumption, by assumption, trivial⟩ (by assumption)).trans ?_, h'⟩
   kernel_rfl
 · cases h
noncomputable def T_31_0 (p0 p1 : Int) (p2 : Zt31_0) (p3 : Zt31_2) (p4 : Int × Unit) (p5 : Zt31_8) (p6 p7 : List Int) (p8 : Zt31_2) : St := St.mk ([jk, CV.int i64 p0, jk, CV.ptr 0 [], jk, CV.ptr 1 [], CV.ptr 2 [], CV.ptr 5 [], jk, CV.int i64 p1] ++ (jl 76)) [Blk.mem (CV.pure Zy31_3 p2), Blk.mem (CV.pure Zy31_4 p3), Blk.mem (CV.pair (CV.pair (CV.whole 3) (CV.pair (CV.whole 4) (CV.pure Zy31_7 p4))) (CV.pure Zy31_6 p5)), Blk.vec 42 (Ty.int u32) p6, Blk.vec 3 (Ty.int i64) p7, Blk.mem (CV.pure Zy31_4 p8)] 0
noncomputable def X_31_0_0 (y21 : Int) : St := St.mk (jl 6 ++ ([CV.ptr 0 [], CV.ptr 3 [], CV.int i64 y21] ++ (jl 77))) [Blk.mem (CV.pair (CV.pair (CV.whole 1) (CV.pair (CV.whole 2) (CV.pure Zy31_7 ((0, PUnit.unit) : (Int × Unit))))) (CV.pure Zy31_6 ((replicate 32 (0 :Int), PUnit.unit) : ((List Int) × Unit)))), Blk.vec 42 (Ty.int u32) [], Blk.vec 3 (Ty.int i64) [], Blk.mem (CV.pure Zy31_4 ((0, 0, PUnit.unit) : (Zt31_10)))] 0
noncomputable def X_31_0_1 (y22 : Int) (y23 : Zt31_0) (y24 : Zt31_2) : St := St.mk (jl 6 ++ ([CV.ptr 0 [], CV.ptr 3 [], CV.int i64 ((v_63 (y23.1) (wrap i64 (wrap i64 (Int.tdiv (wrap i64 (y22 * (↑(length (y23.1.1)) : Int))) 2) + 0)) 0 y24).2.2.1)] ++ (jl 77))) [Blk.mem (CV.pair (CV.pair (CV.whole 1) (CV.pair (CV.whole 2) (CV.pure Zy31_7 ((0, PUnit.unit) : (Int × Unit))))) (CV.pure Zy31_6 ((replicate 32 (0 :Int), PUnit.unit) : ((List Int) × Unit)))), Blk.vec 42 (Ty.int u32) [], Blk.vec 3 (Ty.int i64) [], Blk.mem (CV.pure Zy31_4 ((0, 0, PUnit.unit) : (Zt31_10)))] 0
noncomputable def X_31_0_2 (y25 : Int) (y26 : Zt31_0) (y27 : Zt31_2) : St := St.mk (jl 6 ++ ([CV.ptr 0 [], CV.ptr 1 [], CV.int i64 ((v_63 (y26.1) (wrap i64 (wrap i64 (Int.tdiv (wrap i64 (y25 * (↑(length (y26.1.1)) : Int))) 2) + 0)) 0 y27).2.2.1)] ++ (jl 77))) [Blk.mem (CV.pure Zy31_3 (((v_63 (y26.1) (wrap i64 (wrap i64 (Int.tdiv (wrap i64 (y25 * (↑(length (y26.1.1)) : Int))) 2) + 0)) 0 y27).1, y26.2.1, PUnit.unit) : (Zt31_9))), Blk.mem (CV.pure Zy31_4 (((v_63 (y26.1) (wrap i64 (wrap i64 (Int.tdiv (wrap i64 (y25 * (↑(length (y26.1.1)) : Int))) 2) + 0)) 0 y27).2.1) : (Zt31_10)))] 0
inductive Sp.E_31_0 where
 | e0 (y21 : Int)
 | e1 (y22 : Int) (y23 : Zt31_0) (y24 : Zt31_2)
 | e2 (y25 : Int) (y26 : Zt31_0) (y27 : Zt31_2)
noncomputable def Sp.B_31_0 {R : Type} (r : Option E_31_0) (k0 : Int → Option R) (k1 k2 : Int → Zt31_0 → Zt31_2 → Option R) : Option R := match r with
 | none => none
 | some (.e0 y21) => k0 y21
 | some (.e1 y22 y23 y24) => k1 y22 y23 y24
 | some (.e2 y25 y26 y27) => k2 y25 y26 y27
noncomputable def Sp.J_31_0 (p0 p1 : Int) (p2 : (List Int × List Int × Int × Unit) × List Int × Unit) (p3 : Int × Int × Unit) (p4 : Int × Unit) (p5 : List Int × Unit) (p6 p7 : List Int) (p8 : Int × Int × Unit) : Option E_31_0 :=
 gd (p_14 p2 p0) (bif p1 == 0 then gd (p_20 p2) (bif decide ((v_14 p2 p0).1.1 < (v_20 p2).1) then B_31_1 (J_31_1 p0 20 p2 p3 p4 p5 p6 p7 p8) (fun y21 => some (E_31_0.e0 y21)) (fun y22 y23 y24 => some (E_31_0.e1 y22 y23 y24)) fun y25 y26 y27 => some (E_31_0.e2 y25 y26 y27) else B_31_1 (J_31_1 p0 p1 p2 p3 p4 p5 p6 p7 p8) (fun y28 => some (E_31_0.e0 y28)) (fun y29 y30 y31 => some (E_31_0.e1 y29 y30 y31)) fun y32 y33 y34 => some (E_31_0.e2 y32 y33 y34)) else B_31_1 (J_31_1 p0 p1 p2 p3 p4 p5 p6 p7 p8) (fun y35 => some (E_31_0.e0 y35)) (fun y36 y37 y38 => some (E_31_0.e1 y36 y37 y38)) fun y39 y40 y41 => some (E_31_0.e2 y39 y40 y41))
noncomputable def G_31_0 {R : Type} (p0 p1 : Int) (p2 : Zt31_0) (p3 : Zt31_2) (p4 : Int × Unit) (p5 : Zt31_8) (p6 p7 : List Int) (p8 : Zt31_2) (k : Ex → St → Option R) : Option R := B_31_0 (J_31_0 p0 p1 p2 p3 p4 p5 p6 p7 p8) (fun y21 => k Ex.ret (X_31_0_0 y21)) (fun y22 y23 y24 => k Ex.ret (X_31_0_1 y22 y23 y24)) (fun y25 y26 y27 => k Ex.ret (X_31_0_2 y25 y26 y27))
noncomputable def o_31_0 {R : Type} (G : Int → Int → Zt31_0 → Zt31_2 → (Int × Unit) → Zt31_8 → List Int → List Int → Zt31_2 → (Ex → St → Option R) → Option R) : St → (Ex → St → Option R) → Option R := fun T k => match T.sl.getD 1 .junk, T.sl.getD 3 .junk, T.sl.getD 5 .junk, T.sl.getD 6 .junk, T.sl.getD 7 .junk, T.sl.getD 9 .junk, T.hp with
 | CV.int i64 p0, CV.ptr 0 [], CV.ptr 1 [], CV.ptr 2 [], CV.ptr 5 [], CV.int i64 p1, ((Blk.mem (CV.pure (Ty.pair (Ty.pair (Ty.slice (Ty.int u32)) (Ty.pair (Ty.slice (Ty.int i64)) (Ty.pair (Ty.int i64) Ty.unit))) (Ty.pair (Ty.arr 32 (Ty.int u8)) Ty.unit)) p2)) :: (Blk.mem (CV.pure (Ty.pair (Ty.int i64) (Ty.pair (Ty.int u32) Ty.unit)) p3)) :: (Blk.mem (CV.pair (CV.pair (CV.whole 3) (CV.pair (CV.whole 4) (CV.pure (Ty.pair (Ty.int i64) Ty.unit) p4))) (CV.pure (Ty.pair (Ty.arr 32 (Ty.int u8)) Ty.unit) p5))) :: (Blk.vec 42 (Ty.int u32) p6) :: (Blk.vec 3 (Ty.int i64) p7) :: (Blk.mem (CV.pure (Ty.pair (Ty.int i64) (Ty.pair (Ty.int u32) Ty.unit)) p8)) :: []) => gd (shapeOK T 86 [1, 3, 5, 6, 7, 9] 0) (G p0 p1 p2 p3 p4 p5 p6 p7 p8 k)
 | _, _, _, _, _, _, _ => none
theorem o_31_0_inv {R : Type} {G : Int → Int → Zt31_0 → Zt31_2 → (Int × Unit) → Zt31_8 → List Int → List Int → Zt31_2 → (Ex → St → Option R) → Option R} {T : St} {k : Ex → St → Option R} {r : R} (h : o_31_0 G T k = some r) : ∃ p0 p1 p2 p3 p4 p5 p6 p7 p8, T = T_31_0 p0 p1 p2 p3 p4 p5 p6 p7 p8 ∧ G p0 p1 p2 p3 p4 p5 p6 p7 p8 k = some r := by
 unfold o_31_0 at h
 split at h
 · obtain ⟨hs, h'⟩ := gd_some h
   refine ⟨_, _, _, _, _, _, _, _, _, (st_of (asg := [(1, _), (3, _), (5, _), (6, _), (7, _), (9, _)]) hs ⟨by assumption, by assumption, by assumption, by assumption, by assumption, by assumption, trivial⟩ (by assumption)).trans ?_, h'⟩
   kernel_rfl
 · cases h
noncomputable def O_31_31_1 {R : Type} : St → (Ex → St → Option R) → Option R := fun T k => o_31_1 G_31_1 T k
noncomputable def O_31_31_0 {R : Type} : St → (Ex → St → Option R) → Option R := fun T k => o_31_0 G_31_0 T k
theorem body_31_1 {R : Type} (K1 : Ex → St → Option R) (p0 p1 : Int) (p2 : Zt31_0) (p3 : Zt31_2) (p4 : Int × Unit) (p5 : Zt31_8) (p6 p7 : List Int) (p8 : Zt31_2) : evJ (evCodeL sm_31 FU (ovr noO (evFn sm_31 fns FU 0)) .nil ir31_b1) (T_31_1 p0 p1 p2 p3 p4 p5 p6 p7 p8) K1 =
 bif p1 != 0 then K1 Ex.ret (X_31_1_0 p1) else gd (p_63 (p2.1) (wrap i64 (wrap i64 (Int.tdiv (wrap i64 (p0 * (↑(length (p2.1.1)) : Int))) 2) + 0)) 0 p3) (bif (v_63 (p2.1) (wrap i64 (wrap i64 (Int.tdiv (wrap i64 (p0 * (↑(length (p2.1.1)) : Int))) 2) + 0)) 0 p3).2.2.1 != 0 then bif (v_63 (p2.1) (wrap i64 (wrap i64 (Int.tdiv (wrap i64 (p0 * (↑(length (p2.1.1)) : Int))) 2) + 0)) 0 p3).2.2.1 != 18 then K1 Ex.ret (X_31_1_1 p0 p2 p3) else K1 Ex.ret (X_31_1_2 p0 p2 p3) else K1 Ex.ret (X_31_1_2 p0 p2 p3)) := by kernel_rfl
theorem Bgd_31_1 {R : Type} {c : Bool} {x : Option R} {y : Option E_31_1} {k0 : Int → Option R} {k1 : Int → Zt31_0 → Zt31_2 → Option R} {k2 : Int → Zt31_0 → Zt31_2 → Option R} (h : x = B_31_1 y k0 k1 k2) : gd c x = B_31_1 (gd c y) k0 k1 k2 := by cases c; rfl; exact h
theorem Bcond_31_1 {R : Type} {c : Bool} {x x' : Option R} {y y' : Option E_31_1} {k0 : Int → Option R} {k1 : Int → Zt31_0 → Zt31_2 → Option R} {k2 : Int → Zt31_0 → Zt31_2 → Option R} (h : x = B_31_1 y k0 k1 k2) (h' : x' = B_31_1 y' k0 k1 k2) : (bif c then x else x') = B_31_1 (bif c then y else y') k0 k1 k2 := by cases c; exact h'; exact h
theorem loop_31_1 {R : Type} (k : Ex → St → Option R) (p0 p1 : Int) (p2 : Zt31_0) (p3 : Zt31_2) (p4 : Int × Unit) (p5 : Zt31_8) (p6 p7 : List Int) (p8 : Zt31_2) : evJ (evCodeL sm_31 FU (ovr noO (evFn sm_31 fns FU 0)) .nil ir31_b1) (T_31_1 p0 p1 p2 p3 p4 p5 p6 p7 p8) k = B_31_1 (J_31_1 p0 p1 p2 p3 p4 p5 p6 p7 p8) (fun p1 => k Ex.ret (X_31_1_0 p1)) (fun p0 p2 p3 => k Ex.ret (X_31_1_1 p0 p2 p3)) (fun p0 p2 p3 => k Ex.ret (X_31_1_2 p0 p2 p3)) := by
 rw [body_31_1, J_31_1]
 repeat' first | apply Bgd_31_1 | apply Bcond_31_1 | rfl
theorem ok_31_1 {R : Type} (T : St) (k : Ex → St → Option R) (r : R) (h0 : o_31_1 G_31_1 T k = some r) : evCode sm_31 FU (evFn sm_31 fns FU 0) ir31_b1 T k = some r := by
 obtain ⟨p0, p1, p2, p3, p4, p5, p6, p7, p8, rfl, h⟩ := o_31_1_inv h0
 refine bodyL_sound (t := .nil) noO_ok trivial (((show ∀ (b : St → (Ex → St → Option R) → Option R) (T : St) (k : Ex → St → Option R), b T k = evJ b T k from fun _ _ _ => rfl) _ _ _).trans ((loop_31_1 k p0 p1 p2 p3 p4 p5 p6 p7 p8).trans h))
theorem OK_31_31_1 {R : Type} (T : St) (k : Ex → St → Option R) (r : R) (h : O_31_31_1 T k = some r) : evCode sm_31 FU (evFn sm_31 fns FU 0) ir31_b1 T k = some r := ok_31_1 T k r h
theorem body_31_0 {R : Type} (K1 : Ex → St → Option R) (p0 p1 : Int) (p2 : Zt31_0) (p3 : Zt31_2) (p4 : Int × Unit) (p5 : Zt31_8) (p6 p7 : List Int) (p8 : Zt31_2) : evJ (evCodeL sm_31 FU (ovr noO (evFn sm_31 fns FU 0)) (ir31_bt0 O_31_31_1) ir31_b0) (T_31_0 p0 p1 p2 p3 p4 p5 p6 p7 p8) K1 =
 gd (p_14 p2 p0) (bif p1 == 0 then gd (p_20 p2) (bif decide ((v_14 p2 p0).1.1 < (v_20 p2).1) then B_31_1 (J_31_1 p0 20 p2 p3 p4 p5 p6 p7 p8) (fun y21 => K1 Ex.ret (X_31_0_0 y21)) (fun y22 y23 y24 => K1 Ex.ret (X_31_0_1 y22 y23 y24)) fun y25 y26 y27 => K1 Ex.ret (X_31_0_2 y25 y26 y27) else B_31_1 (J_31_1 p0 p1 p2 p3 p4 p5 p6 p7 p8) (fun y28 => K1 Ex.ret (X_31_0_0 y28)) (fun y29 y30 y31 => K1 Ex.ret (X_31_0_1 y29 y30 y31)) fun y32 y33 y34 => K1 Ex.ret (X_31_0_2 y32 y33 y34)) else B_31_1 (J_31_1 p0 p1 p2 p3 p4 p5 p6 p7 p8) (fun y35 => K1 Ex.ret (X_31_0_0 y35)) (fun y36 y37 y38 => K1 Ex.ret (X_31_0_1 y36 y37 y38)) fun y39 y40 y41 => K1 Ex.ret (X_31_0_2 y39 y40 y41)) := by kernel_rfl
theorem Bgd_31_0 {R : Type} {c : Bool} {x : Option R} {y : Option E_31_0} {k0 : Int → Option R} {k1 : Int → Zt31_0 → Zt31_2 → Option R} {k2 : Int → Zt31_0 → Zt31_2 → Option R} (h : x = B_31_0 y k0 k1 k2) : gd c x = B_31_0 (gd c y) k0 k1 k2 := by cases c; rfl; exact h
theorem Bcond_31_0 {R : Type} {c : Bool} {x x' : Option R} {y y' : Option E_31_0} {k0 : Int → Option R} {k1 : Int → Zt31_0 → Zt31_2 → Option R} {k2 : Int → Zt31_0 → Zt31_2 → Option R} (h : x = B_31_0 y k0 k1 k2) (h' : x' = B_31_0 y' k0 k1 k2) : (bif c then x else x') = B_31_0 (bif c then y else y') k0 k1 k2 := by cases c; exact h'; exact h
theorem Bin_31_0_31_1 {R : Type} {r : Option E_31_1} {k0 : Int → Option R} {k1 : Int → Zt31_0 → Zt31_2 → Option R} {k2 : Int → Zt31_0 → Zt31_2 → Option R} {f0 : Int → Option R} {f1 : Int → Zt31_0 → Zt31_2 → Option R} {f2 : Int → Zt31_0 → Zt31_2 → Option R} {g0 : Int → Option E_31_0} {g1 : Int → Zt31_0 → Zt31_2 → Option E_31_0} {g2 : Int → Zt31_0 → Zt31_2 → Option E_31_0} (h0 : ∀ z0, f0 z0 = B_31_0 (g0 z0) k0 k1 k2) (h1 : ∀ z0 z1 z2, f1 z0 z1 z2 = B_31_0 (g1 z0 z1 z2) k0 k1 k2) (h2 : ∀ z0 z1 z2, f2 z0 z1 z2 = B_31_0 (g2 z0 z1 z2) k0 k1 k2) : B_31_1 r f0 f1 f2 = B_31_0 (B_31_1 r g0 g1 g2) k0 k1 k2 := by
 cases r with
 | none => rfl
 | some e => cases e with
   | e0 z0 => exact h0 _
   | e1 z0 z1 z2 => exact h1 _ _ _
   | e2 z0 z1 z2 => exact h2 _ _ _
theorem loop_31_0 {R : Type} (k : Ex → St → Option R) (p0 p1 : Int) (p2 : Zt31_0) (p3 : Zt31_2) (p4 : Int × Unit) (p5 : Zt31_8) (p6 p7 : List Int) (p8 : Zt31_2) : evJ (evCodeL sm_31 FU (ovr noO (evFn sm_31 fns FU 0)) (ir31_bt0 O_31_31_1) ir31_b0) (T_31_0 p0 p1 p2 p3 p4 p5 p6 p7 p8) k = B_31_0 (J_31_0 p0 p1 p2 p3 p4 p5 p6 p7 p8) (fun y21 => k Ex.ret (X_31_0_0 y21)) (fun y22 y23 y24 => k Ex.ret (X_31_0_1 y22 y23 y24)) (fun y25 y26 y27 => k Ex.ret (X_31_0_2 y25 y26 y27)) := by
 rw [body_31_0, J_31_0]
 repeat' first | apply Bgd_31_0 | apply Bcond_31_0 | (apply Bin_31_0_31_1 <;> intros) | rfl
theorem ok_31_0 {R : Type} (T : St) (k : Ex → St → Option R) (r : R) (h0 : o_31_0 G_31_0 T k = some r) : evCode sm_31 FU (evFn sm_31 fns FU 0) ir31_b0 T k = some r := by
 obtain ⟨p0, p1, p2, p3, p4, p5, p6, p7, p8, rfl, h⟩ := o_31_0_inv h0
 refine bodyL_sound (t := (ir31_bt0 O_31_31_1)) noO_ok (ir31_bt0ok (fun T k r => OK_31_31_1 T k r)) (((show ∀ (b : St → (Ex → St → Option R) → Option R) (T : St) (k : Ex → St → Option R), b T k = evJ b T k from fun _ _ _ => rfl) _ _ _).trans ((loop_31_0 k p0 p1 p2 p3 p4 p5 p6 p7 p8).trans h))
theorem OK_31_31_0 {R : Type} (T : St) (k : Ex → St → Option R) (r : R) (h : O_31_31_0 T k = some r) : evCode sm_31 FU (evFn sm_31 fns FU 0) ir31_b0 T k = some r := ok_31_0 T k r h
noncomputable def F_31 (a0 : (((List Int) × ((List Int) × (Int × Unit))) × ((List Int) × Unit))) (a1 : Int) (a2 : (Int × (Int × Unit))) : Option ((((List Int) × ((List Int) × (Int × Unit))) × ((List Int) × Unit)) × (Int × (Int × Unit)) × Int × Unit) :=
 bif decide (a2.1 < 0) then some ((([], [], 0, PUnit.unit), replicate 32 (0 :Int), PUnit.unit), (0, 0, PUnit.unit), 1, PUnit.unit) else gd p_34 (bif decide (a2.1 > v_34.1.1) then some ((([], [], 0, PUnit.unit), replicate 32 (0 :Int), PUnit.unit), (0, 0, PUnit.unit), 1, PUnit.unit) else gd (p_60 a0 a1) (bif (v_60 a0 a1).1 == 0 then gd (p_51 a0 a1) (bif (v_51 a0 a1).1 then B_31_0 (J_31_0 a1 6 a0 a2 (0, PUnit.unit) (replicate 32 (0 :Int), PUnit.unit) [] [] (0, 0, PUnit.unit)) (fun y25 => some ((([], [], 0, PUnit.unit), replicate 32 (0 :Int), PUnit.unit), (0, 0, PUnit.unit), y25, PUnit.unit)) (fun y26 y27 y28 => some ((([], [], 0, PUnit.unit), replicate 32 (0 :Int), PUnit.unit), (0, 0, PUnit.unit), (v_63 (y27.1) (wrap i64 (wrap i64 (Int.tdiv (wrap i64 (y26 * (↑(length (y27.1.1)) : Int))) 2) + 0)) 0 y28).2.2.1, PUnit.unit)) fun y29 y30 y31 => some (((v_63 (y30.1) (wrap i64 (wrap i64 (Int.tdiv (wrap i64 (y29 * (↑(length (y30.1.1)) : Int))) 2) + 0)) 0 y31).1, y30.2.1, PUnit.unit), (v_63 (y30.1) (wrap i64 (wrap i64 (Int.tdiv (wrap i64 (y29 * (↑(length (y30.1.1)) : Int))) 2) + 0)) 0 y31).2.1, (v_63 (y30.1) (wrap i64 (wrap i64 (Int.tdiv (wrap i64 (y29 * (↑(length (y30.1.1)) : Int))) 2) + 0)) 0 y31).2.2.1, PUnit.unit) else B_31_0 (J_31_0 a1 ((v_60 a0 a1).1) a0 a2 (0, PUnit.unit) (replicate 32 (0 :Int), PUnit.unit) [] [] (0, 0, PUnit.unit)) (fun y32 => some ((([], [], 0, PUnit.unit), replicate 32 (0 :Int), PUnit.unit), (0, 0, PUnit.unit), y32, PUnit.unit)) (fun y33 y34 y35 => some ((([], [], 0, PUnit.unit), replicate 32 (0 :Int), PUnit.unit), (0, 0, PUnit.unit), (v_63 (y34.1) (wrap i64 (wrap i64 (Int.tdiv (wrap i64 (y33 * (↑(length (y34.1.1)) : Int))) 2) + 0)) 0 y35).2.2.1, PUnit.unit)) fun y36 y37 y38 => some (((v_63 (y37.1) (wrap i64 (wrap i64 (Int.tdiv (wrap i64 (y36 * (↑(length (y37.1.1)) : Int))) 2) + 0)) 0 y38).1, y37.2.1, PUnit.unit), (v_63 (y37.1) (wrap i64 (wrap i64 (Int.tdiv (wrap i64 (y36 * (↑(length (y37.1.1)) : Int))) 2) + 0)) 0 y38).2.1, (v_63 (y37.1) (wrap i64 (wrap i64 (Int.tdiv (wrap i64 (y36 * (↑(length (y37.1.1)) : Int))) 2) + 0)) 0 y38).2.2.1, PUnit.unit)) else B_31_0 (J_31_0 a1 ((v_60 a0 a1).1) a0 a2 (0, PUnit.unit) (replicate 32 (0 :Int), PUnit.unit) [] [] (0, 0, PUnit.unit)) (fun y39 => some ((([], [], 0, PUnit.unit), replicate 32 (0 :Int), PUnit.unit), (0, 0, PUnit.unit), y39, PUnit.unit)) (fun y40 y41 y42 => some ((([], [], 0, PUnit.unit), replicate 32 (0 :Int), PUnit.unit), (0, 0, PUnit.unit), (v_63 (y41.1) (wrap i64 (wrap i64 (Int.tdiv (wrap i64 (y40 * (↑(length (y41.1.1)) : Int))) 2) + 0)) 0 y42).2.2.1, PUnit.unit)) fun y43 y44 y45 => some (((v_63 (y44.1) (wrap i64 (wrap i64 (Int.tdiv (wrap i64 (y43 * (↑(length (y44.1.1)) : Int))) 2) + 0)) 0 y45).1, y44.2.1, PUnit.unit), (v_63 (y44.1) (wrap i64 (wrap i64 (Int.tdiv (wrap i64 (y43 * (↑(length (y44.1.1)) : Int))) 2) + 0)) 0 y45).2.1, (v_63 (y44.1) (wrap i64 (wrap i64 (Int.tdiv (wrap i64 (y43 * (↑(length (y44.1.1)) : Int))) 2) + 0)) 0 y45).2.2.1, PUnit.unit)))
theorem fn_31 (a0 : (((List Int) × ((List Int) × (Int × Unit))) × ((List Int) × Unit))) (a1 : Int) (a2 : (Int × (Int × Unit))) : evFnL sm_31 FU (ovr noO (evFn sm_31 fns FU 0)) (ir31_t O_31_31_0) ir31 (ofH [Zy31_1, (.int .i64), Zy31_5] (a0, a1, a2, ())) [] (pureK [Zy31_1, Zy31_5, (.int .i64)]) = F_31 a0 a1 a2 := by kernel_rfl
noncomputable def Sp.p_31 (a0 : (((List Int) × ((List Int) × (Int × Unit))) × ((List Int) × Unit))) (a1 : Int) (a2 : (Int × (Int × Unit))) : Bool := (F_31 a0 a1 a2).isSome
noncomputable def Sp.v_31 (a0 : (((List Int) × ((List Int) × (Int × Unit))) × ((List Int) × Unit))) (a1 : Int) (a2 : (Int × (Int × Unit))) : (((List Int) × ((List Int) × (Int × Unit))) × ((List Int) × Unit)) × (Int × (Int × Unit)) × Int × Unit := (F_31 a0 a1 a2).getD (dfH [Zy31_1, Zy31_5, (.int .i64)])
noncomputable def s_31 : Summ := shS [Zy31_1, (.int .i64), Zy31_5] [Zy31_1, Zy31_5, (.int .i64)] (fun x => p_31 x.1 x.2.1 x.2.2.1) (fun x => v_31 x.1 x.2.1 x.2.2.1)
theorem pv_31 (a0 : (((List Int) × ((List Int) × (Int × Unit))) × ((List Int) × Unit))) (a1 : Int) (a2 : (Int × (Int × Unit))) {y : (((List Int) × ((List Int) × (Int × Unit))) × ((List Int) × Unit)) × (Int × (Int × Unit)) × Int × Unit} (h : F_31 a0 a1 a2 = some y) : p_31 a0 a1 a2 = true ∧ v_31 a0 a1 a2 = y := ⟨by rw [p_31, h]; rfl, by rw [v_31, h]; rfl⟩
theorem run_31 (x : HDen [Zy31_1, (.int .i64), Zy31_5]) (y : HDen [Zy31_1, Zy31_5, (.int .i64)]) (h : F_31 x.1 x.2.1 x.2.2.1 = some y) : evFn sm_31 fns FU 1 31 (ofH [Zy31_1, (.int .i64), Zy31_5] x) [] (pureK [Zy31_1, Zy31_5, (.int .i64)]) = some y :=
 evFnL_sound (fn := ir31) (t := (ir31_t O_31_31_0)) (o := noO) rfl noO_ok (ir31_tok (fun T k r => OK_31_31_0 T k r)) ((fn_31 _ _ _).trans h)
end
noncomputable section
noncomputable def sm_54 : Nat → Option Summ := fun f => none
noncomputable def F_54 (a0 : Int) : Option (Bool × Unit) :=
 bif decide (a0 ≥ 18) then bif decide (a0 ≤ 64) then some (Int.tmod a0 (2 :Int) == (0 :Int), PUnit.unit) else some (false, PUnit.unit) else some (false, PUnit.unit)
theorem fn_54 (a0 : Int) : evFnL sm_54 FU (ovr noO (evFn sm_54 fns FU 0)) .nil ir54 (ofH [(.int .i64)] (a0, ())) [] (pureK [.bool]) = F_54 a0 := by kernel_rfl
noncomputable def Sp.p_54 (a0 : Int) : Bool := (F_54 a0).isSome
noncomputable def Sp.v_54 (a0 : Int) : Bool × Unit := (F_54 a0).getD (dfH [.bool])
noncomputable def s_54 : Summ := shN [(.int .i64)] [.bool] (fun x => p_54 x.1) (fun x => v_54 x.1)
theorem pv_54 (a0 : Int) {y : Bool × Unit} (h : F_54 a0 = some y) : p_54 a0 = true ∧ v_54 a0 = y := ⟨by rw [p_54, h]; rfl, by rw [v_54, h]; rfl⟩
theorem run_54 (x : HDen [(.int .i64)]) (y : HDen [.bool]) (h : F_54 x.1 = some y) : evFn sm_54 fns FU 1 54 (ofH [(.int .i64)] x) [] (pureK [.bool]) = some y :=
 evFnL_sound (fn := ir54) (t := .nil) (o := noO) rfl noO_ok trivial ((fn_54 _).trans h)
end
noncomputable section
noncomputable def sm_90 : Nat → Option Summ := fun f => none
noncomputable def F_90 (a0 : Int) : Option (Bool × Unit) :=
 bif decide (a0 ≥ 1) then some (decide (a0 ≤ 1000000), PUnit.unit) else some (false, PUnit.unit)
theorem fn_90 (a0 : Int) : evFnL sm_90 FU (ovr noO (evFn sm_90 fns FU 0)) .nil ir90 (ofH [(.int .i64)] (a0, ())) [] (pureK [.bool]) = F_90 a0 := by kernel_rfl
noncomputable def Sp.p_90 (a0 : Int) : Bool := (F_90 a0).isSome
noncomputable def Sp.v_90 (a0 : Int) : Bool × Unit := (F_90 a0).getD (dfH [.bool])
noncomputable def s_90 : Summ := shN [(.int .i64)] [.bool] (fun x => p_90 x.1) (fun x => v_90 x.1)
theorem pv_90 (a0 : Int) {y : Bool × Unit} (h : F_90 a0 = some y) : p_90 a0 = true ∧ v_90 a0 = y := ⟨by rw [p_90, h]; rfl, by rw [v_90, h]; rfl⟩
theorem run_90 (x : HDen [(.int .i64)]) (y : HDen [.bool]) (h : F_90 x.1 = some y) : evFn sm_90 fns FU 1 90 (ofH [(.int .i64)] x) [] (pureK [.bool]) = some y :=
 evFnL_sound (fn := ir90) (t := .nil) (o := noO) rfl noO_ok trivial ((fn_90 _).trans h)
end
noncomputable section
noncomputable def sm_56 : Nat → Option Summ := fun f => bif Nat.beq f 90 then some s_90 else none
noncomputable def T_56_0 (p0 p1 : Int) (p2 : List Int × List Int × Int × Unit) : St := St.mk ([jk, CV.ptr 0 [], jk, CV.int i64 p0, CV.int i64 p1] ++ (jl 44)) [Blk.mem (CV.pure (Ty.pair (Ty.slice (Ty.int u32)) (Ty.pair (Ty.slice (Ty.int i64)) (Ty.pair (Ty.int i64) Ty.unit))) p2)] 0
noncomputable def X_56_0_0 : St := St.mk ([jk, jk, CV.bool false] ++ (jl 46)) [] 0
noncomputable def X_56_0_1 : St := St.mk (jl 49) [] 0
inductive Sp.E_56_0 where
 | e0
 | e1
noncomputable def Sp.B_56_0 {R : Type} (r : Option E_56_0) (k0 k1 : Option R) : Option R := match r with
 | none => none
 | some (.e0) => k0
 | some (.e1) => k1
noncomputable def Sp.L_56_0 : Nat → Int → Int → (List Int × List Int × Int × Unit) → Option E_56_0
 | 0, _, _, _ => none
 | m + 1, p0, p1, p2 => bif decide (p1 < p0) then gd (inB p1 (length (p2.2.1))) (bif decide (getD (p2.2.1) (toNat p1) (0 :Int) < (0 :Int)) then some (E_56_0.e0) else gd (inB p1 (length (p2.2.1))) (bif decide (getD (p2.2.1) (toNat p1) 0 > p2.2.2.1) then some (E_56_0.e0) else L_56_0 m p0 (wrap i64 (p1 + 1)) p2)) else some (E_56_0.e1)
noncomputable def G_56_0 {R : Type} (p0 p1 : Int) (p2 : List Int × List Int × Int × Unit) (k : Ex → St → Option R) : Option R := B_56_0 (L_56_0 FU p0 p1 p2) (k Ex.ret (X_56_0_0)) (k (Ex.exit 0) (X_56_0_1))
noncomputable def o_56_0 {R : Type} (G : Int → Int → (List Int × List Int × Int × Unit) → (Ex → St → Option R) → Option R) : St → (Ex → St → Option R) → Option R := fun T k => match T.sl.getD 1 .junk, T.sl.getD 3 .junk, T.sl.getD 4 .junk, T.hp with
 | CV.ptr 0 [], CV.int i64 p0, CV.int i64 p1, ((Blk.mem (CV.pure (Ty.pair (Ty.slice (Ty.int u32)) (Ty.pair (Ty.slice (Ty.int i64)) (Ty.pair (Ty.int i64) Ty.unit))) p2)) :: []) => gd (shapeOK T 49 [1, 3, 4] 0) (G p0 p1 p2 k)
 | _, _, _, _ => none
theorem o_56_0_inv {R : Type} {G : Int → Int → (List Int × List Int × Int × Unit) → (Ex → St → Option R) → Option R} {T : St} {k : Ex → St → Option R} {r : R} (h : o_56_0 G T k = some r) : ∃ p0 p1 p2, T = T_56_0 p0 p1 p2 ∧ G p0 p1 p2 k = some r := by
 unfold o_56_0 at h
 split at h
 · obtain ⟨hs, h'⟩ := gd_some h
   refine ⟨_, _, _, (st_of (asg := [(1, _), (3, _), (4, _)]) hs ⟨by assumption, by assumption, by assumption, trivial⟩ (by assumption)).trans ?_, h'⟩
   kernel_rfl
 · cases h
noncomputable def O_56_56_0 {R : Type} : St → (Ex → St → Option R) → Option R := fun T k => o_56_0 G_56_0 T k
theorem body_56_0 {R : Type} (K0 : St → Option R) (K1 : Ex → St → Option R) (p0 p1 : Int) (p2 : List Int × List Int × Int × Unit) : evLB (evCodeL sm_56 FU (ovr noO (evFn sm_56 fns FU 0)) .nil ir56_b0) (St.norm ir56_v0) (T_56_0 p0 p1 p2) K0 K1 =
 bif decide (p1 < p0) then gd (inB p1 (length (p2.2.1))) (bif decide (getD (p2.2.1) (toNat p1) (0 :Int) < (0 :Int)) then K1 Ex.ret X_56_0_0 else gd (inB p1 (length (p2.2.1))) (bif decide (getD (p2.2.1) (toNat p1) 0 > p2.2.2.1) then K1 Ex.ret X_56_0_0 else K0 (T_56_0 p0 (wrap i64 (p1 + 1)) p2))) else K1 (Ex.exit 0) X_56_0_1 := by kernel_rfl
theorem Bgd_56_0 {R : Type} {c : Bool} {x : Option R} {y : Option E_56_0} {k0 : Option R} {k1 : Option R} (h : x = B_56_0 y k0 k1) : gd c x = B_56_0 (gd c y) k0 k1 := by cases c; rfl; exact h
theorem Bcond_56_0 {R : Type} {c : Bool} {x x' : Option R} {y y' : Option E_56_0} {k0 : Option R} {k1 : Option R} (h : x = B_56_0 y k0 k1) (h' : x' = B_56_0 y' k0 k1) : (bif c then x else x') = B_56_0 (bif c then y else y') k0 k1 := by cases c; exact h'; exact h
theorem loop_56_0 {R : Type} (k : Ex → St → Option R) : ∀ (m : Nat) (p0 : Int) (p1 : Int) (p2 : List Int × List Int × Int × Unit), evLoopN (evCodeL sm_56 FU (ovr noO (evFn sm_56 fns FU 0)) .nil ir56_b0) (St.norm ir56_v0) m (T_56_0 p0 p1 p2) k = B_56_0 (L_56_0 m p0 p1 p2) (k Ex.ret (X_56_0_0)) (k (Ex.exit (0 : Nat)) (X_56_0_1))
 | 0, _, _, _ => rfl
 | m + 1, p0, p1, p2 => by
   rw [evLoopN_succ, body_56_0, L_56_0]
   repeat' first | apply Bgd_56_0 | apply Bcond_56_0 | exact loop_56_0 k m _ _ _ | rfl
theorem ok_56_0 {R : Type} (T : St) (k : Ex → St → Option R) (r : R) (h0 : o_56_0 G_56_0 T k = some r) : evLoopN (evCode sm_56 FU (evFn sm_56 fns FU 0) ir56_b0) (St.norm ir56_v0) FU T k = some r := by
 obtain ⟨p0, p1, p2, rfl, h⟩ := o_56_0_inv h0
 refine evLoopN_L (t := .nil) noO_ok trivial _ _ _ _ ?_
 rw [loop_56_0]
 exact h
theorem OK_56_56_0 {R : Type} (T : St) (k : Ex → St → Option R) (r : R) (h : O_56_56_0 T k = some r) : evLoopN (evCode sm_56 FU (evFn sm_56 fns FU 0) ir56_b0) (St.norm ir56_v0) FU T k = some r := ok_56_0 T k r h
noncomputable def F_56 (a0 : ((List Int) × ((List Int) × (Int × Unit)))) : Option (Bool × Unit) :=
 bif decide ((↑(length (a0.2.1)) : Int) < 1) then some (false, PUnit.unit) else bif decide ((↑(length (a0.2.1)) : Int) > 64) then some (false, PUnit.unit) else bif (↑(length (a0.1)) : Int) != wrap i64 ((↑(length (a0.2.1)) : Int) * 64) then some (false, PUnit.unit) else gd (p_90 (a0.2.2.1)) (bif !(v_90 (a0.2.2.1)).1 then some (false, PUnit.unit) else B_56_0 (L_56_0 4611686018427387904 (↑(length (a0.2.1)) : Int) 0 a0) (some (false, PUnit.unit)) (some (true, PUnit.unit)))
theorem fn_56 (a0 : ((List Int) × ((List Int) × (Int × Unit)))) : evFnL sm_56 FU (ovr noO (evFn sm_56 fns FU 0)) (ir56_t O_56_56_0) ir56 (ofH [(.pair (.slice (.int .u32)) (.pair (.slice (.int .i64)) (.pair (.int .i64) .unit)))] (a0, ())) [] (pureK [.bool]) = F_56 a0 := by kernel_rfl
noncomputable def Sp.p_56 (a0 : ((List Int) × ((List Int) × (Int × Unit)))) : Bool := (F_56 a0).isSome
noncomputable def Sp.v_56 (a0 : ((List Int) × ((List Int) × (Int × Unit)))) : Bool × Unit := (F_56 a0).getD (dfH [.bool])
noncomputable def s_56 : Summ := shN [(.pair (.slice (.int .u32)) (.pair (.slice (.int .i64)) (.pair (.int .i64) .unit)))] [.bool] (fun x => p_56 x.1) (fun x => v_56 x.1)
theorem pv_56 (a0 : ((List Int) × ((List Int) × (Int × Unit)))) {y : Bool × Unit} (h : F_56 a0 = some y) : p_56 a0 = true ∧ v_56 a0 = y := ⟨by rw [p_56, h]; rfl, by rw [v_56, h]; rfl⟩
theorem run_56 (x : HDen [(.pair (.slice (.int .u32)) (.pair (.slice (.int .i64)) (.pair (.int .i64) .unit)))]) (y : HDen [.bool]) (h : F_56 x.1 = some y) : evFn sm_56 fns FU 1 56 (ofH [(.pair (.slice (.int .u32)) (.pair (.slice (.int .i64)) (.pair (.int .i64) .unit)))] x) [] (pureK [.bool]) = some y :=
 evFnL_sound (fn := ir56) (t := (ir56_t O_56_56_0)) (o := noO) rfl noO_ok (ir56_tok (fun T k r => OK_56_56_0 T k r)) ((fn_56 _).trans h)
end
noncomputable section
noncomputable def sm_25 : Nat → Option Summ := fun f => bif Nat.beq f 54 then some s_54 else bif Nat.beq f 56 then some s_56 else none
noncomputable def F_25 (a0 : (((List Int) × ((List Int) × (Int × Unit))) × ((List Int) × Unit))) : Option (Bool × Unit) :=
 gd (p_56 (a0.1)) (bif (v_56 (a0.1)).1 then gd (p_54 (↑(length (a0.1.2.1)) : Int)) (some ((v_54 (↑(length (a0.1.2.1)) : Int)).1, PUnit.unit)) else some (false, PUnit.unit))
theorem fn_25 (a0 : (((List Int) × ((List Int) × (Int × Unit))) × ((List Int) × Unit))) : evFnL sm_25 FU (ovr noO (evFn sm_25 fns FU 0)) .nil ir25 (ofH [(.pair (.pair (.slice (.int .u32)) (.pair (.slice (.int .i64)) (.pair (.int .i64) .unit))) (.pair (.arr 32 (.int .u8)) .unit))] (a0, ())) [] (pureK [.bool]) = F_25 a0 := by kernel_rfl
noncomputable def Sp.p_25 (a0 : (((List Int) × ((List Int) × (Int × Unit))) × ((List Int) × Unit))) : Bool := (F_25 a0).isSome
noncomputable def Sp.v_25 (a0 : (((List Int) × ((List Int) × (Int × Unit))) × ((List Int) × Unit))) : Bool × Unit := (F_25 a0).getD (dfH [.bool])
noncomputable def s_25 : Summ := shN [(.pair (.pair (.slice (.int .u32)) (.pair (.slice (.int .i64)) (.pair (.int .i64) .unit))) (.pair (.arr 32 (.int .u8)) .unit))] [.bool] (fun x => p_25 x.1) (fun x => v_25 x.1)
theorem pv_25 (a0 : (((List Int) × ((List Int) × (Int × Unit))) × ((List Int) × Unit))) {y : Bool × Unit} (h : F_25 a0 = some y) : p_25 a0 = true ∧ v_25 a0 = y := ⟨by rw [p_25, h]; rfl, by rw [v_25, h]; rfl⟩
theorem run_25 (x : HDen [(.pair (.pair (.slice (.int .u32)) (.pair (.slice (.int .i64)) (.pair (.int .i64) .unit))) (.pair (.arr 32 (.int .u8)) .unit))]) (y : HDen [.bool]) (h : F_25 x.1 = some y) : evFn sm_25 fns FU 1 25 (ofH [(.pair (.pair (.slice (.int .u32)) (.pair (.slice (.int .i64)) (.pair (.int .i64) .unit))) (.pair (.arr 32 (.int .u8)) .unit))] x) [] (pureK [.bool]) = some y :=
 evFnL_sound (fn := ir25) (t := .nil) (o := noO) rfl noO_ok trivial ((fn_25 _).trans h)
end
noncomputable section
noncomputable def sm_48 : Nat → Option Summ := fun f => none
noncomputable def F_48 (a0 : (((List Int) × ((List Int) × (Int × Unit))) × ((List Int) × Unit))) (a1 : Int) : Option ((List Int) × Unit) :=
 gd (sl3 (wrap i64 (a1 * wrap i64 (Int.tdiv (↑(length (a0.1.1)) : Int) 2))) (wrap i64 (wrap i64 (a1 + 1) * wrap i64 (Int.tdiv (↑(length (a0.1.1)) : Int) 2))) (↑(length (a0.1.1)) : Int)) (some (take (toNat (wrap i64 (wrap i64 (a1 + 1) * wrap i64 (Int.tdiv (↑(length (a0.1.1)) : Int) 2))) - toNat (wrap i64 (a1 * wrap i64 (Int.tdiv (↑(length (a0.1.1)) : Int) 2)))) (drop (toNat (wrap i64 (a1 * wrap i64 (Int.tdiv (↑(length (a0.1.1)) : Int) 2)))) (a0.1.1)), PUnit.unit))
theorem fn_48 (a0 : (((List Int) × ((List Int) × (Int × Unit))) × ((List Int) × Unit))) (a1 : Int) : evFnL sm_48 FU (ovr noO (evFn sm_48 fns FU 0)) .nil ir48 (ofH [(.pair (.pair (.slice (.int .u32)) (.pair (.slice (.int .i64)) (.pair (.int .i64) .unit))) (.pair (.arr 32 (.int .u8)) .unit)), (.int .i64)] (a0, a1, ())) [] (pureK [(.slice (.int .u32))]) = F_48 a0 a1 := by kernel_rfl
noncomputable def Sp.p_48 (a0 : (((List Int) × ((List Int) × (Int × Unit))) × ((List Int) × Unit))) (a1 : Int) : Bool := (F_48 a0 a1).isSome
noncomputable def Sp.v_48 (a0 : (((List Int) × ((List Int) × (Int × Unit))) × ((List Int) × Unit))) (a1 : Int) : (List Int) × Unit := (F_48 a0 a1).getD (dfH [(.slice (.int .u32))])
noncomputable def s_48 : Summ := shS [(.pair (.pair (.slice (.int .u32)) (.pair (.slice (.int .i64)) (.pair (.int .i64) .unit))) (.pair (.arr 32 (.int .u8)) .unit)), (.int .i64)] [(.slice (.int .u32))] (fun x => p_48 x.1 x.2.1) (fun x => v_48 x.1 x.2.1)
theorem pv_48 (a0 : (((List Int) × ((List Int) × (Int × Unit))) × ((List Int) × Unit))) (a1 : Int) {y : (List Int) × Unit} (h : F_48 a0 a1 = some y) : p_48 a0 a1 = true ∧ v_48 a0 a1 = y := ⟨by rw [p_48, h]; rfl, by rw [v_48, h]; rfl⟩
theorem run_48 (x : HDen [(.pair (.pair (.slice (.int .u32)) (.pair (.slice (.int .i64)) (.pair (.int .i64) .unit))) (.pair (.arr 32 (.int .u8)) .unit)), (.int .i64)]) (y : HDen [(.slice (.int .u32))]) (h : F_48 x.1 x.2.1 = some y) : evFn sm_48 fns FU 1 48 (ofH [(.pair (.pair (.slice (.int .u32)) (.pair (.slice (.int .i64)) (.pair (.int .i64) .unit))) (.pair (.arr 32 (.int .u8)) .unit)), (.int .i64)] x) [] (pureK [(.slice (.int .u32))]) = some y :=
 evFnL_sound (fn := ir48) (t := .nil) (o := noO) rfl noO_ok trivial ((fn_48 _ _).trans h)
end
noncomputable section
noncomputable def sm_57 : Nat → Option Summ := fun f => none
noncomputable def F_57 (a0 : Int) : Option (Bool × Unit) :=
 bif a0 == 0 then some (true, PUnit.unit) else some (a0 == 1, PUnit.unit)
theorem fn_57 (a0 : Int) : evFnL sm_57 FU (ovr noO (evFn sm_57 fns FU 0)) .nil ir57 (ofH [(.int .i64)] (a0, ())) [] (pureK [.bool]) = F_57 a0 := by kernel_rfl
noncomputable def Sp.p_57 (a0 : Int) : Bool := (F_57 a0).isSome
noncomputable def Sp.v_57 (a0 : Int) : Bool × Unit := (F_57 a0).getD (dfH [.bool])
noncomputable def s_57 : Summ := shN [(.int .i64)] [.bool] (fun x => p_57 x.1) (fun x => v_57 x.1)
theorem pv_57 (a0 : Int) {y : Bool × Unit} (h : F_57 a0 = some y) : p_57 a0 = true ∧ v_57 a0 = y := ⟨by rw [p_57, h]; rfl, by rw [v_57, h]; rfl⟩
theorem run_57 (x : HDen [(.int .i64)]) (y : HDen [.bool]) (h : F_57 x.1 = some y) : evFn sm_57 fns FU 1 57 (ofH [(.int .i64)] x) [] (pureK [.bool]) = some y :=
 evFnL_sound (fn := ir57) (t := .nil) (o := noO) rfl noO_ok trivial ((fn_57 _).trans h)
end
noncomputable section
abbrev Zy58_0 : Ty := (Ty.arr (32 : Nat) (Ty.int u8))
noncomputable def sm_58 : Nat → Option Summ := fun f => none
noncomputable def T_58_1 (p0 : List Int) (p1 p2 : Int) (p3 p4 : List Int) : St := St.mk ([CV.pure (Ty.slice (Ty.int u32)) p0, jk, CV.ptr 0 [], CV.ptr 1 [], CV.int i64 p1, CV.int i64 p2] ++ (jl 23)) [Blk.mem (CV.pure Zy58_0 p3), Blk.mem (CV.pure Zy58_0 p4)] 0
noncomputable def X_58_1_0 (p0 : List Int) (p1 : Int) (p3 p4 : List Int) : St := St.mk ([CV.pure (Ty.slice (Ty.int u32)) p0, jk, CV.ptr 0 [], CV.ptr 1 [], CV.int i64 p1] ++ (jl 24)) [Blk.mem (CV.pure Zy58_0 p3), Blk.mem (CV.pure Zy58_0 p4)] 0
inductive Sp.E_58_1 where
 | e0 (p0 : List Int) (p1 : Int) (p3 p4 : List Int)
noncomputable def Sp.B_58_1 {R : Type} (r : Option E_58_1) (k0 : List Int → Int → List Int → List Int → Option R) : Option R := match r with
 | none => none
 | some (.e0 p0 p1 p3 p4) => k0 p0 p1 p3 p4
noncomputable def Sp.L_58_1 : Nat → List Int → Int → Int → List Int → List Int → Option E_58_1
 | 0, _, _, _, _, _ => none
 | m + 1, p0, p1, p2, p3, p4 => bif decide (p2 < 4) then gd (inB p1 (length p0)) (gd (decide (0 ≤ wrap i64 (24 - wrap i64 (8 * p2)))) (gd (inB (wrap i64 (wrap i64 (4 * p1) + p2)) 32) (gd (decide (toNat (wrap i64 (wrap i64 (4 * p1) + p2)) < 32) && true) (L_58_1 m p0 p1 (wrap i64 (p2 + 1)) p3 (List.set p4 (toNat (wrap i64 (wrap i64 (4 * p1) + p2))) (wrap u8 (Int.fdiv (getD p0 (toNat p1) 0) (2 ^ Nat.min (toNat (wrap i64 (24 - wrap i64 (8 * p2)))) 32)))))))) else some (E_58_1.e0 p0 p1 p3 p4)
noncomputable def G_58_1 {R : Type} (p0 : List Int) (p1 p2 : Int) (p3 p4 : List Int) (k : Ex → St → Option R) : Option R := B_58_1 (L_58_1 FU p0 p1 p2 p3 p4) (fun p0 p1 p3 p4 => k (Ex.exit 2) (X_58_1_0 p0 p1 p3 p4))
noncomputable def o_58_1 {R : Type} (G : List Int → Int → Int → List Int → List Int → (Ex → St → Option R) → Option R) : St → (Ex → St → Option R) → Option R := fun T k => match T.sl.getD 0 .junk, T.sl.getD 2 .junk, T.sl.getD 3 .junk, T.sl.getD 4 .junk, T.sl.getD 5 .junk, T.hp with
 | CV.pure (Ty.slice (Ty.int u32)) p0, CV.ptr 0 [], CV.ptr 1 [], CV.int i64 p1, CV.int i64 p2, ((Blk.mem (CV.pure (Ty.arr 32 (Ty.int u8)) p3)) :: (Blk.mem (CV.pure (Ty.arr 32 (Ty.int u8)) p4)) :: []) => gd (shapeOK T 29 [0, 2, 3, 4, 5] 0) (G p0 p1 p2 p3 p4 k)
 | _, _, _, _, _, _ => none
theorem o_58_1_inv {R : Type} {G : List Int → Int → Int → List Int → List Int → (Ex → St → Option R) → Option R} {T : St} {k : Ex → St → Option R} {r : R} (h : o_58_1 G T k = some r) : ∃ p0 p1 p2 p3 p4, T = T_58_1 p0 p1 p2 p3 p4 ∧ G p0 p1 p2 p3 p4 k = some r := by
 unfold o_58_1 at h
 split at h
 · obtain ⟨hs, h'⟩ := gd_some h
   refine ⟨_, _, _, _, _, (st_of (asg := [(0, _), (2, _), (3, _), (4, _), (5, _)]) hs ⟨by assumption, by assumption, by assumption, by assumption, by assumption, trivial⟩ (by assumption)).trans ?_, h'⟩
   kernel_rfl
 · cases h
noncomputable def T_58_0 (p0 : List Int) (p1 : Int) (p2 p3 : List Int) : St := St.mk ([CV.pure (Ty.slice (Ty.int u32)) p0, jk, CV.ptr 0 [], CV.ptr 1 [], CV.int i64 p1] ++ (jl 24)) [Blk.mem (CV.pure Zy58_0 p2), Blk.mem (CV.pure Zy58_0 p3)] 0
noncomputable def X_58_0_0 (p2 p3 : List Int) : St := St.mk ([jk, jk, CV.ptr 0 [], CV.ptr 1 []] ++ (jl 25)) [Blk.mem (CV.pure Zy58_0 p2), Blk.mem (CV.pure Zy58_0 p3)] 0
inductive Sp.E_58_0 where
 | e0 (p2 p3 : List Int)
noncomputable def Sp.B_58_0 {R : Type} (r : Option E_58_0) (k0 : List Int → List Int → Option R) : Option R := match r with
 | none => none
 | some (.e0 p2 p3) => k0 p2 p3
noncomputable def Sp.L_58_0 : Nat → List Int → Int → List Int → List Int → Option E_58_0
 | 0, _, _, _, _ => none
 | m + 1, p0, p1, p2, p3 => bif decide (p1 < 8) then B_58_1 (L_58_1 4611686018427387904 p0 p1 0 p2 p3) fun y4 y5 y6 y7 => L_58_0 m y4 (wrap i64 (y5 + 1)) y6 y7 else some (E_58_0.e0 p2 p3)
noncomputable def G_58_0 {R : Type} (p0 : List Int) (p1 : Int) (p2 p3 : List Int) (k : Ex → St → Option R) : Option R := B_58_0 (L_58_0 FU p0 p1 p2 p3) (fun p2 p3 => k (Ex.exit 0) (X_58_0_0 p2 p3))
noncomputable def o_58_0 {R : Type} (G : List Int → Int → List Int → List Int → (Ex → St → Option R) → Option R) : St → (Ex → St → Option R) → Option R := fun T k => match T.sl.getD 0 .junk, T.sl.getD 2 .junk, T.sl.getD 3 .junk, T.sl.getD 4 .junk, T.hp with
 | CV.pure (Ty.slice (Ty.int u32)) p0, CV.ptr 0 [], CV.ptr 1 [], CV.int i64 p1, ((Blk.mem (CV.pure (Ty.arr 32 (Ty.int u8)) p2)) :: (Blk.mem (CV.pure (Ty.arr 32 (Ty.int u8)) p3)) :: []) => gd (shapeOK T 29 [0, 2, 3, 4] 0) (G p0 p1 p2 p3 k)
 | _, _, _, _, _ => none
theorem o_58_0_inv {R : Type} {G : List Int → Int → List Int → List Int → (Ex → St → Option R) → Option R} {T : St} {k : Ex → St → Option R} {r : R} (h : o_58_0 G T k = some r) : ∃ p0 p1 p2 p3, T = T_58_0 p0 p1 p2 p3 ∧ G p0 p1 p2 p3 k = some r := by
 unfold o_58_0 at h
 split at h
 · obtain ⟨hs, h'⟩ := gd_some h
   refine ⟨_, _, _, _, (st_of (asg := [(0, _), (2, _), (3, _), (4, _)]) hs ⟨by assumption, by assumption, by assumption, by assumption, trivial⟩ (by assumption)).trans ?_, h'⟩
   kernel_rfl
 · cases h
noncomputable def O_58_58_1 {R : Type} : St → (Ex → St → Option R) → Option R := fun T k => o_58_1 G_58_1 T k
noncomputable def O_58_58_0 {R : Type} : St → (Ex → St → Option R) → Option R := fun T k => o_58_0 G_58_0 T k
theorem body_58_1 {R : Type} (K0 : St → Option R) (K1 : Ex → St → Option R) (p0 : List Int) (p1 p2 : Int) (p3 p4 : List Int) : evLB (evCodeL sm_58 FU (ovr noO (evFn sm_58 fns FU 0)) .nil ir58_b1) (St.norm ir58_v1) (T_58_1 p0 p1 p2 p3 p4) K0 K1 =
 bif decide (p2 < 4) then gd (inB p1 (length p0)) (gd (decide (0 ≤ wrap i64 (24 - wrap i64 (8 * p2)))) (gd (inB (wrap i64 (wrap i64 (4 * p1) + p2)) 32) (gd (decide (toNat (wrap i64 (wrap i64 (4 * p1) + p2)) < 32) && true) (K0 (T_58_1 p0 p1 (wrap i64 (p2 + 1)) p3 (List.set p4 (toNat (wrap i64 (wrap i64 (4 * p1) + p2))) (wrap u8 (Int.fdiv (getD p0 (toNat p1) 0) (2 ^ Nat.min (toNat (wrap i64 (24 - wrap i64 (8 * p2)))) 32))))))))) else K1 (Ex.exit 2) (X_58_1_0 p0 p1 p3 p4) := by kernel_rfl
theorem Bgd_58_1 {R : Type} {c : Bool} {x : Option R} {y : Option E_58_1} {k0 : List Int → Int → List Int → List Int → Option R} (h : x = B_58_1 y k0) : gd c x = B_58_1 (gd c y) k0 := by cases c; rfl; exact h
theorem Bcond_58_1 {R : Type} {c : Bool} {x x' : Option R} {y y' : Option E_58_1} {k0 : List Int → Int → List Int → List Int → Option R} (h : x = B_58_1 y k0) (h' : x' = B_58_1 y' k0) : (bif c then x else x') = B_58_1 (bif c then y else y') k0 := by cases c; exact h'; exact h
theorem loop_58_1 {R : Type} (k : Ex → St → Option R) : ∀ (m : Nat) (p0 : List Int) (p1 : Int) (p2 : Int) (p3 : List Int) (p4 : List Int), evLoopN (evCodeL sm_58 FU (ovr noO (evFn sm_58 fns FU 0)) .nil ir58_b1) (St.norm ir58_v1) m (T_58_1 p0 p1 p2 p3 p4) k = B_58_1 (L_58_1 m p0 p1 p2 p3 p4) (fun p0 p1 p3 p4 => k (Ex.exit (2 : Nat)) (X_58_1_0 p0 p1 p3 p4))
 | 0, _, _, _, _, _ => rfl
 | m + 1, p0, p1, p2, p3, p4 => by
   rw [evLoopN_succ, body_58_1, L_58_1]
   repeat' first | apply Bgd_58_1 | apply Bcond_58_1 | exact loop_58_1 k m _ _ _ _ _ | rfl
theorem ok_58_1 {R : Type} (T : St) (k : Ex → St → Option R) (r : R) (h0 : o_58_1 G_58_1 T k = some r) : evLoopN (evCode sm_58 FU (evFn sm_58 fns FU 0) ir58_b1) (St.norm ir58_v1) FU T k = some r := by
 obtain ⟨p0, p1, p2, p3, p4, rfl, h⟩ := o_58_1_inv h0
 refine evLoopN_L (t := .nil) noO_ok trivial _ _ _ _ ?_
 rw [loop_58_1]
 exact h
theorem OK_58_58_1 {R : Type} (T : St) (k : Ex → St → Option R) (r : R) (h : O_58_58_1 T k = some r) : evLoopN (evCode sm_58 FU (evFn sm_58 fns FU 0) ir58_b1) (St.norm ir58_v1) FU T k = some r := ok_58_1 T k r h
theorem body_58_0 {R : Type} (K0 : St → Option R) (K1 : Ex → St → Option R) (p0 : List Int) (p1 : Int) (p2 p3 : List Int) : evLB (evCodeL sm_58 FU (ovr noO (evFn sm_58 fns FU 0)) (ir58_bt0 O_58_58_1) ir58_b0) (St.norm ir58_v0) (T_58_0 p0 p1 p2 p3) K0 K1 =
 bif decide (p1 < 8) then B_58_1 (L_58_1 4611686018427387904 p0 p1 0 p2 p3) fun y4 y5 y6 y7 => K0 (T_58_0 y4 (wrap i64 (y5 + 1)) y6 y7) else K1 (Ex.exit 0) (X_58_0_0 p2 p3) := by kernel_rfl
theorem Bgd_58_0 {R : Type} {c : Bool} {x : Option R} {y : Option E_58_0} {k0 : List Int → List Int → Option R} (h : x = B_58_0 y k0) : gd c x = B_58_0 (gd c y) k0 := by cases c; rfl; exact h
theorem Bcond_58_0 {R : Type} {c : Bool} {x x' : Option R} {y y' : Option E_58_0} {k0 : List Int → List Int → Option R} (h : x = B_58_0 y k0) (h' : x' = B_58_0 y' k0) : (bif c then x else x') = B_58_0 (bif c then y else y') k0 := by cases c; exact h'; exact h
theorem Bin_58_0_58_1 {R : Type} {r : Option E_58_1} {k0 : List Int → List Int → Option R} {f0 : List Int → Int → List Int → List Int → Option R} {g0 : List Int → Int → List Int → List Int → Option E_58_0} (h0 : ∀ z0 z1 z2 z3, f0 z0 z1 z2 z3 = B_58_0 (g0 z0 z1 z2 z3) k0) : B_58_1 r f0 = B_58_0 (B_58_1 r g0) k0 := by
 cases r with
 | none => rfl
 | some e => cases e with
   | e0 z0 z1 z2 z3 => exact h0 _ _ _ _
theorem loop_58_0 {R : Type} (k : Ex → St → Option R) : ∀ (m : Nat) (p0 : List Int) (p1 : Int) (p2 : List Int) (p3 : List Int), evLoopN (evCodeL sm_58 FU (ovr noO (evFn sm_58 fns FU 0)) (ir58_bt0 O_58_58_1) ir58_b0) (St.norm ir58_v0) m (T_58_0 p0 p1 p2 p3) k = B_58_0 (L_58_0 m p0 p1 p2 p3) (fun p2 p3 => k (Ex.exit (0 : Nat)) (X_58_0_0 p2 p3))
 | 0, _, _, _, _ => rfl
 | m + 1, p0, p1, p2, p3 => by
   rw [evLoopN_succ, body_58_0, L_58_0]
   repeat' first | apply Bgd_58_0 | apply Bcond_58_0 | (apply Bin_58_0_58_1 <;> intros) | exact loop_58_0 k m _ _ _ _ | rfl
theorem ok_58_0 {R : Type} (T : St) (k : Ex → St → Option R) (r : R) (h0 : o_58_0 G_58_0 T k = some r) : evLoopN (evCode sm_58 FU (evFn sm_58 fns FU 0) ir58_b0) (St.norm ir58_v0) FU T k = some r := by
 obtain ⟨p0, p1, p2, p3, rfl, h⟩ := o_58_0_inv h0
 refine evLoopN_L (t := (ir58_bt0 O_58_58_1)) noO_ok (ir58_bt0ok (fun T k r => OK_58_58_1 T k r)) _ _ _ _ ?_
 rw [loop_58_0]
 exact h
theorem OK_58_58_0 {R : Type} (T : St) (k : Ex → St → Option R) (r : R) (h : O_58_58_0 T k = some r) : evLoopN (evCode sm_58 FU (evFn sm_58 fns FU 0) ir58_b0) (St.norm ir58_v0) FU T k = some r := ok_58_0 T k r h
noncomputable def F_58 (a0 : (List Int)) : Option ((List Int) × Unit) :=
 B_58_0 (L_58_0 4611686018427387904 a0 0 (replicate 32 (0 :Int)) (replicate 32 (0 :Int))) fun y2 y3 => some (y3, PUnit.unit)
theorem fn_58 (a0 : (List Int)) : evFnL sm_58 FU (ovr noO (evFn sm_58 fns FU 0)) (ir58_t O_58_58_0) ir58 (ofH [(.slice (.int .u32))] (a0, ())) [] (pureK [(.arr 32 (.int .u8))]) = F_58 a0 := by kernel_rfl
noncomputable def Sp.p_58 (a0 : (List Int)) : Bool := (F_58 a0).isSome
noncomputable def Sp.v_58 (a0 : (List Int)) : (List Int) × Unit := (F_58 a0).getD (dfH [(.arr 32 (.int .u8))])
noncomputable def s_58 : Summ := shN [(.slice (.int .u32))] [(.arr 32 (.int .u8))] (fun x => p_58 x.1) (fun x => v_58 x.1)
theorem pv_58 (a0 : (List Int)) {y : (List Int) × Unit} (h : F_58 a0 = some y) : p_58 a0 = true ∧ v_58 a0 = y := ⟨by rw [p_58, h]; rfl, by rw [v_58, h]; rfl⟩
theorem run_58 (x : HDen [(.slice (.int .u32))]) (y : HDen [(.arr 32 (.int .u8))]) (h : F_58 x.1 = some y) : evFn sm_58 fns FU 1 58 (ofH [(.slice (.int .u32))] x) [] (pureK [(.arr 32 (.int .u8))]) = some y :=
 evFnL_sound (fn := ir58) (t := (ir58_t O_58_58_0)) (o := noO) rfl noO_ok (ir58_tok (fun T k r => OK_58_58_0 T k r)) ((fn_58 _).trans h)
end
noncomputable section
abbrev Zt59_0 : Type := List (List Int)
abbrev Zy59_1 : Ty := (Ty.arr (32 : Nat) (Ty.int u8))
abbrev Zy59_2 : Ty := (.pair (.int .i64) (.pair (.slice (.arr 32 (.int .u8))) (.pair (.slice (.arr 32 (.int .u8))) .unit)))
noncomputable def sm_59 : Nat → Option Summ := fun f => none
noncomputable def T_59_1 (p0 : List Int) (p1 p2 p3 : Int) (p4 p5 : Zt59_0) (p6 : Int) (p7 p8 : Zt59_0) (p9 : List Int) : St := St.mk ([CV.pure (Ty.slice (Ty.int u32)) p0, jk, CV.ptr 0 [], jk, CV.ptr 3 [], CV.int i64 p1, CV.ptr 6 [], CV.int i64 p2] ++ (jl 56)) [Blk.mem (CV.pair (CV.int i64 p3) (CV.pair (CV.whole 1) (CV.pair (CV.whole 2) (CV.pure Ty.unit PUnit.unit)))), Blk.vec 27 Zy59_1 p4, Blk.vec 27 Zy59_1 p5, Blk.mem (CV.pair (CV.int i64 p6) (CV.pair (CV.whole 4) (CV.pair (CV.whole 5) (CV.pure Ty.unit PUnit.unit)))), Blk.vec 27 Zy59_1 p7, Blk.vec 27 Zy59_1 p8, Blk.mem (CV.pure Zy59_1 p9)] 0
noncomputable def X_59_1_0 (p0 : List Int) (p1 p3 : Int) (p4 p5 : Zt59_0) (p6 : Int) (p7 p8 : Zt59_0) (p9 : List Int) : St := St.mk ([CV.pure (Ty.slice (Ty.int u32)) p0, jk, CV.ptr 0 [], jk, CV.ptr 3 [], CV.int i64 p1, CV.ptr 6 []] ++ (jl 57)) [Blk.mem (CV.pair (CV.int i64 p3) (CV.pair (CV.whole 1) (CV.pair (CV.whole 2) (CV.pure Ty.unit PUnit.unit)))), Blk.vec 27 Zy59_1 p4, Blk.vec 27 Zy59_1 p5, Blk.mem (CV.pair (CV.int i64 p6) (CV.pair (CV.whole 4) (CV.pair (CV.whole 5) (CV.pure Ty.unit PUnit.unit)))), Blk.vec 27 Zy59_1 p7, Blk.vec 27 Zy59_1 p8, Blk.mem (CV.pure Zy59_1 p9)] 0
inductive Sp.E_59_1 where
 | e0 (p0 : List Int) (p1 p3 : Int) (p4 p5 : Zt59_0) (p6 : Int) (p7 p8 : Zt59_0) (p9 : List Int)
noncomputable def Sp.B_59_1 {R : Type} (r : Option E_59_1) (k0 : List Int → Int → Int → Zt59_0 → Zt59_0 → Int → Zt59_0 → Zt59_0 → List Int → Option R) : Option R := match r with
 | none => none
 | some (.e0 p0 p1 p3 p4 p5 p6 p7 p8 p9) => k0 p0 p1 p3 p4 p5 p6 p7 p8 p9
noncomputable def Sp.L_59_1 : Nat → List Int → Int → Int → Int → List (List Int) → List (List Int) → Int → List (List Int) → List (List Int) → List Int → Option E_59_1
 | 0, _, _, _, _, _, _, _, _, _, _ => none
 | m + 1, p0, p1, p2, p3, p4, p5, p6, p7, p8, p9 => bif decide (p2 < 32) then gd (inB (wrap i64 (wrap i64 (1 + wrap i64 (8 * p1)) + wrap i64 (Int.tdiv p2 4))) (length p0)) (gd (decide (0 ≤ wrap u64 (wrap i64 (24 - wrap i64 (Int.tmod p2 (4 :Int) * (8 :Int)))))) (gd (inB p2 32) (gd (decide (toNat p2 < 32) && true) (L_59_1 m p0 p1 (wrap i64 (p2 + 1)) p3 p4 p5 p6 p7 p8 (List.set p9 (toNat p2) (wrap u8 (Int.fdiv (getD p0 (toNat (wrap i64 (wrap i64 (1 + wrap i64 (8 * p1)) + wrap i64 (Int.tdiv p2 4)))) 0) (2 ^ Nat.min (toNat (wrap u64 (wrap i64 (24 - wrap i64 (Int.tmod p2 (4 :Int) * (8 :Int)))))) 32)))))))) else some (E_59_1.e0 p0 p1 p3 p4 p5 p6 p7 p8 p9)
noncomputable def G_59_1 {R : Type} (p0 : List Int) (p1 p2 p3 : Int) (p4 p5 : Zt59_0) (p6 : Int) (p7 p8 : Zt59_0) (p9 : List Int) (k : Ex → St → Option R) : Option R := B_59_1 (L_59_1 FU p0 p1 p2 p3 p4 p5 p6 p7 p8 p9) (fun p0 p1 p3 p4 p5 p6 p7 p8 p9 => k (Ex.exit 2) (X_59_1_0 p0 p1 p3 p4 p5 p6 p7 p8 p9))
noncomputable def o_59_1 {R : Type} (G : List Int → Int → Int → Int → Zt59_0 → Zt59_0 → Int → Zt59_0 → Zt59_0 → List Int → (Ex → St → Option R) → Option R) : St → (Ex → St → Option R) → Option R := fun T k => match T.sl.getD 0 .junk, T.sl.getD 2 .junk, T.sl.getD 4 .junk, T.sl.getD 5 .junk, T.sl.getD 6 .junk, T.sl.getD 7 .junk, T.hp with
 | CV.pure (Ty.slice (Ty.int u32)) p0, CV.ptr 0 [], CV.ptr 3 [], CV.int i64 p1, CV.ptr 6 [], CV.int i64 p2, ((Blk.mem (CV.pair (CV.int i64 p3) (CV.pair (CV.whole 1) (CV.pair (CV.whole 2) (CV.pure Ty.unit PUnit.unit))))) :: (Blk.vec 27 (Ty.arr 32 (Ty.int u8)) p4) :: (Blk.vec 27 (Ty.arr 32 (Ty.int u8)) p5) :: (Blk.mem (CV.pair (CV.int i64 p6) (CV.pair (CV.whole 4) (CV.pair (CV.whole 5) (CV.pure Ty.unit PUnit.unit))))) :: (Blk.vec 27 (Ty.arr 32 (Ty.int u8)) p7) :: (Blk.vec 27 (Ty.arr 32 (Ty.int u8)) p8) :: (Blk.mem (CV.pure (Ty.arr 32 (Ty.int u8)) p9)) :: []) => gd (shapeOK T 64 [0, 2, 4, 5, 6, 7] 0) (G p0 p1 p2 p3 p4 p5 p6 p7 p8 p9 k)
 | _, _, _, _, _, _, _ => none
theorem o_59_1_inv {R : Type} {G : List Int → Int → Int → Int → Zt59_0 → Zt59_0 → Int → Zt59_0 → Zt59_0 → List Int → (Ex → St → Option R) → Option R} {T : St} {k : Ex → St → Option R} {r : R} (h : o_59_1 G T k = some r) : ∃ p0 p1 p2 p3 p4 p5 p6 p7 p8 p9, T = T_59_1 p0 p1 p2 p3 p4 p5 p6 p7 p8 p9 ∧ G p0 p1 p2 p3 p4 p5 p6 p7 p8 p9 k = some r := by
 unfold o_59_1 at h
 split at h
 · obtain ⟨hs, h'⟩ := gd_some h
   refine ⟨_, _, _, _, _, _, _, _, _, _, (st_of (asg := [(0, _), (2, _), (4, _), (5, _), (6, _), (7, _)]) hs ⟨by assumption, by assumption, by assumption, by assumption, by assumption, by assumption, trivial⟩ (by assumption)).trans ?_, h'⟩
   kernel_rfl
 · cases h
noncomputable def T_59_0 (p0 : List Int) (p1 p2 : Int) (p3 p4 : Zt59_0) (p5 : Int) (p6 p7 : Zt59_0) : St := St.mk ([CV.pure (Ty.slice (Ty.int u32)) p0, jk, CV.ptr 0 [], jk, CV.ptr 3 [], CV.int i64 p1] ++ (jl 58)) [Blk.mem (CV.pair (CV.int i64 p2) (CV.pair (CV.whole 1) (CV.pair (CV.whole 2) (CV.pure Ty.unit PUnit.unit)))), Blk.vec 27 Zy59_1 p3, Blk.vec 27 Zy59_1 p4, Blk.mem (CV.pair (CV.int i64 p5) (CV.pair (CV.whole 4) (CV.pair (CV.whole 5) (CV.pure Ty.unit PUnit.unit)))), Blk.vec 27 Zy59_1 p6, Blk.vec 27 Zy59_1 p7] 0
noncomputable def X_59_0_0 (p2 : Int) (p3 p4 : Zt59_0) (p5 : Int) (p6 p7 : Zt59_0) : St := St.mk ([jk, jk, CV.ptr 0 [], jk, CV.ptr 3 []] ++ (jl 59)) [Blk.mem (CV.pair (CV.int i64 p2) (CV.pair (CV.whole 1) (CV.pair (CV.whole 2) (CV.pure Ty.unit PUnit.unit)))), Blk.vec 27 Zy59_1 p3, Blk.vec 27 Zy59_1 p4, Blk.mem (CV.pair (CV.int i64 p5) (CV.pair (CV.whole 4) (CV.pair (CV.whole 5) (CV.pure Ty.unit PUnit.unit)))), Blk.vec 27 Zy59_1 p6, Blk.vec 27 Zy59_1 p7] 0
inductive Sp.E_59_0 where
 | e0 (p2 : Int) (p3 p4 : Zt59_0) (p5 : Int) (p6 p7 : Zt59_0)
noncomputable def Sp.B_59_0 {R : Type} (r : Option E_59_0) (k0 : Int → Zt59_0 → Zt59_0 → Int → Zt59_0 → Zt59_0 → Option R) : Option R := match r with
 | none => none
 | some (.e0 p2 p3 p4 p5 p6 p7) => k0 p2 p3 p4 p5 p6 p7
noncomputable def Sp.L_59_0 : Nat → List Int → Int → Int → List (List Int) → List (List Int) → Int → List (List Int) → List (List Int) → Option E_59_0
 | 0, _, _, _, _, _, _, _, _ => none
 | m + 1, p0, p1, p2, p3, p4, p5, p6, p7 => bif decide (p1 < 69) then B_59_1 (L_59_1 4611686018427387904 p0 p1 0 p2 p3 p4 p5 p6 p7 (replicate 32 (0 :Int))) fun y9 y10 y11 y12 y13 y14 y15 y16 y17 => bif decide (y10 < 67) then gd (room (length y15 + 1) 32) (L_59_0 m y9 (wrap i64 (y10 + 1)) y11 y12 y13 y14 (y15 ++ [y17]) y16) else gd (room (length y16 + 1) 32) (L_59_0 m y9 (wrap i64 (y10 + 1)) y11 y12 y13 y14 y15 (y16 ++ [y17])) else some (E_59_0.e0 p2 p3 p4 p5 p6 p7)
noncomputable def G_59_0 {R : Type} (p0 : List Int) (p1 p2 : Int) (p3 p4 : Zt59_0) (p5 : Int) (p6 p7 : Zt59_0) (k : Ex → St → Option R) : Option R := B_59_0 (L_59_0 FU p0 p1 p2 p3 p4 p5 p6 p7) (fun p2 p3 p4 p5 p6 p7 => k (Ex.exit 0) (X_59_0_0 p2 p3 p4 p5 p6 p7))
noncomputable def o_59_0 {R : Type} (G : List Int → Int → Int → Zt59_0 → Zt59_0 → Int → Zt59_0 → Zt59_0 → (Ex → St → Option R) → Option R) : St → (Ex → St → Option R) → Option R := fun T k => match T.sl.getD 0 .junk, T.sl.getD 2 .junk, T.sl.getD 4 .junk, T.sl.getD 5 .junk, T.hp with
 | CV.pure (Ty.slice (Ty.int u32)) p0, CV.ptr 0 [], CV.ptr 3 [], CV.int i64 p1, ((Blk.mem (CV.pair (CV.int i64 p2) (CV.pair (CV.whole 1) (CV.pair (CV.whole 2) (CV.pure Ty.unit PUnit.unit))))) :: (Blk.vec 27 (Ty.arr 32 (Ty.int u8)) p3) :: (Blk.vec 27 (Ty.arr 32 (Ty.int u8)) p4) :: (Blk.mem (CV.pair (CV.int i64 p5) (CV.pair (CV.whole 4) (CV.pair (CV.whole 5) (CV.pure Ty.unit PUnit.unit))))) :: (Blk.vec 27 (Ty.arr 32 (Ty.int u8)) p6) :: (Blk.vec 27 (Ty.arr 32 (Ty.int u8)) p7) :: []) => gd (shapeOK T 64 [0, 2, 4, 5] 0) (G p0 p1 p2 p3 p4 p5 p6 p7 k)
 | _, _, _, _, _ => none
theorem o_59_0_inv {R : Type} {G : List Int → Int → Int → Zt59_0 → Zt59_0 → Int → Zt59_0 → Zt59_0 → (Ex → St → Option R) → Option R} {T : St} {k : Ex → St → Option R} {r : R} (h : o_59_0 G T k = some r) : ∃ p0 p1 p2 p3 p4 p5 p6 p7, T = T_59_0 p0 p1 p2 p3 p4 p5 p6 p7 ∧ G p0 p1 p2 p3 p4 p5 p6 p7 k = some r := by
 unfold o_59_0 at h
 split at h
 · obtain ⟨hs, h'⟩ := gd_some h
   refine ⟨_, _, _, _, _, _, _, _, (st_of (asg := [(0, _), (2, _), (4, _), (5, _)]) hs ⟨by assumption, by assumption, by assumption, by assumption, trivial⟩ (by assumption)).trans ?_, h'⟩
   kernel_rfl
 · cases h
noncomputable def O_59_59_1 {R : Type} : St → (Ex → St → Option R) → Option R := fun T k => o_59_1 G_59_1 T k
noncomputable def O_59_59_0 {R : Type} : St → (Ex → St → Option R) → Option R := fun T k => o_59_0 G_59_0 T k
theorem body_59_1 {R : Type} (K0 : St → Option R) (K1 : Ex → St → Option R) (p0 : List Int) (p1 p2 p3 : Int) (p4 p5 : Zt59_0) (p6 : Int) (p7 p8 : Zt59_0) (p9 : List Int) : evLB (evCodeL sm_59 FU (ovr noO (evFn sm_59 fns FU 0)) .nil ir59_b1) (St.norm ir59_v1) (T_59_1 p0 p1 p2 p3 p4 p5 p6 p7 p8 p9) K0 K1 =
 bif decide (p2 < 32) then gd (inB (wrap i64 (wrap i64 (1 + wrap i64 (8 * p1)) + wrap i64 (Int.tdiv p2 4))) (length p0)) (gd (decide (0 ≤ wrap u64 (wrap i64 (24 - wrap i64 (Int.tmod p2 (4 :Int) * (8 :Int)))))) (gd (inB p2 32) (gd (decide (toNat p2 < 32) && true) (K0 (T_59_1 p0 p1 (wrap i64 (p2 + 1)) p3 p4 p5 p6 p7 p8 (List.set p9 (toNat p2) (wrap u8 (Int.fdiv (getD p0 (toNat (wrap i64 (wrap i64 (1 + wrap i64 (8 * p1)) + wrap i64 (Int.tdiv p2 4)))) 0) (2 ^ Nat.min (toNat (wrap u64 (wrap i64 (24 - wrap i64 (Int.tmod p2 (4 :Int) * (8 :Int)))))) 32))))))))) else K1 (Ex.exit 2) (X_59_1_0 p0 p1 p3 p4 p5 p6 p7 p8 p9) := by kernel_rfl
theorem Bgd_59_1 {R : Type} {c : Bool} {x : Option R} {y : Option E_59_1} {k0 : List Int → Int → Int → Zt59_0 → Zt59_0 → Int → Zt59_0 → Zt59_0 → List Int → Option R} (h : x = B_59_1 y k0) : gd c x = B_59_1 (gd c y) k0 := by cases c; rfl; exact h
theorem Bcond_59_1 {R : Type} {c : Bool} {x x' : Option R} {y y' : Option E_59_1} {k0 : List Int → Int → Int → Zt59_0 → Zt59_0 → Int → Zt59_0 → Zt59_0 → List Int → Option R} (h : x = B_59_1 y k0) (h' : x' = B_59_1 y' k0) : (bif c then x else x') = B_59_1 (bif c then y else y') k0 := by cases c; exact h'; exact h
theorem loop_59_1 {R : Type} (k : Ex → St → Option R) : ∀ (m : Nat) (p0 : List Int) (p1 : Int) (p2 : Int) (p3 : Int) (p4 : Zt59_0) (p5 : Zt59_0) (p6 : Int) (p7 : Zt59_0) (p8 : Zt59_0) (p9 : List Int), evLoopN (evCodeL sm_59 FU (ovr noO (evFn sm_59 fns FU 0)) .nil ir59_b1) (St.norm ir59_v1) m (T_59_1 p0 p1 p2 p3 p4 p5 p6 p7 p8 p9) k = B_59_1 (L_59_1 m p0 p1 p2 p3 p4 p5 p6 p7 p8 p9) (fun p0 p1 p3 p4 p5 p6 p7 p8 p9 => k (Ex.exit (2 : Nat)) (X_59_1_0 p0 p1 p3 p4 p5 p6 p7 p8 p9))
 | 0, _, _, _, _, _, _, _, _, _, _ => rfl
 | m + 1, p0, p1, p2, p3, p4, p5, p6, p7, p8, p9 => by
   rw [evLoopN_succ, body_59_1, L_59_1]
   repeat' first | apply Bgd_59_1 | apply Bcond_59_1 | exact loop_59_1 k m _ _ _ _ _ _ _ _ _ _ | rfl
theorem ok_59_1 {R : Type} (T : St) (k : Ex → St → Option R) (r : R) (h0 : o_59_1 G_59_1 T k = some r) : evLoopN (evCode sm_59 FU (evFn sm_59 fns FU 0) ir59_b1) (St.norm ir59_v1) FU T k = some r := by
 obtain ⟨p0, p1, p2, p3, p4, p5, p6, p7, p8, p9, rfl, h⟩ := o_59_1_inv h0
 refine evLoopN_L (t := .nil) noO_ok trivial _ _ _ _ ?_
 rw [loop_59_1]
 exact h
theorem OK_59_59_1 {R : Type} (T : St) (k : Ex → St → Option R) (r : R) (h : O_59_59_1 T k = some r) : evLoopN (evCode sm_59 FU (evFn sm_59 fns FU 0) ir59_b1) (St.norm ir59_v1) FU T k = some r := ok_59_1 T k r h
theorem body_59_0 {R : Type} (K0 : St → Option R) (K1 : Ex → St → Option R) (p0 : List Int) (p1 p2 : Int) (p3 p4 : Zt59_0) (p5 : Int) (p6 p7 : Zt59_0) : evLB (evCodeL sm_59 FU (ovr noO (evFn sm_59 fns FU 0)) (ir59_bt0 O_59_59_1) ir59_b0) (St.norm ir59_v0) (T_59_0 p0 p1 p2 p3 p4 p5 p6 p7) K0 K1 =
 bif decide (p1 < 69) then B_59_1 (L_59_1 4611686018427387904 p0 p1 0 p2 p3 p4 p5 p6 p7 (replicate 32 (0 :Int))) fun y9 y10 y11 y12 y13 y14 y15 y16 y17 => bif decide (y10 < 67) then gd (room (length y15 + 1) 32) (K0 (T_59_0 y9 (wrap i64 (y10 + 1)) y11 y12 y13 y14 (y15 ++ [y17]) y16)) else gd (room (length y16 + 1) 32) (K0 (T_59_0 y9 (wrap i64 (y10 + 1)) y11 y12 y13 y14 y15 (y16 ++ [y17]))) else K1 (Ex.exit 0) (X_59_0_0 p2 p3 p4 p5 p6 p7) := by kernel_rfl
theorem Bgd_59_0 {R : Type} {c : Bool} {x : Option R} {y : Option E_59_0} {k0 : Int → Zt59_0 → Zt59_0 → Int → Zt59_0 → Zt59_0 → Option R} (h : x = B_59_0 y k0) : gd c x = B_59_0 (gd c y) k0 := by cases c; rfl; exact h
theorem Bcond_59_0 {R : Type} {c : Bool} {x x' : Option R} {y y' : Option E_59_0} {k0 : Int → Zt59_0 → Zt59_0 → Int → Zt59_0 → Zt59_0 → Option R} (h : x = B_59_0 y k0) (h' : x' = B_59_0 y' k0) : (bif c then x else x') = B_59_0 (bif c then y else y') k0 := by cases c; exact h'; exact h
theorem Bin_59_0_59_1 {R : Type} {r : Option E_59_1} {k0 : Int → Zt59_0 → Zt59_0 → Int → Zt59_0 → Zt59_0 → Option R} {f0 : List Int → Int → Int → Zt59_0 → Zt59_0 → Int → Zt59_0 → Zt59_0 → List Int → Option R} {g0 : List Int → Int → Int → Zt59_0 → Zt59_0 → Int → Zt59_0 → Zt59_0 → List Int → Option E_59_0} (h0 : ∀ z0 z1 z2 z3 z4 z5 z6 z7 z8, f0 z0 z1 z2 z3 z4 z5 z6 z7 z8 = B_59_0 (g0 z0 z1 z2 z3 z4 z5 z6 z7 z8) k0) : B_59_1 r f0 = B_59_0 (B_59_1 r g0) k0 := by
 cases r with
 | none => rfl
 | some e => cases e with
   | e0 z0 z1 z2 z3 z4 z5 z6 z7 z8 => exact h0 _ _ _ _ _ _ _ _ _
theorem loop_59_0 {R : Type} (k : Ex → St → Option R) : ∀ (m : Nat) (p0 : List Int) (p1 : Int) (p2 : Int) (p3 : Zt59_0) (p4 : Zt59_0) (p5 : Int) (p6 : Zt59_0) (p7 : Zt59_0), evLoopN (evCodeL sm_59 FU (ovr noO (evFn sm_59 fns FU 0)) (ir59_bt0 O_59_59_1) ir59_b0) (St.norm ir59_v0) m (T_59_0 p0 p1 p2 p3 p4 p5 p6 p7) k = B_59_0 (L_59_0 m p0 p1 p2 p3 p4 p5 p6 p7) (fun p2 p3 p4 p5 p6 p7 => k (Ex.exit (0 : Nat)) (X_59_0_0 p2 p3 p4 p5 p6 p7))
 | 0, _, _, _, _, _, _, _, _ => rfl
 | m + 1, p0, p1, p2, p3, p4, p5, p6, p7 => by
   rw [evLoopN_succ, body_59_0, L_59_0]
   repeat' first | apply Bgd_59_0 | apply Bcond_59_0 | (apply Bin_59_0_59_1 <;> intros) | exact loop_59_0 k m _ _ _ _ _ _ _ _ | rfl
theorem ok_59_0 {R : Type} (T : St) (k : Ex → St → Option R) (r : R) (h0 : o_59_0 G_59_0 T k = some r) : evLoopN (evCode sm_59 FU (evFn sm_59 fns FU 0) ir59_b0) (St.norm ir59_v0) FU T k = some r := by
 obtain ⟨p0, p1, p2, p3, p4, p5, p6, p7, rfl, h⟩ := o_59_0_inv h0
 refine evLoopN_L (t := (ir59_bt0 O_59_59_1)) noO_ok (ir59_bt0ok (fun T k r => OK_59_59_1 T k r)) _ _ _ _ ?_
 rw [loop_59_0]
 exact h
theorem OK_59_59_0 {R : Type} (T : St) (k : Ex → St → Option R) (r : R) (h : O_59_59_0 T k = some r) : evLoopN (evCode sm_59 FU (evFn sm_59 fns FU 0) ir59_b0) (St.norm ir59_v0) FU T k = some r := ok_59_0 T k r h
noncomputable def F_59 (a0 : (List Int)) : Option ((Int × ((List (List Int)) × ((List (List Int)) × Unit))) × Bool × Unit) :=
 bif (↑(length a0) : Int) != 553 then some ((0, [], [], PUnit.unit), false, PUnit.unit) else gd (inB 0 (length a0)) (bif decide (getD a0 0 (0 :Int) > (3 :Int)) then some ((0, [], [], PUnit.unit), false, PUnit.unit) else gd (inB 0 (length a0)) (B_59_0 (L_59_0 4611686018427387904 a0 0 0 [] [] (wrap i64 (getD a0 0 0)) [] []) fun y6 y7 y8 y9 y10 y11 => some ((y9, y10, y11, PUnit.unit), true, PUnit.unit)))
theorem fn_59 (a0 : (List Int)) : evFnL sm_59 FU (ovr noO (evFn sm_59 fns FU 0)) (ir59_t O_59_59_0) ir59 (ofH [(.slice (.int .u32))] (a0, ())) [] (pureK [Zy59_2, .bool]) = F_59 a0 := by kernel_rfl
noncomputable def Sp.p_59 (a0 : (List Int)) : Bool := (F_59 a0).isSome
noncomputable def Sp.v_59 (a0 : (List Int)) : (Int × ((List (List Int)) × ((List (List Int)) × Unit))) × Bool × Unit := (F_59 a0).getD (dfH [Zy59_2, .bool])
noncomputable def s_59 : Summ := shS [(.slice (.int .u32))] [Zy59_2, .bool] (fun x => p_59 x.1) (fun x => v_59 x.1)
theorem pv_59 (a0 : (List Int)) {y : (Int × ((List (List Int)) × ((List (List Int)) × Unit))) × Bool × Unit} (h : F_59 a0 = some y) : p_59 a0 = true ∧ v_59 a0 = y := ⟨by rw [p_59, h]; rfl, by rw [v_59, h]; rfl⟩
theorem run_59 (x : HDen [(.slice (.int .u32))]) (y : HDen [Zy59_2, .bool]) (h : F_59 x.1 = some y) : evFn sm_59 fns FU 1 59 (ofH [(.slice (.int .u32))] x) [] (pureK [Zy59_2, .bool]) = some y :=
 evFnL_sound (fn := ir59) (t := (ir59_t O_59_59_0)) (o := noO) rfl noO_ok (ir59_tok (fun T k r => OK_59_59_0 T k r)) ((fn_59 _).trans h)
end
noncomputable section
noncomputable def sm_26 : Nat → Option Summ := fun f => bif Nat.beq f 25 then some s_25 else bif Nat.beq f 48 then some s_48 else bif Nat.beq f 57 then some s_57 else bif Nat.beq f 58 then some s_58 else bif Nat.beq f 59 then some s_59 else none
noncomputable def F_26 (a0 : (((List Int) × ((List Int) × (Int × Unit))) × ((List Int) × Unit))) (a1 : Int) : Option ((Int × (Int × ((List Int) × ((Int × ((List (List Int)) × ((List (List Int)) × Unit))) × Unit)))) × Bool × Unit) :=
 gd (p_25 a0) (bif !(v_25 a0).1 then some ((0, 0, replicate 32 (0 :Int), (0, [], [], PUnit.unit), PUnit.unit), false, PUnit.unit) else gd (p_57 a1) (bif !(v_57 a1).1 then some ((0, 0, replicate 32 (0 :Int), (0, [], [], PUnit.unit), PUnit.unit), false, PUnit.unit) else gd (p_48 a0 a1) (gd (inB 1 (length ((v_48 a0 a1).1))) (gd (inB 2 (length ((v_48 a0 a1).1))) (gd (sl3 3 11 (↑(length ((v_48 a0 a1).1)) : Int)) (gd (p_58 (take 8 (drop 3 ((v_48 a0 a1).1)))) (bif decide (wrap i64 (getD ((v_48 a0 a1).1) 1 0) < 1) then some ((0, 0, replicate 32 (0 :Int), (0, [], [], PUnit.unit), PUnit.unit), false, PUnit.unit) else bif decide (wrap i64 (getD ((v_48 a0 a1).1) 1 0) ≥ 2147483648) then some ((0, 0, replicate 32 (0 :Int), (0, [], [], PUnit.unit), PUnit.unit), false, PUnit.unit) else bif decide (wrap i64 (getD ((v_48 a0 a1).1) 2 0) < 1) then some ((0, 0, replicate 32 (0 :Int), (0, [], [], PUnit.unit), PUnit.unit), false, PUnit.unit) else bif decide (wrap i64 (getD ((v_48 a0 a1).1) 2 0) > wrap i64 ((↑(length ((v_48 a0 a1).1)) : Int) - 564)) then some ((0, 0, replicate 32 (0 :Int), (0, [], [], PUnit.unit), PUnit.unit), false, PUnit.unit) else gd (sl3 11 564 (↑(length ((v_48 a0 a1).1)) : Int)) (gd (p_59 (take 553 (drop 11 ((v_48 a0 a1).1)))) (bif !(v_59 (take 553 (drop 11 ((v_48 a0 a1).1)))).2.1 then some ((0, 0, replicate 32 (0 :Int), (0, [], [], PUnit.unit), PUnit.unit), false, PUnit.unit) else some ((wrap i64 (getD ((v_48 a0 a1).1) 1 0), wrap i64 (getD ((v_48 a0 a1).1) 2 0), (v_58 (take 8 (drop 3 ((v_48 a0 a1).1)))).1, (v_59 (take 553 (drop 11 ((v_48 a0 a1).1)))).1, PUnit.unit), true, PUnit.unit))))))))))
theorem fn_26 (a0 : (((List Int) × ((List Int) × (Int × Unit))) × ((List Int) × Unit))) (a1 : Int) : evFnL sm_26 FU (ovr noO (evFn sm_26 fns FU 0)) .nil ir26 (ofH [(.pair (.pair (.slice (.int .u32)) (.pair (.slice (.int .i64)) (.pair (.int .i64) .unit))) (.pair (.arr 32 (.int .u8)) .unit)), (.int .i64)] (a0, a1, ())) [] (pureK [(.pair (.int .i64) (.pair (.int .i64) (.pair (.arr 32 (.int .u8)) (.pair (.pair (.int .i64) (.pair (.slice (.arr 32 (.int .u8))) (.pair (.slice (.arr 32 (.int .u8))) .unit))) .unit)))), .bool]) = F_26 a0 a1 := by kernel_rfl
noncomputable def Sp.p_26 (a0 : (((List Int) × ((List Int) × (Int × Unit))) × ((List Int) × Unit))) (a1 : Int) : Bool := (F_26 a0 a1).isSome
noncomputable def Sp.v_26 (a0 : (((List Int) × ((List Int) × (Int × Unit))) × ((List Int) × Unit))) (a1 : Int) : (Int × (Int × ((List Int) × ((Int × ((List (List Int)) × ((List (List Int)) × Unit))) × Unit)))) × Bool × Unit := (F_26 a0 a1).getD (dfH [(.pair (.int .i64) (.pair (.int .i64) (.pair (.arr 32 (.int .u8)) (.pair (.pair (.int .i64) (.pair (.slice (.arr 32 (.int .u8))) (.pair (.slice (.arr 32 (.int .u8))) .unit))) .unit)))), .bool])
noncomputable def s_26 : Summ := shS [(.pair (.pair (.slice (.int .u32)) (.pair (.slice (.int .i64)) (.pair (.int .i64) .unit))) (.pair (.arr 32 (.int .u8)) .unit)), (.int .i64)] [(.pair (.int .i64) (.pair (.int .i64) (.pair (.arr 32 (.int .u8)) (.pair (.pair (.int .i64) (.pair (.slice (.arr 32 (.int .u8))) (.pair (.slice (.arr 32 (.int .u8))) .unit))) .unit)))), .bool] (fun x => p_26 x.1 x.2.1) (fun x => v_26 x.1 x.2.1)
theorem pv_26 (a0 : (((List Int) × ((List Int) × (Int × Unit))) × ((List Int) × Unit))) (a1 : Int) {y : (Int × (Int × ((List Int) × ((Int × ((List (List Int)) × ((List (List Int)) × Unit))) × Unit)))) × Bool × Unit} (h : F_26 a0 a1 = some y) : p_26 a0 a1 = true ∧ v_26 a0 a1 = y := ⟨by rw [p_26, h]; rfl, by rw [v_26, h]; rfl⟩
theorem run_26 (x : HDen [(.pair (.pair (.slice (.int .u32)) (.pair (.slice (.int .i64)) (.pair (.int .i64) .unit))) (.pair (.arr 32 (.int .u8)) .unit)), (.int .i64)]) (y : HDen [(.pair (.int .i64) (.pair (.int .i64) (.pair (.arr 32 (.int .u8)) (.pair (.pair (.int .i64) (.pair (.slice (.arr 32 (.int .u8))) (.pair (.slice (.arr 32 (.int .u8))) .unit))) .unit)))), .bool]) (h : F_26 x.1 x.2.1 = some y) : evFn sm_26 fns FU 1 26 (ofH [(.pair (.pair (.slice (.int .u32)) (.pair (.slice (.int .i64)) (.pair (.int .i64) .unit))) (.pair (.arr 32 (.int .u8)) .unit)), (.int .i64)] x) [] (pureK [(.pair (.int .i64) (.pair (.int .i64) (.pair (.arr 32 (.int .u8)) (.pair (.pair (.int .i64) (.pair (.slice (.arr 32 (.int .u8))) (.pair (.slice (.arr 32 (.int .u8))) .unit))) .unit)))), .bool]) = some y :=
 evFnL_sound (fn := ir26) (t := .nil) (o := noO) rfl noO_ok trivial ((fn_26 _ _).trans h)
end
noncomputable section
noncomputable def sm_100 : Nat → Option Summ := fun f => none
noncomputable def T_100_0 (p0 p1 : List Int) : St := St.mk ([CV.pure (Ty.slice (Ty.int u8)) p0, jk, jk, CV.whole 0] ++ (jl 32)) [Blk.vec 5 (Ty.int u8) p1] 0
noncomputable def X_100_0_0 (p0 p1 : List Int) : St := St.mk ([CV.pure (Ty.slice (Ty.int u8)) p0, jk, jk, CV.whole 0] ++ (jl 32)) [Blk.vec 5 (Ty.int u8) p1] 0
inductive Sp.E_100_0 where
 | e0 (p0 p1 : List Int)
noncomputable def Sp.B_100_0 {R : Type} (r : Option E_100_0) (k0 : List Int → List Int → Option R) : Option R := match r with
 | none => none
 | some (.e0 p0 p1) => k0 p0 p1
noncomputable def Sp.L_100_0 : Nat → List Int → List Int → Option E_100_0
 | 0, _, _ => none
 | m + 1, p0, p1 => bif Int.tmod (↑(length p1) : Int) (64 :Int) != (56 :Int) then gd (room (length p1 + 1) 1) (L_100_0 m p0 (p1 ++ [0])) else some (E_100_0.e0 p0 p1)
noncomputable def G_100_0 {R : Type} (p0 p1 : List Int) (k : Ex → St → Option R) : Option R := B_100_0 (L_100_0 FU p0 p1) (fun p0 p1 => k (Ex.exit 0) (X_100_0_0 p0 p1))
noncomputable def o_100_0 {R : Type} (G : List Int → List Int → (Ex → St → Option R) → Option R) : St → (Ex → St → Option R) → Option R := fun T k => match T.sl.getD 0 .junk, T.sl.getD 3 .junk, T.hp with
 | CV.pure (Ty.slice (Ty.int u8)) p0, CV.whole 0, ((Blk.vec 5 (Ty.int u8) p1) :: []) => gd (shapeOK T 36 [0, 3] 0) (G p0 p1 k)
 | _, _, _ => none
theorem o_100_0_inv {R : Type} {G : List Int → List Int → (Ex → St → Option R) → Option R} {T : St} {k : Ex → St → Option R} {r : R} (h : o_100_0 G T k = some r) : ∃ p0 p1, T = T_100_0 p0 p1 ∧ G p0 p1 k = some r := by
 unfold o_100_0 at h
 split at h
 · obtain ⟨hs, h'⟩ := gd_some h
   refine ⟨_, _, (st_of (asg := [(0, _), (3, _)]) hs ⟨by assumption, by assumption, trivial⟩ (by assumption)).trans ?_, h'⟩
   kernel_rfl
 · cases h
noncomputable def T_100_1 (p0 p1 : Int) (p2 : List Int) : St := St.mk ([jk, jk, jk, CV.whole 0, CV.int u64 p0, CV.int i64 p1] ++ (jl 30)) [Blk.vec 5 (Ty.int u8) p2] 0
noncomputable def X_100_1_0 (p2 : List Int) : St := St.mk ([jk, jk, jk, CV.whole 0] ++ (jl 32)) [Blk.vec 5 (Ty.int u8) p2] 0
inductive Sp.E_100_1 where
 | e0 (p2 : List Int)
noncomputable def Sp.B_100_1 {R : Type} (r : Option E_100_1) (k0 : List Int → Option R) : Option R := match r with
 | none => none
 | some (.e0 p2) => k0 p2
noncomputable def Sp.L_100_1 : Nat → Int → Int → List Int → Option E_100_1
 | 0, _, _, _ => none
 | m + 1, p0, p1, p2 => bif decide (p1 ≥ 0) then gd (decide (0 ≤ wrap u64 p1)) (gd (room (length p2 + 1) 1) (L_100_1 m p0 (wrap i64 (p1 - 8)) (p2 ++ [wrap u8 (Int.fdiv p0 (2 ^ Nat.min (toNat (wrap u64 p1)) 64))]))) else some (E_100_1.e0 p2)
noncomputable def G_100_1 {R : Type} (p0 p1 : Int) (p2 : List Int) (k : Ex → St → Option R) : Option R := B_100_1 (L_100_1 FU p0 p1 p2) (fun p2 => k (Ex.exit 2) (X_100_1_0 p2))
noncomputable def o_100_1 {R : Type} (G : Int → Int → List Int → (Ex → St → Option R) → Option R) : St → (Ex → St → Option R) → Option R := fun T k => match T.sl.getD 3 .junk, T.sl.getD 4 .junk, T.sl.getD 5 .junk, T.hp with
 | CV.whole 0, CV.int u64 p0, CV.int i64 p1, ((Blk.vec 5 (Ty.int u8) p2) :: []) => gd (shapeOK T 36 [3, 4, 5] 0) (G p0 p1 p2 k)
 | _, _, _, _ => none
theorem o_100_1_inv {R : Type} {G : Int → Int → List Int → (Ex → St → Option R) → Option R} {T : St} {k : Ex → St → Option R} {r : R} (h : o_100_1 G T k = some r) : ∃ p0 p1 p2, T = T_100_1 p0 p1 p2 ∧ G p0 p1 p2 k = some r := by
 unfold o_100_1 at h
 split at h
 · obtain ⟨hs, h'⟩ := gd_some h
   refine ⟨_, _, _, (st_of (asg := [(3, _), (4, _), (5, _)]) hs ⟨by assumption, by assumption, by assumption, trivial⟩ (by assumption)).trans ?_, h'⟩
   kernel_rfl
 · cases h
noncomputable def O_100_100_0 {R : Type} : St → (Ex → St → Option R) → Option R := fun T k => o_100_0 G_100_0 T k
noncomputable def O_100_100_1 {R : Type} : St → (Ex → St → Option R) → Option R := fun T k => o_100_1 G_100_1 T k
theorem body_100_0 {R : Type} (K0 : St → Option R) (K1 : Ex → St → Option R) (p0 p1 : List Int) : evLB (evCodeL sm_100 FU (ovr noO (evFn sm_100 fns FU 0)) .nil ir100_b0) (St.norm ir100_v0) (T_100_0 p0 p1) K0 K1 =
 bif Int.tmod (↑(length p1) : Int) (64 :Int) != (56 :Int) then gd (room (length p1 + 1) 1) (K0 (T_100_0 p0 (p1 ++ [0]))) else K1 (Ex.exit 0) (X_100_0_0 p0 p1) := by kernel_rfl
theorem Bgd_100_0 {R : Type} {c : Bool} {x : Option R} {y : Option E_100_0} {k0 : List Int → List Int → Option R} (h : x = B_100_0 y k0) : gd c x = B_100_0 (gd c y) k0 := by cases c; rfl; exact h
theorem Bcond_100_0 {R : Type} {c : Bool} {x x' : Option R} {y y' : Option E_100_0} {k0 : List Int → List Int → Option R} (h : x = B_100_0 y k0) (h' : x' = B_100_0 y' k0) : (bif c then x else x') = B_100_0 (bif c then y else y') k0 := by cases c; exact h'; exact h
theorem loop_100_0 {R : Type} (k : Ex → St → Option R) : ∀ (m : Nat) (p0 : List Int) (p1 : List Int), evLoopN (evCodeL sm_100 FU (ovr noO (evFn sm_100 fns FU 0)) .nil ir100_b0) (St.norm ir100_v0) m (T_100_0 p0 p1) k = B_100_0 (L_100_0 m p0 p1) (fun p0 p1 => k (Ex.exit (0 : Nat)) (X_100_0_0 p0 p1))
 | 0, _, _ => rfl
 | m + 1, p0, p1 => by
   rw [evLoopN_succ, body_100_0, L_100_0]
   repeat' first | apply Bgd_100_0 | apply Bcond_100_0 | exact loop_100_0 k m _ _ | rfl
theorem ok_100_0 {R : Type} (T : St) (k : Ex → St → Option R) (r : R) (h0 : o_100_0 G_100_0 T k = some r) : evLoopN (evCode sm_100 FU (evFn sm_100 fns FU 0) ir100_b0) (St.norm ir100_v0) FU T k = some r := by
 obtain ⟨p0, p1, rfl, h⟩ := o_100_0_inv h0
 refine evLoopN_L (t := .nil) noO_ok trivial _ _ _ _ ?_
 rw [loop_100_0]
 exact h
theorem OK_100_100_0 {R : Type} (T : St) (k : Ex → St → Option R) (r : R) (h : O_100_100_0 T k = some r) : evLoopN (evCode sm_100 FU (evFn sm_100 fns FU 0) ir100_b0) (St.norm ir100_v0) FU T k = some r := ok_100_0 T k r h
theorem body_100_1 {R : Type} (K0 : St → Option R) (K1 : Ex → St → Option R) (p0 p1 : Int) (p2 : List Int) : evLB (evCodeL sm_100 FU (ovr noO (evFn sm_100 fns FU 0)) .nil ir100_b1) (St.norm ir100_v1) (T_100_1 p0 p1 p2) K0 K1 =
 bif decide (p1 ≥ 0) then gd (decide (0 ≤ wrap u64 p1)) (gd (room (length p2 + 1) 1) (K0 (T_100_1 p0 (wrap i64 (p1 - 8)) (p2 ++ [wrap u8 (Int.fdiv p0 (2 ^ Nat.min (toNat (wrap u64 p1)) 64))])))) else K1 (Ex.exit 2) (X_100_1_0 p2) := by kernel_rfl
theorem Bgd_100_1 {R : Type} {c : Bool} {x : Option R} {y : Option E_100_1} {k0 : List Int → Option R} (h : x = B_100_1 y k0) : gd c x = B_100_1 (gd c y) k0 := by cases c; rfl; exact h
theorem Bcond_100_1 {R : Type} {c : Bool} {x x' : Option R} {y y' : Option E_100_1} {k0 : List Int → Option R} (h : x = B_100_1 y k0) (h' : x' = B_100_1 y' k0) : (bif c then x else x') = B_100_1 (bif c then y else y') k0 := by cases c; exact h'; exact h
theorem loop_100_1 {R : Type} (k : Ex → St → Option R) : ∀ (m : Nat) (p0 : Int) (p1 : Int) (p2 : List Int), evLoopN (evCodeL sm_100 FU (ovr noO (evFn sm_100 fns FU 0)) .nil ir100_b1) (St.norm ir100_v1) m (T_100_1 p0 p1 p2) k = B_100_1 (L_100_1 m p0 p1 p2) (fun p2 => k (Ex.exit (2 : Nat)) (X_100_1_0 p2))
 | 0, _, _, _ => rfl
 | m + 1, p0, p1, p2 => by
   rw [evLoopN_succ, body_100_1, L_100_1]
   repeat' first | apply Bgd_100_1 | apply Bcond_100_1 | exact loop_100_1 k m _ _ _ | rfl
theorem ok_100_1 {R : Type} (T : St) (k : Ex → St → Option R) (r : R) (h0 : o_100_1 G_100_1 T k = some r) : evLoopN (evCode sm_100 FU (evFn sm_100 fns FU 0) ir100_b1) (St.norm ir100_v1) FU T k = some r := by
 obtain ⟨p0, p1, p2, rfl, h⟩ := o_100_1_inv h0
 refine evLoopN_L (t := .nil) noO_ok trivial _ _ _ _ ?_
 rw [loop_100_1]
 exact h
theorem OK_100_100_1 {R : Type} (T : St) (k : Ex → St → Option R) (r : R) (h : O_100_100_1 T k = some r) : evLoopN (evCode sm_100 FU (evFn sm_100 fns FU 0) ir100_b1) (St.norm ir100_v1) FU T k = some r := ok_100_1 T k r h
noncomputable def F_100 (a0 : (List Int)) : Option ((List Int) × Unit) :=
 gd (room (0 + length a0) 1) (gd (room (length ([] ++ a0) + 1) 1) (B_100_0 (L_100_0 4611686018427387904 a0 ([] ++ a0 ++ [128])) fun y3 y4 => B_100_1 (L_100_1 4611686018427387904 (wrap u64 (wrap u64 (↑(length y3) : Int) * 8)) 56 y4) fun y5 => some (y5, PUnit.unit)))
theorem fn_100 (a0 : (List Int)) : evFnL sm_100 FU (ovr noO (evFn sm_100 fns FU 0)) (ir100_t O_100_100_0 O_100_100_1) ir100 (ofH [(.slice (.int .u8))] (a0, ())) [] (pureK [(.slice (.int .u8))]) = F_100 a0 := by kernel_rfl
noncomputable def Sp.p_100 (a0 : (List Int)) : Bool := (F_100 a0).isSome
noncomputable def Sp.v_100 (a0 : (List Int)) : (List Int) × Unit := (F_100 a0).getD (dfH [(.slice (.int .u8))])
noncomputable def s_100 : Summ := shS [(.slice (.int .u8))] [(.slice (.int .u8))] (fun x => p_100 x.1) (fun x => v_100 x.1)
theorem pv_100 (a0 : (List Int)) {y : (List Int) × Unit} (h : F_100 a0 = some y) : p_100 a0 = true ∧ v_100 a0 = y := ⟨by rw [p_100, h]; rfl, by rw [v_100, h]; rfl⟩
theorem run_100 (x y : HDen [(.slice (.int .u8))]) (h : F_100 x.1 = some y) : evFn sm_100 fns FU 1 100 (ofH [(.slice (.int .u8))] x) [] (pureK [(.slice (.int .u8))]) = some y :=
 evFnL_sound (fn := ir100) (t := (ir100_t O_100_100_0 O_100_100_1)) (o := noO) rfl noO_ok (ir100_tok (fun T k r => OK_100_100_0 T k r) (fun T k r => OK_100_100_1 T k r)) ((fn_100 _).trans h)
end
noncomputable section
noncomputable def sm_105 : Nat → Option Summ := fun f => none
noncomputable def F_105 (a0 a1 : Int) : Option (Int × Unit) :=
 gd (decide (0 ≤ a1)) (gd (decide (0 ≤ wrap u64 (32 - a1))) (some (Sp.orI u32 (Int.fdiv a0 (2 ^ Nat.min (toNat a1) 32)) (wrap u32 (a0 * 2 ^ Nat.min (toNat (wrap u64 (32 - a1))) 32)), PUnit.unit)))
theorem fn_105 (a0 a1 : Int) : evFnL sm_105 FU (ovr noO (evFn sm_105 fns FU 0)) .nil ir105 (ofH [(.int .u32), (.int .u64)] (a0, a1, ())) [] (pureK [(.int .u32)]) = F_105 a0 a1 := by kernel_rfl
noncomputable def Sp.p_105 (a0 a1 : Int) : Bool := (F_105 a0 a1).isSome
noncomputable def Sp.v_105 (a0 a1 : Int) : Int × Unit := (F_105 a0 a1).getD (dfH [(.int .u32)])
noncomputable def s_105 : Summ := shN [(.int .u32), (.int .u64)] [(.int .u32)] (fun x => p_105 x.1 x.2.1) (fun x => v_105 x.1 x.2.1)
theorem pv_105 (a0 a1 : Int) {y : Int × Unit} (h : F_105 a0 a1 = some y) : p_105 a0 a1 = true ∧ v_105 a0 a1 = y := ⟨by rw [p_105, h]; rfl, by rw [v_105, h]; rfl⟩
theorem run_105 (x : HDen [(.int .u32), (.int .u64)]) (y : HDen [(.int .u32)]) (h : F_105 x.1 x.2.1 = some y) : evFn sm_105 fns FU 1 105 (ofH [(.int .u32), (.int .u64)] x) [] (pureK [(.int .u32)]) = some y :=
 evFnL_sound (fn := ir105) (t := .nil) (o := noO) rfl noO_ok trivial ((fn_105 _ _).trans h)
end
noncomputable section
noncomputable def sm_106 : Nat → Option Summ := fun f => none
noncomputable def F_106  : Option ((List Int) × Unit) :=
 some ([1116352408, 1899447441, 3049323471, 3921009573, 961987163, 1508970993, 2453635748, 2870763221, 3624381080, 310598401, 607225278, 1426881987, 1925078388, 2162078206, 2614888103, 3248222580, 3835390401, 4022224774, 264347078, 604807628, 770255983, 1249150122, 1555081692, 1996064986, 2554220882, 2821834349, 2952996808, 3210313671, 3336571891, 3584528711, 113926993, 338241895, 666307205, 773529912, 1294757372, 1396182291, 1695183700, 1986661051, 2177026350, 2456956037, 2730485921, 2820302411, 3259730800, 3345764771, 3516065817, 3600352804, 4094571909, 275423344, 430227734, 506948616, 659060556, 883997877, 958139571, 1322822218, 1537002063, 1747873779, 1955562222, 2024104815, 2227730452, 2361852424, 2428436474, 2756734187, 3204031479, 3329325298], PUnit.unit)
theorem fn_106  : evFnL sm_106 FU (ovr noO (evFn sm_106 fns FU 0)) .nil ir106 (ofH [] (())) [] (pureK [(.arr 64 (.int .u32))]) = F_106 := by kernel_rfl
noncomputable def Sp.p_106  : Bool := (F_106).isSome
noncomputable def Sp.v_106  : (List Int) × Unit := (F_106).getD (dfH [(.arr 64 (.int .u32))])
noncomputable def s_106 : Summ := shN [] [(.arr 64 (.int .u32))] (fun x => p_106 ) (fun x => v_106 )
theorem run_106 (x : HDen []) (y : HDen [(.arr 64 (.int .u32))]) (h : F_106  = some y) : evFn sm_106 fns FU 1 106 (ofH [] x) [] (pureK [(.arr 64 (.int .u32))]) = some y :=
 evFnL_sound (fn := ir106) (t := .nil) (o := noO) rfl noO_ok trivial ((fn_106).trans h)
end
noncomputable section
abbrev Zy101_0 : Ty := (Ty.arr (8 : Nat) (Ty.int u32))
abbrev Zy101_1 : Ty := (Ty.arr (64 : Nat) (Ty.int u32))
noncomputable def sm_101 : Nat → Option Summ := fun f => bif Nat.beq f 105 then some s_105 else bif Nat.beq f 106 then some s_106 else none
noncomputable def T_101_0 (p0 : List Int) (p1 : Int) (p2 p3 p4 : List Int) : St := St.mk ([jk, CV.pure (Ty.slice (Ty.int u8)) p0, CV.ptr 0 [], jk, CV.ptr 1 [], CV.ptr 2 [], CV.int i64 p1] ++ (jl 189)) [Blk.mem (CV.pure Zy101_0 p2), Blk.mem (CV.pure Zy101_0 p3), Blk.mem (CV.pure Zy101_1 p4)] 0
noncomputable def X_101_0_0 (p2 p3 p4 : List Int) : St := St.mk ([jk, jk, CV.ptr 0 [], jk, CV.ptr 1 [], CV.ptr 2 []] ++ (jl 190)) [Blk.mem (CV.pure Zy101_0 p2), Blk.mem (CV.pure Zy101_0 p3), Blk.mem (CV.pure Zy101_1 p4)] 0
inductive Sp.E_101_0 where
 | e0 (p2 p3 p4 : List Int)
noncomputable def Sp.B_101_0 {R : Type} (r : Option E_101_0) (k0 : List Int → List Int → List Int → Option R) : Option R := match r with
 | none => none
 | some (.e0 p2 p3 p4) => k0 p2 p3 p4
noncomputable def Sp.L_101_0 : Nat → List Int → Int → List Int → List Int → List Int → Option E_101_0
 | 0, _, _, _, _, _ => none
 | m + 1, p0, p1, p2, p3, p4 => bif decide (p1 < 16) then gd (inB (wrap i64 (4 * p1)) (length p0)) (gd (inB (wrap i64 (wrap i64 (4 * p1) + 1)) (length p0)) (gd (inB (wrap i64 (wrap i64 (4 * p1) + 2)) (length p0)) (gd (inB (wrap i64 (wrap i64 (4 * p1) + 3)) (length p0)) (gd (inB p1 64) (gd (decide (toNat p1 < 64) && true) (L_101_0 m p0 (wrap i64 (p1 + 1)) p2 p3 (List.set p4 (toNat p1) (Sp.orI u32 (Sp.orI u32 (Sp.orI u32 (wrap u32 (wrap u32 (getD p0 (toNat (wrap i64 (4 * p1))) 0) * 16777216)) (wrap u32 (wrap u32 (getD p0 (toNat (wrap i64 (wrap i64 (4 * p1) + 1))) 0) * 65536))) (wrap u32 (wrap u32 (getD p0 (toNat (wrap i64 (wrap i64 (4 * p1) + 2))) 0) * 256))) (wrap u32 (getD p0 (toNat (wrap i64 (wrap i64 (4 * p1) + 3))) 0)))))))))) else some (E_101_0.e0 p2 p3 p4)
noncomputable def G_101_0 {R : Type} (p0 : List Int) (p1 : Int) (p2 p3 p4 : List Int) (k : Ex → St → Option R) : Option R := B_101_0 (L_101_0 FU p0 p1 p2 p3 p4) (fun p2 p3 p4 => k (Ex.exit 0) (X_101_0_0 p2 p3 p4))
noncomputable def o_101_0 {R : Type} (G : List Int → Int → List Int → List Int → List Int → (Ex → St → Option R) → Option R) : St → (Ex → St → Option R) → Option R := fun T k => match T.sl.getD 1 .junk, T.sl.getD 2 .junk, T.sl.getD 4 .junk, T.sl.getD 5 .junk, T.sl.getD 6 .junk, T.hp with
 | CV.pure (Ty.slice (Ty.int u8)) p0, CV.ptr 0 [], CV.ptr 1 [], CV.ptr 2 [], CV.int i64 p1, ((Blk.mem (CV.pure (Ty.arr 8 (Ty.int u32)) p2)) :: (Blk.mem (CV.pure (Ty.arr 8 (Ty.int u32)) p3)) :: (Blk.mem (CV.pure (Ty.arr 64 (Ty.int u32)) p4)) :: []) => gd (shapeOK T 196 [1, 2, 4, 5, 6] 0) (G p0 p1 p2 p3 p4 k)
 | _, _, _, _, _, _ => none
theorem o_101_0_inv {R : Type} {G : List Int → Int → List Int → List Int → List Int → (Ex → St → Option R) → Option R} {T : St} {k : Ex → St → Option R} {r : R} (h : o_101_0 G T k = some r) : ∃ p0 p1 p2 p3 p4, T = T_101_0 p0 p1 p2 p3 p4 ∧ G p0 p1 p2 p3 p4 k = some r := by
 unfold o_101_0 at h
 split at h
 · obtain ⟨hs, h'⟩ := gd_some h
   refine ⟨_, _, _, _, _, (st_of (asg := [(1, _), (2, _), (4, _), (5, _), (6, _)]) hs ⟨by assumption, by assumption, by assumption, by assumption, by assumption, trivial⟩ (by assumption)).trans ?_, h'⟩
   kernel_rfl
 · cases h
noncomputable def T_101_1 (p0 : Int) (p1 p2 p3 : List Int) : St := St.mk ([jk, jk, CV.ptr 0 [], jk, CV.ptr 1 [], CV.ptr 2 [], jk, CV.int i64 p0] ++ (jl 188)) [Blk.mem (CV.pure Zy101_0 p1), Blk.mem (CV.pure Zy101_0 p2), Blk.mem (CV.pure Zy101_1 p3)] 0
noncomputable def X_101_1_0 (p1 p2 p3 : List Int) : St := St.mk ([jk, jk, CV.ptr 0 [], jk, CV.ptr 1 [], CV.ptr 2 []] ++ (jl 190)) [Blk.mem (CV.pure Zy101_0 p1), Blk.mem (CV.pure Zy101_0 p2), Blk.mem (CV.pure Zy101_1 p3)] 0
inductive Sp.E_101_1 where
 | e0 (p1 p2 p3 : List Int)
noncomputable def Sp.B_101_1 {R : Type} (r : Option E_101_1) (k0 : List Int → List Int → List Int → Option R) : Option R := match r with
 | none => none
 | some (.e0 p1 p2 p3) => k0 p1 p2 p3
noncomputable def Sp.L_101_1 : Nat → Int → List Int → List Int → List Int → Option E_101_1
 | 0, _, _, _, _ => none
 | m + 1, p0, p1, p2, p3 => bif decide (p0 < 64) then gd (inB (wrap i64 (p0 - 15)) 64) (gd (decide (toNat (wrap i64 (p0 - 15)) < 64) && true) (gd (inB (wrap i64 (p0 - 2)) 64) (gd (decide (toNat (wrap i64 (p0 - 2)) < 64) && true) (gd (p_105 (getD p3 (toNat (wrap i64 (p0 - 2))) 0) 17) (gd (p_105 (getD p3 (toNat (wrap i64 (p0 - 2))) 0) 19) (gd (inB (wrap i64 (p0 - 7)) 64) (gd (decide (toNat (wrap i64 (p0 - 7)) < 64) && true) (gd (p_105 (getD p3 (toNat (wrap i64 (p0 - 15))) 0) 7) (gd (p_105 (getD p3 (toNat (wrap i64 (p0 - 15))) 0) 18) (gd (inB (wrap i64 (p0 - 16)) 64) (gd (decide (toNat (wrap i64 (p0 - 16)) < 64) && true) (gd (inB p0 64) (gd (decide (toNat p0 < 64) && true) (L_101_1 m (wrap i64 (p0 + 1)) p1 p2 (List.set p3 (toNat p0) (wrap u32 (wrap u32 (wrap u32 (Sp.xorI u32 (Sp.xorI u32 ((v_105 (getD p3 (toNat (wrap i64 (p0 - 2))) 0) 17).1) ((v_105 (getD p3 (toNat (wrap i64 (p0 - 2))) 0) 19).1)) (Int.fdiv (getD p3 (toNat (wrap i64 (p0 - 2))) 0) 1024) + getD p3 (toNat (wrap i64 (p0 - 7))) 0) + Sp.xorI u32 (Sp.xorI u32 ((v_105 (getD p3 (toNat (wrap i64 (p0 - 15))) 0) 7).1) ((v_105 (getD p3 (toNat (wrap i64 (p0 - 15))) 0) 18).1)) (Int.fdiv (getD p3 (toNat (wrap i64 (p0 - 15))) 0) 8)) + getD p3 (toNat (wrap i64 (p0 - 16))) 0))))))))))))))))) else some (E_101_1.e0 p1 p2 p3)
noncomputable def G_101_1 {R : Type} (p0 : Int) (p1 p2 p3 : List Int) (k : Ex → St → Option R) : Option R := B_101_1 (L_101_1 FU p0 p1 p2 p3) (fun p1 p2 p3 => k (Ex.exit 2) (X_101_1_0 p1 p2 p3))
noncomputable def o_101_1 {R : Type} (G : Int → List Int → List Int → List Int → (Ex → St → Option R) → Option R) : St → (Ex → St → Option R) → Option R := fun T k => match T.sl.getD 2 .junk, T.sl.getD 4 .junk, T.sl.getD 5 .junk, T.sl.getD 7 .junk, T.hp with
 | CV.ptr 0 [], CV.ptr 1 [], CV.ptr 2 [], CV.int i64 p0, ((Blk.mem (CV.pure (Ty.arr 8 (Ty.int u32)) p1)) :: (Blk.mem (CV.pure (Ty.arr 8 (Ty.int u32)) p2)) :: (Blk.mem (CV.pure (Ty.arr 64 (Ty.int u32)) p3)) :: []) => gd (shapeOK T 196 [2, 4, 5, 7] 0) (G p0 p1 p2 p3 k)
 | _, _, _, _, _ => none
theorem o_101_1_inv {R : Type} {G : Int → List Int → List Int → List Int → (Ex → St → Option R) → Option R} {T : St} {k : Ex → St → Option R} {r : R} (h : o_101_1 G T k = some r) : ∃ p0 p1 p2 p3, T = T_101_1 p0 p1 p2 p3 ∧ G p0 p1 p2 p3 k = some r := by
 unfold o_101_1 at h
 split at h
 · obtain ⟨hs, h'⟩ := gd_some h
   refine ⟨_, _, _, _, (st_of (asg := [(2, _), (4, _), (5, _), (7, _)]) hs ⟨by assumption, by assumption, by assumption, by assumption, trivial⟩ (by assumption)).trans ?_, h'⟩
   kernel_rfl
 · cases h
noncomputable def T_101_2 (p0 : Int) (p1 p2 p3 p4 p5 : List Int) : St := St.mk ([jk, jk, CV.ptr 0 [], jk, CV.ptr 1 [], CV.ptr 2 [], jk, jk, jk, jk, CV.ptr 3 [], CV.ptr 4 [], CV.int i64 p0] ++ (jl 183)) [Blk.mem (CV.pure Zy101_0 p1), Blk.mem (CV.pure Zy101_0 p2), Blk.mem (CV.pure Zy101_1 p3), Blk.mem (CV.pure Zy101_1 p4), Blk.mem (CV.pure Zy101_0 p5)] 0
noncomputable def X_101_2_0 (p1 p2 p5 : List Int) : St := St.mk ([jk, jk, CV.ptr 0 [], jk, CV.ptr 1 []] ++ (jl 6 ++ ([CV.ptr 2 []] ++ (jl 184)))) [Blk.mem (CV.pure Zy101_0 p1), Blk.mem (CV.pure Zy101_0 p2), Blk.mem (CV.pure Zy101_0 p5)] 0
inductive Sp.E_101_2 where
 | e0 (p1 p2 p5 : List Int)
noncomputable def Sp.B_101_2 {R : Type} (r : Option E_101_2) (k0 : List Int → List Int → List Int → Option R) : Option R := match r with
 | none => none
 | some (.e0 p1 p2 p5) => k0 p1 p2 p5
noncomputable def Sp.L_101_2 : Nat → Int → List Int → List Int → List Int → List Int → List Int → Option E_101_2
 | 0, _, _, _, _, _, _ => none
 | m + 1, p0, p1, p2, p3, p4, p5 => bif decide (p0 < 64) then gd (p_105 (getD p5 4 0) 6) (gd (p_105 (getD p5 4 0) 11) (gd (p_105 (getD p5 4 0) 25) (gd (inB p0 64) (gd (decide (toNat p0 < 64) && true) (gd (inB p0 64) (gd (decide (toNat p0 < 64) && true) (gd (p_105 (getD p5 0 0) 2) (gd (p_105 (getD p5 0 0) 13) (gd (p_105 (getD p5 0 0) 22) (L_101_2 m (wrap i64 (p0 + 1)) p1 p2 p3 p4 [wrap u32 (wrap u32 (wrap u32 (wrap u32 (wrap u32 (getD p5 7 0 + Sp.xorI u32 (Sp.xorI u32 ((v_105 (getD p5 4 0) 6).1) ((v_105 (getD p5 4 0) 11).1)) ((v_105 (getD p5 4 0) 25).1)) + Sp.xorI u32 (Sp.andI u32 (getD p5 4 0) (getD p5 5 0)) (Sp.andI u32 (Sp.xorI u32 4294967295 (getD p5 4 0)) (getD p5 6 0))) + getD p4 (toNat p0) 0) + getD p3 (toNat p0) 0) + wrap u32 (Sp.xorI u32 (Sp.xorI u32 ((v_105 (getD p5 0 0) 2).1) ((v_105 (getD p5 0 0) 13).1)) ((v_105 (getD p5 0 0) 22).1) + Sp.xorI u32 (Sp.xorI u32 (Sp.andI u32 (getD p5 0 0) (getD p5 1 0)) (Sp.andI u32 (getD p5 0 0) (getD p5 2 0))) (Sp.andI u32 (getD p5 1 0) (getD p5 2 0)))), getD p5 0 0, getD p5 1 0, getD p5 2 0, wrap u32 (getD p5 3 0 + wrap u32 (wrap u32 (wrap u32 (wrap u32 (getD p5 7 0 + Sp.xorI u32 (Sp.xorI u32 ((v_105 (getD p5 4 0) 6).1) ((v_105 (getD p5 4 0) 11).1)) ((v_105 (getD p5 4 0) 25).1)) + Sp.xorI u32 (Sp.andI u32 (getD p5 4 0) (getD p5 5 0)) (Sp.andI u32 (Sp.xorI u32 4294967295 (getD p5 4 0)) (getD p5 6 0))) + getD p4 (toNat p0) 0) + getD p3 (toNat p0) 0)), getD p5 4 0, getD p5 5 0, getD p5 6 0])))))))))) else some (E_101_2.e0 p1 p2 p5)
noncomputable def G_101_2 {R : Type} (p0 : Int) (p1 p2 p3 p4 p5 : List Int) (k : Ex → St → Option R) : Option R := B_101_2 (L_101_2 FU p0 p1 p2 p3 p4 p5) (fun p1 p2 p5 => k (Ex.exit 4) (X_101_2_0 p1 p2 p5))
noncomputable def o_101_2 {R : Type} (G : Int → List Int → List Int → List Int → List Int → List Int → (Ex → St → Option R) → Option R) : St → (Ex → St → Option R) → Option R := fun T k => match T.sl.getD 2 .junk, T.sl.getD 4 .junk, T.sl.getD 5 .junk, T.sl.getD 10 .junk, T.sl.getD 11 .junk, T.sl.getD 12 .junk, T.hp with
 | CV.ptr 0 [], CV.ptr 1 [], CV.ptr 2 [], CV.ptr 3 [], CV.ptr 4 [], CV.int i64 p0, ((Blk.mem (CV.pure (Ty.arr 8 (Ty.int u32)) p1)) :: (Blk.mem (CV.pure (Ty.arr 8 (Ty.int u32)) p2)) :: (Blk.mem (CV.pure (Ty.arr 64 (Ty.int u32)) p3)) :: (Blk.mem (CV.pure (Ty.arr 64 (Ty.int u32)) p4)) :: (Blk.mem (CV.pure (Ty.arr 8 (Ty.int u32)) p5)) :: []) => gd (shapeOK T 196 [2, 4, 5, 10, 11, 12] 0) (G p0 p1 p2 p3 p4 p5 k)
 | _, _, _, _, _, _, _ => none
theorem o_101_2_inv {R : Type} {G : Int → List Int → List Int → List Int → List Int → List Int → (Ex → St → Option R) → Option R} {T : St} {k : Ex → St → Option R} {r : R} (h : o_101_2 G T k = some r) : ∃ p0 p1 p2 p3 p4 p5, T = T_101_2 p0 p1 p2 p3 p4 p5 ∧ G p0 p1 p2 p3 p4 p5 k = some r := by
 unfold o_101_2 at h
 split at h
 · obtain ⟨hs, h'⟩ := gd_some h
   refine ⟨_, _, _, _, _, _, (st_of (asg := [(2, _), (4, _), (5, _), (10, _), (11, _), (12, _)]) hs ⟨by assumption, by assumption, by assumption, by assumption, by assumption, by assumption, trivial⟩ (by assumption)).trans ?_, h'⟩
   kernel_rfl
 · cases h
noncomputable def T_101_3 (p0 : Int) (p1 p2 p3 : List Int) : St := St.mk ([jk, jk, CV.ptr 0 [], jk, CV.ptr 1 []] ++ (jl 6 ++ ([CV.ptr 2 []] ++ (jl 9 ++ ([CV.int i64 p0] ++ (jl 174)))))) [Blk.mem (CV.pure Zy101_0 p1), Blk.mem (CV.pure Zy101_0 p2), Blk.mem (CV.pure Zy101_0 p3)] 0
noncomputable def X_101_3_0 (p1 p2 : List Int) : St := St.mk ([jk, jk, CV.ptr 0 [], jk, CV.ptr 1 []] ++ (jl 191)) [Blk.mem (CV.pure Zy101_0 p1), Blk.mem (CV.pure Zy101_0 p2)] 0
inductive Sp.E_101_3 where
 | e0 (p1 p2 : List Int)
noncomputable def Sp.B_101_3 {R : Type} (r : Option E_101_3) (k0 : List Int → List Int → Option R) : Option R := match r with
 | none => none
 | some (.e0 p1 p2) => k0 p1 p2
noncomputable def Sp.L_101_3 : Nat → Int → List Int → List Int → List Int → Option E_101_3
 | 0, _, _, _, _ => none
 | m + 1, p0, p1, p2, p3 => bif decide (p0 < 8) then gd (inB p0 8) (gd (decide (toNat p0 < 8) && true) (gd (inB p0 8) (gd (decide (toNat p0 < 8) && true) (gd (inB p0 8) (gd (decide (toNat p0 < 8) && true) (L_101_3 m (wrap i64 (p0 + 1)) (List.set p1 (toNat p0) (wrap u32 (getD p1 (toNat p0) 0 + getD p3 (toNat p0) 0))) p2 p3)))))) else some (E_101_3.e0 p1 p2)
noncomputable def G_101_3 {R : Type} (p0 : Int) (p1 p2 p3 : List Int) (k : Ex → St → Option R) : Option R := B_101_3 (L_101_3 FU p0 p1 p2 p3) (fun p1 p2 => k (Ex.exit 6) (X_101_3_0 p1 p2))
noncomputable def o_101_3 {R : Type} (G : Int → List Int → List Int → List Int → (Ex → St → Option R) → Option R) : St → (Ex → St → Option R) → Option R := fun T k => match T.sl.getD 2 .junk, T.sl.getD 4 .junk, T.sl.getD 11 .junk, T.sl.getD 21 .junk, T.hp with
 | CV.ptr 0 [], CV.ptr 1 [], CV.ptr 2 [], CV.int i64 p0, ((Blk.mem (CV.pure (Ty.arr 8 (Ty.int u32)) p1)) :: (Blk.mem (CV.pure (Ty.arr 8 (Ty.int u32)) p2)) :: (Blk.mem (CV.pure (Ty.arr 8 (Ty.int u32)) p3)) :: []) => gd (shapeOK T 196 [2, 4, 11, 21] 0) (G p0 p1 p2 p3 k)
 | _, _, _, _, _ => none
theorem o_101_3_inv {R : Type} {G : Int → List Int → List Int → List Int → (Ex → St → Option R) → Option R} {T : St} {k : Ex → St → Option R} {r : R} (h : o_101_3 G T k = some r) : ∃ p0 p1 p2 p3, T = T_101_3 p0 p1 p2 p3 ∧ G p0 p1 p2 p3 k = some r := by
 unfold o_101_3 at h
 split at h
 · obtain ⟨hs, h'⟩ := gd_some h
   refine ⟨_, _, _, _, (st_of (asg := [(2, _), (4, _), (11, _), (21, _)]) hs ⟨by assumption, by assumption, by assumption, by assumption, trivial⟩ (by assumption)).trans ?_, h'⟩
   kernel_rfl
 · cases h
noncomputable def O_101_101_0 {R : Type} : St → (Ex → St → Option R) → Option R := fun T k => o_101_0 G_101_0 T k
noncomputable def O_101_101_1 {R : Type} : St → (Ex → St → Option R) → Option R := fun T k => o_101_1 G_101_1 T k
noncomputable def O_101_101_2 {R : Type} : St → (Ex → St → Option R) → Option R := fun T k => o_101_2 G_101_2 T k
noncomputable def O_101_101_3 {R : Type} : St → (Ex → St → Option R) → Option R := fun T k => o_101_3 G_101_3 T k
theorem body_101_0 {R : Type} (K0 : St → Option R) (K1 : Ex → St → Option R) (p0 : List Int) (p1 : Int) (p2 p3 p4 : List Int) : evLB (evCodeL sm_101 FU (ovr noO (evFn sm_101 fns FU 0)) .nil ir101_b0) (St.norm ir101_v0) (T_101_0 p0 p1 p2 p3 p4) K0 K1 =
 bif decide (p1 < 16) then gd (inB (wrap i64 (4 * p1)) (length p0)) (gd (inB (wrap i64 (wrap i64 (4 * p1) + 1)) (length p0)) (gd (inB (wrap i64 (wrap i64 (4 * p1) + 2)) (length p0)) (gd (inB (wrap i64 (wrap i64 (4 * p1) + 3)) (length p0)) (gd (inB p1 64) (gd (decide (toNat p1 < 64) && true) (K0 (T_101_0 p0 (wrap i64 (p1 + 1)) p2 p3 (List.set p4 (toNat p1) (Sp.orI u32 (Sp.orI u32 (Sp.orI u32 (wrap u32 (wrap u32 (getD p0 (toNat (wrap i64 (4 * p1))) 0) * 16777216)) (wrap u32 (wrap u32 (getD p0 (toNat (wrap i64 (wrap i64 (4 * p1) + 1))) 0) * 65536))) (wrap u32 (wrap u32 (getD p0 (toNat (wrap i64 (wrap i64 (4 * p1) + 2))) 0) * 256))) (wrap u32 (getD p0 (toNat (wrap i64 (wrap i64 (4 * p1) + 3))) 0))))))))))) else K1 (Ex.exit 0) (X_101_0_0 p2 p3 p4) := by kernel_rfl
theorem Bgd_101_0 {R : Type} {c : Bool} {x : Option R} {y : Option E_101_0} {k0 : List Int → List Int → List Int → Option R} (h : x = B_101_0 y k0) : gd c x = B_101_0 (gd c y) k0 := by cases c; rfl; exact h
theorem Bcond_101_0 {R : Type} {c : Bool} {x x' : Option R} {y y' : Option E_101_0} {k0 : List Int → List Int → List Int → Option R} (h : x = B_101_0 y k0) (h' : x' = B_101_0 y' k0) : (bif c then x else x') = B_101_0 (bif c then y else y') k0 := by cases c; exact h'; exact h
theorem loop_101_0 {R : Type} (k : Ex → St → Option R) : ∀ (m : Nat) (p0 : List Int) (p1 : Int) (p2 : List Int) (p3 : List Int) (p4 : List Int), evLoopN (evCodeL sm_101 FU (ovr noO (evFn sm_101 fns FU 0)) .nil ir101_b0) (St.norm ir101_v0) m (T_101_0 p0 p1 p2 p3 p4) k = B_101_0 (L_101_0 m p0 p1 p2 p3 p4) (fun p2 p3 p4 => k (Ex.exit (0 : Nat)) (X_101_0_0 p2 p3 p4))
 | 0, _, _, _, _, _ => rfl
 | m + 1, p0, p1, p2, p3, p4 => by
   rw [evLoopN_succ, body_101_0, L_101_0]
   repeat' first | apply Bgd_101_0 | apply Bcond_101_0 | exact loop_101_0 k m _ _ _ _ _ | rfl
theorem ok_101_0 {R : Type} (T : St) (k : Ex → St → Option R) (r : R) (h0 : o_101_0 G_101_0 T k = some r) : evLoopN (evCode sm_101 FU (evFn sm_101 fns FU 0) ir101_b0) (St.norm ir101_v0) FU T k = some r := by
 obtain ⟨p0, p1, p2, p3, p4, rfl, h⟩ := o_101_0_inv h0
 refine evLoopN_L (t := .nil) noO_ok trivial _ _ _ _ ?_
 rw [loop_101_0]
 exact h
theorem OK_101_101_0 {R : Type} (T : St) (k : Ex → St → Option R) (r : R) (h : O_101_101_0 T k = some r) : evLoopN (evCode sm_101 FU (evFn sm_101 fns FU 0) ir101_b0) (St.norm ir101_v0) FU T k = some r := ok_101_0 T k r h
theorem body_101_1 {R : Type} (K0 : St → Option R) (K1 : Ex → St → Option R) (p0 : Int) (p1 p2 p3 : List Int) : evLB (evCodeL sm_101 FU (ovr noO (evFn sm_101 fns FU 0)) .nil ir101_b1) (St.norm ir101_v1) (T_101_1 p0 p1 p2 p3) K0 K1 =
 bif decide (p0 < 64) then gd (inB (wrap i64 (p0 - 15)) 64) (gd (decide (toNat (wrap i64 (p0 - 15)) < 64) && true) (gd (inB (wrap i64 (p0 - 2)) 64) (gd (decide (toNat (wrap i64 (p0 - 2)) < 64) && true) (gd (p_105 (getD p3 (toNat (wrap i64 (p0 - 2))) 0) 17) (gd (p_105 (getD p3 (toNat (wrap i64 (p0 - 2))) 0) 19) (gd (inB (wrap i64 (p0 - 7)) 64) (gd (decide (toNat (wrap i64 (p0 - 7)) < 64) && true) (gd (p_105 (getD p3 (toNat (wrap i64 (p0 - 15))) 0) 7) (gd (p_105 (getD p3 (toNat (wrap i64 (p0 - 15))) 0) 18) (gd (inB (wrap i64 (p0 - 16)) 64) (gd (decide (toNat (wrap i64 (p0 - 16)) < 64) && true) (gd (inB p0 64) (gd (decide (toNat p0 < 64) && true) (K0 (T_101_1 (wrap i64 (p0 + 1)) p1 p2 (List.set p3 (toNat p0) (wrap u32 (wrap u32 (wrap u32 (Sp.xorI u32 (Sp.xorI u32 ((v_105 (getD p3 (toNat (wrap i64 (p0 - 2))) 0) 17).1) ((v_105 (getD p3 (toNat (wrap i64 (p0 - 2))) 0) 19).1)) (Int.fdiv (getD p3 (toNat (wrap i64 (p0 - 2))) 0) 1024) + getD p3 (toNat (wrap i64 (p0 - 7))) 0) + Sp.xorI u32 (Sp.xorI u32 ((v_105 (getD p3 (toNat (wrap i64 (p0 - 15))) 0) 7).1) ((v_105 (getD p3 (toNat (wrap i64 (p0 - 15))) 0) 18).1)) (Int.fdiv (getD p3 (toNat (wrap i64 (p0 - 15))) 0) 8)) + getD p3 (toNat (wrap i64 (p0 - 16))) 0)))))))))))))))))) else K1 (Ex.exit 2) (X_101_1_0 p1 p2 p3) := by kernel_rfl
theorem Bgd_101_1 {R : Type} {c : Bool} {x : Option R} {y : Option E_101_1} {k0 : List Int → List Int → List Int → Option R} (h : x = B_101_1 y k0) : gd c x = B_101_1 (gd c y) k0 := by cases c; rfl; exact h
theorem Bcond_101_1 {R : Type} {c : Bool} {x x' : Option R} {y y' : Option E_101_1} {k0 : List Int → List Int → List Int → Option R} (h : x = B_101_1 y k0) (h' : x' = B_101_1 y' k0) : (bif c then x else x') = B_101_1 (bif c then y else y') k0 := by cases c; exact h'; exact h
theorem loop_101_1 {R : Type} (k : Ex → St → Option R) : ∀ (m : Nat) (p0 : Int) (p1 : List Int) (p2 : List Int) (p3 : List Int), evLoopN (evCodeL sm_101 FU (ovr noO (evFn sm_101 fns FU 0)) .nil ir101_b1) (St.norm ir101_v1) m (T_101_1 p0 p1 p2 p3) k = B_101_1 (L_101_1 m p0 p1 p2 p3) (fun p1 p2 p3 => k (Ex.exit (2 : Nat)) (X_101_1_0 p1 p2 p3))
 | 0, _, _, _, _ => rfl
 | m + 1, p0, p1, p2, p3 => by
   rw [evLoopN_succ, body_101_1, L_101_1]
   repeat' first | apply Bgd_101_1 | apply Bcond_101_1 | exact loop_101_1 k m _ _ _ _ | rfl
theorem ok_101_1 {R : Type} (T : St) (k : Ex → St → Option R) (r : R) (h0 : o_101_1 G_101_1 T k = some r) : evLoopN (evCode sm_101 FU (evFn sm_101 fns FU 0) ir101_b1) (St.norm ir101_v1) FU T k = some r := by
 obtain ⟨p0, p1, p2, p3, rfl, h⟩ := o_101_1_inv h0
 refine evLoopN_L (t := .nil) noO_ok trivial _ _ _ _ ?_
 rw [loop_101_1]
 exact h
theorem OK_101_101_1 {R : Type} (T : St) (k : Ex → St → Option R) (r : R) (h : O_101_101_1 T k = some r) : evLoopN (evCode sm_101 FU (evFn sm_101 fns FU 0) ir101_b1) (St.norm ir101_v1) FU T k = some r := ok_101_1 T k r h
theorem body_101_2 {R : Type} (K0 : St → Option R) (K1 : Ex → St → Option R) (p0 : Int) (p1 p2 p3 p4 p5 : List Int) : evLB (evCodeL sm_101 FU (ovr noO (evFn sm_101 fns FU 0)) .nil ir101_b2) (St.norm ir101_v2) (T_101_2 p0 p1 p2 p3 p4 p5) K0 K1 =
 bif decide (p0 < 64) then gd (p_105 (getD p5 4 0) 6) (gd (p_105 (getD p5 4 0) 11) (gd (p_105 (getD p5 4 0) 25) (gd (inB p0 64) (gd (decide (toNat p0 < 64) && true) (gd (inB p0 64) (gd (decide (toNat p0 < 64) && true) (gd (p_105 (getD p5 0 0) 2) (gd (p_105 (getD p5 0 0) 13) (gd (p_105 (getD p5 0 0) 22) (K0 (T_101_2 (wrap i64 (p0 + 1)) p1 p2 p3 p4 [wrap u32 (wrap u32 (wrap u32 (wrap u32 (wrap u32 (getD p5 7 0 + Sp.xorI u32 (Sp.xorI u32 ((v_105 (getD p5 4 0) 6).1) ((v_105 (getD p5 4 0) 11).1)) ((v_105 (getD p5 4 0) 25).1)) + Sp.xorI u32 (Sp.andI u32 (getD p5 4 0) (getD p5 5 0)) (Sp.andI u32 (Sp.xorI u32 4294967295 (getD p5 4 0)) (getD p5 6 0))) + getD p4 (toNat p0) 0) + getD p3 (toNat p0) 0) + wrap u32 (Sp.xorI u32 (Sp.xorI u32 ((v_105 (getD p5 0 0) 2).1) ((v_105 (getD p5 0 0) 13).1)) ((v_105 (getD p5 0 0) 22).1) + Sp.xorI u32 (Sp.xorI u32 (Sp.andI u32 (getD p5 0 0) (getD p5 1 0)) (Sp.andI u32 (getD p5 0 0) (getD p5 2 0))) (Sp.andI u32 (getD p5 1 0) (getD p5 2 0)))), getD p5 0 0, getD p5 1 0, getD p5 2 0, wrap u32 (getD p5 3 0 + wrap u32 (wrap u32 (wrap u32 (wrap u32 (getD p5 7 0 + Sp.xorI u32 (Sp.xorI u32 ((v_105 (getD p5 4 0) 6).1) ((v_105 (getD p5 4 0) 11).1)) ((v_105 (getD p5 4 0) 25).1)) + Sp.xorI u32 (Sp.andI u32 (getD p5 4 0) (getD p5 5 0)) (Sp.andI u32 (Sp.xorI u32 4294967295 (getD p5 4 0)) (getD p5 6 0))) + getD p4 (toNat p0) 0) + getD p3 (toNat p0) 0)), getD p5 4 0, getD p5 5 0, getD p5 6 0]))))))))))) else K1 (Ex.exit 4) (X_101_2_0 p1 p2 p5) := by kernel_rfl
theorem Bgd_101_2 {R : Type} {c : Bool} {x : Option R} {y : Option E_101_2} {k0 : List Int → List Int → List Int → Option R} (h : x = B_101_2 y k0) : gd c x = B_101_2 (gd c y) k0 := by cases c; rfl; exact h
theorem Bcond_101_2 {R : Type} {c : Bool} {x x' : Option R} {y y' : Option E_101_2} {k0 : List Int → List Int → List Int → Option R} (h : x = B_101_2 y k0) (h' : x' = B_101_2 y' k0) : (bif c then x else x') = B_101_2 (bif c then y else y') k0 := by cases c; exact h'; exact h
theorem loop_101_2 {R : Type} (k : Ex → St → Option R) : ∀ (m : Nat) (p0 : Int) (p1 : List Int) (p2 : List Int) (p3 : List Int) (p4 : List Int) (p5 : List Int), evLoopN (evCodeL sm_101 FU (ovr noO (evFn sm_101 fns FU 0)) .nil ir101_b2) (St.norm ir101_v2) m (T_101_2 p0 p1 p2 p3 p4 p5) k = B_101_2 (L_101_2 m p0 p1 p2 p3 p4 p5) (fun p1 p2 p5 => k (Ex.exit (4 : Nat)) (X_101_2_0 p1 p2 p5))
 | 0, _, _, _, _, _, _ => rfl
 | m + 1, p0, p1, p2, p3, p4, p5 => by
   rw [evLoopN_succ, body_101_2, L_101_2]
   repeat' first | apply Bgd_101_2 | apply Bcond_101_2 | exact loop_101_2 k m _ _ _ _ _ _ | rfl
theorem ok_101_2 {R : Type} (T : St) (k : Ex → St → Option R) (r : R) (h0 : o_101_2 G_101_2 T k = some r) : evLoopN (evCode sm_101 FU (evFn sm_101 fns FU 0) ir101_b2) (St.norm ir101_v2) FU T k = some r := by
 obtain ⟨p0, p1, p2, p3, p4, p5, rfl, h⟩ := o_101_2_inv h0
 refine evLoopN_L (t := .nil) noO_ok trivial _ _ _ _ ?_
 rw [loop_101_2]
 exact h
theorem OK_101_101_2 {R : Type} (T : St) (k : Ex → St → Option R) (r : R) (h : O_101_101_2 T k = some r) : evLoopN (evCode sm_101 FU (evFn sm_101 fns FU 0) ir101_b2) (St.norm ir101_v2) FU T k = some r := ok_101_2 T k r h
theorem body_101_3 {R : Type} (K0 : St → Option R) (K1 : Ex → St → Option R) (p0 : Int) (p1 p2 p3 : List Int) : evLB (evCodeL sm_101 FU (ovr noO (evFn sm_101 fns FU 0)) .nil ir101_b3) (St.norm ir101_v3) (T_101_3 p0 p1 p2 p3) K0 K1 =
 bif decide (p0 < 8) then gd (inB p0 8) (gd (decide (toNat p0 < 8) && true) (gd (inB p0 8) (gd (decide (toNat p0 < 8) && true) (gd (inB p0 8) (gd (decide (toNat p0 < 8) && true) (K0 (T_101_3 (wrap i64 (p0 + 1)) (List.set p1 (toNat p0) (wrap u32 (getD p1 (toNat p0) 0 + getD p3 (toNat p0) 0))) p2 p3))))))) else K1 (Ex.exit 6) (X_101_3_0 p1 p2) := by kernel_rfl
theorem Bgd_101_3 {R : Type} {c : Bool} {x : Option R} {y : Option E_101_3} {k0 : List Int → List Int → Option R} (h : x = B_101_3 y k0) : gd c x = B_101_3 (gd c y) k0 := by cases c; rfl; exact h
theorem Bcond_101_3 {R : Type} {c : Bool} {x x' : Option R} {y y' : Option E_101_3} {k0 : List Int → List Int → Option R} (h : x = B_101_3 y k0) (h' : x' = B_101_3 y' k0) : (bif c then x else x') = B_101_3 (bif c then y else y') k0 := by cases c; exact h'; exact h
theorem loop_101_3 {R : Type} (k : Ex → St → Option R) : ∀ (m : Nat) (p0 : Int) (p1 : List Int) (p2 : List Int) (p3 : List Int), evLoopN (evCodeL sm_101 FU (ovr noO (evFn sm_101 fns FU 0)) .nil ir101_b3) (St.norm ir101_v3) m (T_101_3 p0 p1 p2 p3) k = B_101_3 (L_101_3 m p0 p1 p2 p3) (fun p1 p2 => k (Ex.exit (6 : Nat)) (X_101_3_0 p1 p2))
 | 0, _, _, _, _ => rfl
 | m + 1, p0, p1, p2, p3 => by
   rw [evLoopN_succ, body_101_3, L_101_3]
   repeat' first | apply Bgd_101_3 | apply Bcond_101_3 | exact loop_101_3 k m _ _ _ _ | rfl
theorem ok_101_3 {R : Type} (T : St) (k : Ex → St → Option R) (r : R) (h0 : o_101_3 G_101_3 T k = some r) : evLoopN (evCode sm_101 FU (evFn sm_101 fns FU 0) ir101_b3) (St.norm ir101_v3) FU T k = some r := by
 obtain ⟨p0, p1, p2, p3, rfl, h⟩ := o_101_3_inv h0
 refine evLoopN_L (t := .nil) noO_ok trivial _ _ _ _ ?_
 rw [loop_101_3]
 exact h
theorem OK_101_101_3 {R : Type} (T : St) (k : Ex → St → Option R) (r : R) (h : O_101_101_3 T k = some r) : evLoopN (evCode sm_101 FU (evFn sm_101 fns FU 0) ir101_b3) (St.norm ir101_v3) FU T k = some r := ok_101_3 T k r h
noncomputable def F_101 (a0 a1 : (List Int)) : Option ((List Int) × Unit) :=
 B_101_0 (L_101_0 4611686018427387904 a1 0 a0 (replicate 8 (0 :Int)) (replicate 64 (0 :Int))) fun y11 y12 y13 => B_101_1 (L_101_1 4611686018427387904 16 y11 y12 y13) fun y14 y15 y16 => gd p_106 (B_101_2 (L_101_2 4611686018427387904 0 y14 y15 y16 (v_106.1) y14) fun y17 y18 y19 => B_101_3 (L_101_3 4611686018427387904 0 y17 y18 y19) fun y20 y21 => some (y20, PUnit.unit))
theorem fn_101 (a0 a1 : (List Int)) : evFnL sm_101 FU (ovr noO (evFn sm_101 fns FU 0)) (ir101_t O_101_101_0 O_101_101_1 O_101_101_2 O_101_101_3) ir101 (ofH [(.arr 8 (.int .u32)), (.slice (.int .u8))] (a0, a1, ())) [] (pureK [(.arr 8 (.int .u32))]) = F_101 a0 a1 := by kernel_rfl
noncomputable def Sp.p_101 (a0 a1 : (List Int)) : Bool := (F_101 a0 a1).isSome
noncomputable def Sp.v_101 (a0 a1 : (List Int)) : (List Int) × Unit := (F_101 a0 a1).getD (dfH [(.arr 8 (.int .u32))])
noncomputable def s_101 : Summ := shN [(.arr 8 (.int .u32)), (.slice (.int .u8))] [(.arr 8 (.int .u32))] (fun x => p_101 x.1 x.2.1) (fun x => v_101 x.1 x.2.1)
theorem pv_101 (a0 a1 : (List Int)) {y : (List Int) × Unit} (h : F_101 a0 a1 = some y) : p_101 a0 a1 = true ∧ v_101 a0 a1 = y := ⟨by rw [p_101, h]; rfl, by rw [v_101, h]; rfl⟩
theorem run_101 (x : HDen [(.arr 8 (.int .u32)), (.slice (.int .u8))]) (y : HDen [(.arr 8 (.int .u32))]) (h : F_101 x.1 x.2.1 = some y) : evFn sm_101 fns FU 1 101 (ofH [(.arr 8 (.int .u32)), (.slice (.int .u8))] x) [] (pureK [(.arr 8 (.int .u32))]) = some y :=
 evFnL_sound (fn := ir101) (t := (ir101_t O_101_101_0 O_101_101_1 O_101_101_2 O_101_101_3)) (o := noO) rfl noO_ok (ir101_tok (fun T k r => OK_101_101_0 T k r) (fun T k r => OK_101_101_1 T k r) (fun T k r => OK_101_101_2 T k r) (fun T k r => OK_101_101_3 T k r)) ((fn_101 _ _).trans h)
end
noncomputable section
abbrev Zy83_0 : Ty := (Ty.arr (32 : Nat) (Ty.int u8))
abbrev Zy83_1 : Ty := (Ty.arr (8 : Nat) (Ty.int u32))
noncomputable def sm_83 : Nat → Option Summ := fun f => bif Nat.beq f 100 then some s_100 else bif Nat.beq f 101 then some s_101 else none
noncomputable def T_83_0 (p0 : List Int) (p1 : Int) (p2 p3 : List Int) : St := St.mk ([jk, jk, CV.ptr 0 [], CV.ptr 1 [], CV.pure (Ty.slice (Ty.int u8)) p0, CV.int i64 p1] ++ (jl 36)) [Blk.mem (CV.pure Zy83_0 p2), Blk.mem (CV.pure Zy83_1 p3)] 0
noncomputable def X_83_0_0 (p2 p3 : List Int) : St := St.mk ([jk, jk, CV.ptr 0 [], CV.ptr 1 []] ++ (jl 38)) [Blk.mem (CV.pure Zy83_0 p2), Blk.mem (CV.pure Zy83_1 p3)] 0
inductive Sp.E_83_0 where
 | e0 (p2 p3 : List Int)
noncomputable def Sp.B_83_0 {R : Type} (r : Option E_83_0) (k0 : List Int → List Int → Option R) : Option R := match r with
 | none => none
 | some (.e0 p2 p3) => k0 p2 p3
noncomputable def Sp.L_83_0 : Nat → List Int → Int → List Int → List Int → Option E_83_0
 | 0, _, _, _, _ => none
 | m + 1, p0, p1, p2, p3 => bif decide (p1 < (↑(length p0) : Int)) then gd (sl3 p1 (wrap i64 (p1 + 64)) (↑(length p0) : Int)) (gd (p_101 p3 (take (toNat (wrap i64 (p1 + 64)) - toNat p1) (drop (toNat p1) p0))) (L_83_0 m p0 (wrap i64 (p1 + 64)) p2 ((v_101 p3 (take (toNat (wrap i64 (p1 + 64)) - toNat p1) (drop (toNat p1) p0))).1))) else some (E_83_0.e0 p2 p3)
noncomputable def G_83_0 {R : Type} (p0 : List Int) (p1 : Int) (p2 p3 : List Int) (k : Ex → St → Option R) : Option R := B_83_0 (L_83_0 FU p0 p1 p2 p3) (fun p2 p3 => k (Ex.exit 0) (X_83_0_0 p2 p3))
noncomputable def o_83_0 {R : Type} (G : List Int → Int → List Int → List Int → (Ex → St → Option R) → Option R) : St → (Ex → St → Option R) → Option R := fun T k => match T.sl.getD 2 .junk, T.sl.getD 3 .junk, T.sl.getD 4 .junk, T.sl.getD 5 .junk, T.hp with
 | CV.ptr 0 [], CV.ptr 1 [], CV.pure (Ty.slice (Ty.int u8)) p0, CV.int i64 p1, ((Blk.mem (CV.pure (Ty.arr 32 (Ty.int u8)) p2)) :: (Blk.mem (CV.pure (Ty.arr 8 (Ty.int u32)) p3)) :: []) => gd (shapeOK T 42 [2, 3, 4, 5] 0) (G p0 p1 p2 p3 k)
 | _, _, _, _, _ => none
theorem o_83_0_inv {R : Type} {G : List Int → Int → List Int → List Int → (Ex → St → Option R) → Option R} {T : St} {k : Ex → St → Option R} {r : R} (h : o_83_0 G T k = some r) : ∃ p0 p1 p2 p3, T = T_83_0 p0 p1 p2 p3 ∧ G p0 p1 p2 p3 k = some r := by
 unfold o_83_0 at h
 split at h
 · obtain ⟨hs, h'⟩ := gd_some h
   refine ⟨_, _, _, _, (st_of (asg := [(2, _), (3, _), (4, _), (5, _)]) hs ⟨by assumption, by assumption, by assumption, by assumption, trivial⟩ (by assumption)).trans ?_, h'⟩
   kernel_rfl
 · cases h
noncomputable def T_83_1 (p0 : Int) (p1 p2 p3 : List Int) : St := St.mk ([jk, jk, CV.ptr 0 [], CV.ptr 1 [], jk, jk, CV.ptr 2 [], CV.int i64 p0] ++ (jl 34)) [Blk.mem (CV.pure Zy83_0 p1), Blk.mem (CV.pure Zy83_1 p2), Blk.mem (CV.pure Zy83_0 p3)] 0
noncomputable def X_83_1_0 (p1 p3 : List Int) : St := St.mk ([jk, jk, CV.ptr 0 [], jk, jk, jk, CV.ptr 1 []] ++ (jl 35)) [Blk.mem (CV.pure Zy83_0 p1), Blk.mem (CV.pure Zy83_0 p3)] 0
inductive Sp.E_83_1 where
 | e0 (p1 p3 : List Int)
noncomputable def Sp.B_83_1 {R : Type} (r : Option E_83_1) (k0 : List Int → List Int → Option R) : Option R := match r with
 | none => none
 | some (.e0 p1 p3) => k0 p1 p3
noncomputable def Sp.L_83_1 : Nat → Int → List Int → List Int → List Int → Option E_83_1
 | 0, _, _, _, _ => none
 | m + 1, p0, p1, p2, p3 => bif decide (p0 < 32) then gd (inB (wrap i64 (Int.tdiv p0 4)) 8) (gd (decide (toNat (wrap i64 (Int.tdiv p0 4)) < 8) && true) (gd (decide (0 ≤ wrap u64 (wrap i64 (24 - wrap i64 (Int.tmod p0 (4 :Int) * (8 :Int)))))) (gd (inB p0 32) (gd (decide (toNat p0 < 32) && true) (L_83_1 m (wrap i64 (p0 + 1)) p1 p2 (List.set p3 (toNat p0) (wrap u8 (Int.fdiv (getD p2 (toNat (wrap i64 (Int.tdiv p0 4))) 0) (2 ^ Nat.min (toNat (wrap u64 (wrap i64 (24 - wrap i64 (Int.tmod p0 (4 :Int) * (8 :Int)))))) 32))))))))) else some (E_83_1.e0 p1 p3)
noncomputable def G_83_1 {R : Type} (p0 : Int) (p1 p2 p3 : List Int) (k : Ex → St → Option R) : Option R := B_83_1 (L_83_1 FU p0 p1 p2 p3) (fun p1 p3 => k (Ex.exit 2) (X_83_1_0 p1 p3))
noncomputable def o_83_1 {R : Type} (G : Int → List Int → List Int → List Int → (Ex → St → Option R) → Option R) : St → (Ex → St → Option R) → Option R := fun T k => match T.sl.getD 2 .junk, T.sl.getD 3 .junk, T.sl.getD 6 .junk, T.sl.getD 7 .junk, T.hp with
 | CV.ptr 0 [], CV.ptr 1 [], CV.ptr 2 [], CV.int i64 p0, ((Blk.mem (CV.pure (Ty.arr 32 (Ty.int u8)) p1)) :: (Blk.mem (CV.pure (Ty.arr 8 (Ty.int u32)) p2)) :: (Blk.mem (CV.pure (Ty.arr 32 (Ty.int u8)) p3)) :: []) => gd (shapeOK T 42 [2, 3, 6, 7] 0) (G p0 p1 p2 p3 k)
 | _, _, _, _, _ => none
theorem o_83_1_inv {R : Type} {G : Int → List Int → List Int → List Int → (Ex → St → Option R) → Option R} {T : St} {k : Ex → St → Option R} {r : R} (h : o_83_1 G T k = some r) : ∃ p0 p1 p2 p3, T = T_83_1 p0 p1 p2 p3 ∧ G p0 p1 p2 p3 k = some r := by
 unfold o_83_1 at h
 split at h
 · obtain ⟨hs, h'⟩ := gd_some h
   refine ⟨_, _, _, _, (st_of (asg := [(2, _), (3, _), (6, _), (7, _)]) hs ⟨by assumption, by assumption, by assumption, by assumption, trivial⟩ (by assumption)).trans ?_, h'⟩
   kernel_rfl
 · cases h
noncomputable def O_83_83_0 {R : Type} : St → (Ex → St → Option R) → Option R := fun T k => o_83_0 G_83_0 T k
noncomputable def O_83_83_1 {R : Type} : St → (Ex → St → Option R) → Option R := fun T k => o_83_1 G_83_1 T k
theorem body_83_0 {R : Type} (K0 : St → Option R) (K1 : Ex → St → Option R) (p0 : List Int) (p1 : Int) (p2 p3 : List Int) : evLB (evCodeL sm_83 FU (ovr noO (evFn sm_83 fns FU 0)) .nil ir83_b0) (St.norm ir83_v0) (T_83_0 p0 p1 p2 p3) K0 K1 =
 bif decide (p1 < (↑(length p0) : Int)) then gd (sl3 p1 (wrap i64 (p1 + 64)) (↑(length p0) : Int)) (gd (p_101 p3 (take (toNat (wrap i64 (p1 + 64)) - toNat p1) (drop (toNat p1) p0))) (K0 (T_83_0 p0 (wrap i64 (p1 + 64)) p2 ((v_101 p3 (take (toNat (wrap i64 (p1 + 64)) - toNat p1) (drop (toNat p1) p0))).1)))) else K1 (Ex.exit 0) (X_83_0_0 p2 p3) := by kernel_rfl
theorem Bgd_83_0 {R : Type} {c : Bool} {x : Option R} {y : Option E_83_0} {k0 : List Int → List Int → Option R} (h : x = B_83_0 y k0) : gd c x = B_83_0 (gd c y) k0 := by cases c; rfl; exact h
theorem Bcond_83_0 {R : Type} {c : Bool} {x x' : Option R} {y y' : Option E_83_0} {k0 : List Int → List Int → Option R} (h : x = B_83_0 y k0) (h' : x' = B_83_0 y' k0) : (bif c then x else x') = B_83_0 (bif c then y else y') k0 := by cases c; exact h'; exact h
theorem loop_83_0 {R : Type} (k : Ex → St → Option R) : ∀ (m : Nat) (p0 : List Int) (p1 : Int) (p2 : List Int) (p3 : List Int), evLoopN (evCodeL sm_83 FU (ovr noO (evFn sm_83 fns FU 0)) .nil ir83_b0) (St.norm ir83_v0) m (T_83_0 p0 p1 p2 p3) k = B_83_0 (L_83_0 m p0 p1 p2 p3) (fun p2 p3 => k (Ex.exit (0 : Nat)) (X_83_0_0 p2 p3))
 | 0, _, _, _, _ => rfl
 | m + 1, p0, p1, p2, p3 => by
   rw [evLoopN_succ, body_83_0, L_83_0]
   repeat' first | apply Bgd_83_0 | apply Bcond_83_0 | exact loop_83_0 k m _ _ _ _ | rfl
theorem ok_83_0 {R : Type} (T : St) (k : Ex → St → Option R) (r : R) (h0 : o_83_0 G_83_0 T k = some r) : evLoopN (evCode sm_83 FU (evFn sm_83 fns FU 0) ir83_b0) (St.norm ir83_v0) FU T k = some r := by
 obtain ⟨p0, p1, p2, p3, rfl, h⟩ := o_83_0_inv h0
 refine evLoopN_L (t := .nil) noO_ok trivial _ _ _ _ ?_
 rw [loop_83_0]
 exact h
theorem OK_83_83_0 {R : Type} (T : St) (k : Ex → St → Option R) (r : R) (h : O_83_83_0 T k = some r) : evLoopN (evCode sm_83 FU (evFn sm_83 fns FU 0) ir83_b0) (St.norm ir83_v0) FU T k = some r := ok_83_0 T k r h
theorem body_83_1 {R : Type} (K0 : St → Option R) (K1 : Ex → St → Option R) (p0 : Int) (p1 p2 p3 : List Int) : evLB (evCodeL sm_83 FU (ovr noO (evFn sm_83 fns FU 0)) .nil ir83_b1) (St.norm ir83_v1) (T_83_1 p0 p1 p2 p3) K0 K1 =
 bif decide (p0 < 32) then gd (inB (wrap i64 (Int.tdiv p0 4)) 8) (gd (decide (toNat (wrap i64 (Int.tdiv p0 4)) < 8) && true) (gd (decide (0 ≤ wrap u64 (wrap i64 (24 - wrap i64 (Int.tmod p0 (4 :Int) * (8 :Int)))))) (gd (inB p0 32) (gd (decide (toNat p0 < 32) && true) (K0 (T_83_1 (wrap i64 (p0 + 1)) p1 p2 (List.set p3 (toNat p0) (wrap u8 (Int.fdiv (getD p2 (toNat (wrap i64 (Int.tdiv p0 4))) 0) (2 ^ Nat.min (toNat (wrap u64 (wrap i64 (24 - wrap i64 (Int.tmod p0 (4 :Int) * (8 :Int)))))) 32)))))))))) else K1 (Ex.exit 2) (X_83_1_0 p1 p3) := by kernel_rfl
theorem Bgd_83_1 {R : Type} {c : Bool} {x : Option R} {y : Option E_83_1} {k0 : List Int → List Int → Option R} (h : x = B_83_1 y k0) : gd c x = B_83_1 (gd c y) k0 := by cases c; rfl; exact h
theorem Bcond_83_1 {R : Type} {c : Bool} {x x' : Option R} {y y' : Option E_83_1} {k0 : List Int → List Int → Option R} (h : x = B_83_1 y k0) (h' : x' = B_83_1 y' k0) : (bif c then x else x') = B_83_1 (bif c then y else y') k0 := by cases c; exact h'; exact h
theorem loop_83_1 {R : Type} (k : Ex → St → Option R) : ∀ (m : Nat) (p0 : Int) (p1 : List Int) (p2 : List Int) (p3 : List Int), evLoopN (evCodeL sm_83 FU (ovr noO (evFn sm_83 fns FU 0)) .nil ir83_b1) (St.norm ir83_v1) m (T_83_1 p0 p1 p2 p3) k = B_83_1 (L_83_1 m p0 p1 p2 p3) (fun p1 p3 => k (Ex.exit (2 : Nat)) (X_83_1_0 p1 p3))
 | 0, _, _, _, _ => rfl
 | m + 1, p0, p1, p2, p3 => by
   rw [evLoopN_succ, body_83_1, L_83_1]
   repeat' first | apply Bgd_83_1 | apply Bcond_83_1 | exact loop_83_1 k m _ _ _ _ | rfl
theorem ok_83_1 {R : Type} (T : St) (k : Ex → St → Option R) (r : R) (h0 : o_83_1 G_83_1 T k = some r) : evLoopN (evCode sm_83 FU (evFn sm_83 fns FU 0) ir83_b1) (St.norm ir83_v1) FU T k = some r := by
 obtain ⟨p0, p1, p2, p3, rfl, h⟩ := o_83_1_inv h0
 refine evLoopN_L (t := .nil) noO_ok trivial _ _ _ _ ?_
 rw [loop_83_1]
 exact h
theorem OK_83_83_1 {R : Type} (T : St) (k : Ex → St → Option R) (r : R) (h : O_83_83_1 T k = some r) : evLoopN (evCode sm_83 FU (evFn sm_83 fns FU 0) ir83_b1) (St.norm ir83_v1) FU T k = some r := ok_83_1 T k r h
noncomputable def F_83 (a0 : (List Int)) : Option ((List Int) × Unit) :=
 gd (p_100 a0) (B_83_0 (L_83_0 4611686018427387904 ((v_100 a0).1) 0 (replicate 32 (0 :Int)) [1779033703, 3144134277, 1013904242, 2773480762, 1359893119, 2600822924, 528734635, 1541459225]) fun y4 y5 => B_83_1 (L_83_1 4611686018427387904 0 y4 y5 (replicate 32 (0 :Int))) fun y6 y7 => some (y7, PUnit.unit))
theorem fn_83 (a0 : (List Int)) : evFnL sm_83 FU (ovr noO (evFn sm_83 fns FU 0)) (ir83_t O_83_83_0 O_83_83_1) ir83 (ofH [(.slice (.int .u8))] (a0, ())) [] (pureK [(.arr 32 (.int .u8))]) = F_83 a0 := by kernel_rfl
noncomputable def Sp.p_83 (a0 : (List Int)) : Bool := (F_83 a0).isSome
noncomputable def Sp.v_83 (a0 : (List Int)) : (List Int) × Unit := (F_83 a0).getD (dfH [(.arr 32 (.int .u8))])
noncomputable def s_83 : Summ := shN [(.slice (.int .u8))] [(.arr 32 (.int .u8))] (fun x => p_83 x.1) (fun x => v_83 x.1)
theorem pv_83 (a0 : (List Int)) {y : (List Int) × Unit} (h : F_83 a0 = some y) : p_83 a0 = true ∧ v_83 a0 = y := ⟨by rw [p_83, h]; rfl, by rw [v_83, h]; rfl⟩
theorem run_83 (x : HDen [(.slice (.int .u8))]) (y : HDen [(.arr 32 (.int .u8))]) (h : F_83 x.1 = some y) : evFn sm_83 fns FU 1 83 (ofH [(.slice (.int .u8))] x) [] (pureK [(.arr 32 (.int .u8))]) = some y :=
 evFnL_sound (fn := ir83) (t := (ir83_t O_83_83_0 O_83_83_1)) (o := noO) rfl noO_ok (ir83_tok (fun T k r => OK_83_83_0 T k r) (fun T k r => OK_83_83_1 T k r)) ((fn_83 _).trans h)
end
noncomputable section
abbrev Zy49_0 : Ty := (Ty.arr (32 : Nat) (Ty.int u8))
abbrev Zy49_1 : Ty := (Ty.slice (Ty.int u32))
noncomputable def sm_49 : Nat → Option Summ := fun f => bif Nat.beq f 83 then some s_83 else none
noncomputable def T_49_82_1_0 (p0 p1 : Int) (p2 p3 p4 : List Int) : St := St.mk ([CV.whole 2, CV.whole 1, jk, jk, jk, CV.int i64 p0, CV.int i64 p1] ++ (jl 23)) [Blk.mem (CV.pure Zy49_0 p2), Blk.vec 42 (Ty.int u32) p3, Blk.vec 5 (Ty.int u8) p4] 2
noncomputable def X_49_82_1_0_0 (p0 : Int) (p2 p3 p4 : List Int) : St := St.mk ([CV.whole 2, CV.whole 1, jk, jk, jk, CV.int i64 p0] ++ (jl 24)) [Blk.mem (CV.pure Zy49_0 p2), Blk.vec 42 (Ty.int u32) p3, Blk.vec 5 (Ty.int u8) p4] 2
inductive Sp.E_49_82_1_0 where
 | e0 (p0 : Int) (p2 p3 p4 : List Int)
noncomputable def Sp.B_49_82_1_0 {R : Type} (r : Option E_49_82_1_0) (k0 : Int → List Int → List Int → List Int → Option R) : Option R := match r with
 | none => none
 | some (.e0 p0 p2 p3 p4) => k0 p0 p2 p3 p4
noncomputable def Sp.L_49_82_1_0 : Nat → Int → Int → List Int → List Int → List Int → Option E_49_82_1_0
 | 0, _, _, _, _, _ => none
 | m + 1, p0, p1, p2, p3, p4 => bif decide (p1 < 4) then gd (inB p0 (length p3)) (gd (decide (toNat p0 < length p3) && true) (gd (decide (0 ≤ wrap i64 (24 - wrap i64 (8 * p1)))) (gd (room (length p4 + 1) 1) (L_49_82_1_0 m p0 (wrap i64 (p1 + 1)) p2 p3 (p4 ++ [wrap u8 (Int.fdiv (getD p3 (toNat p0) 0) (2 ^ Nat.min (toNat (wrap i64 (24 - wrap i64 (8 * p1)))) 32))]))))) else some (E_49_82_1_0.e0 p0 p2 p3 p4)
noncomputable def G_49_82_1_0 {R : Type} (p0 p1 : Int) (p2 p3 p4 : List Int) (k : Ex → St → Option R) : Option R := B_49_82_1_0 (L_49_82_1_0 FU p0 p1 p2 p3 p4) (fun p0 p2 p3 p4 => k (Ex.exit 2) (X_49_82_1_0_0 p0 p2 p3 p4))
noncomputable def m_49_82_1_0 : St → Bool := fun T => match T.sl.getD 0 .junk, T.sl.getD 1 .junk, T.sl.getD 5 .junk, T.sl.getD 6 .junk, T.hp with
 | CV.whole 2, CV.whole 1, CV.int i64 p0, CV.int i64 p1, ((Blk.mem (CV.pure (Ty.arr 32 (Ty.int u8)) p2)) :: (Blk.vec 42 (Ty.int u32) p3) :: (Blk.vec 5 (Ty.int u8) p4) :: []) => shapeOK T 30 [0, 1, 5, 6] 2
 | _, _, _, _, _ => false
noncomputable def o_49_82_1_0 {R : Type} (G : Int → Int → List Int → List Int → List Int → (Ex → St → Option R) → Option R) : St → (Ex → St → Option R) → Option R := fun T k => match T.sl.getD 0 .junk, T.sl.getD 1 .junk, T.sl.getD 5 .junk, T.sl.getD 6 .junk, T.hp with
 | CV.whole 2, CV.whole 1, CV.int i64 p0, CV.int i64 p1, ((Blk.mem (CV.pure (Ty.arr 32 (Ty.int u8)) p2)) :: (Blk.vec 42 (Ty.int u32) p3) :: (Blk.vec 5 (Ty.int u8) p4) :: []) => gd (shapeOK T 30 [0, 1, 5, 6] 2) (G p0 p1 p2 p3 p4 k)
 | _, _, _, _, _ => none
theorem o_49_82_1_0_inv {R : Type} {G : Int → Int → List Int → List Int → List Int → (Ex → St → Option R) → Option R} {T : St} {k : Ex → St → Option R} {r : R} (h : o_49_82_1_0 G T k = some r) : ∃ p0 p1 p2 p3 p4, T = T_49_82_1_0 p0 p1 p2 p3 p4 ∧ G p0 p1 p2 p3 p4 k = some r := by
 unfold o_49_82_1_0 at h
 split at h
 · obtain ⟨hs, h'⟩ := gd_some h
   refine ⟨_, _, _, _, _, (st_of (asg := [(0, _), (1, _), (5, _), (6, _)]) hs ⟨by assumption, by assumption, by assumption, by assumption, trivial⟩ (by assumption)).trans ?_, h'⟩
   kernel_rfl
 · cases h
noncomputable def T_49_82_0_0 (p0 : Int) (p1 p2 p3 : List Int) : St := St.mk ([CV.whole 2, CV.whole 1, jk, jk, jk, CV.int i64 p0] ++ (jl 24)) [Blk.mem (CV.pure Zy49_0 p1), Blk.vec 42 (Ty.int u32) p2, Blk.vec 5 (Ty.int u8) p3] 2
noncomputable def X_49_82_0_0_0 (p1 p2 p3 : List Int) : St := St.mk ([CV.whole 2] ++ (jl 29)) [Blk.mem (CV.pure Zy49_0 p1), Blk.vec 42 (Ty.int u32) p2, Blk.vec 5 (Ty.int u8) p3] 2
inductive Sp.E_49_82_0_0 where
 | e0 (p1 p2 p3 : List Int)
noncomputable def Sp.B_49_82_0_0 {R : Type} (r : Option E_49_82_0_0) (k0 : List Int → List Int → List Int → Option R) : Option R := match r with
 | none => none
 | some (.e0 p1 p2 p3) => k0 p1 p2 p3
noncomputable def Sp.L_49_82_0_0 : Nat → Int → List Int → List Int → List Int → Option E_49_82_0_0
 | 0, _, _, _, _ => none
 | m + 1, p0, p1, p2, p3 => bif decide (p0 < (↑(length p2) : Int)) then B_49_82_1_0 (L_49_82_1_0 4611686018427387904 p0 0 p1 p2 p3) fun y8 y9 y10 y11 => L_49_82_0_0 m (wrap i64 (y8 + 1)) y9 y10 y11 else some (E_49_82_0_0.e0 p1 p2 p3)
noncomputable def G_49_82_0_0 {R : Type} (p0 : Int) (p1 p2 p3 : List Int) (k : Ex → St → Option R) : Option R := B_49_82_0_0 (L_49_82_0_0 FU p0 p1 p2 p3) (fun p1 p2 p3 => k (Ex.exit 0) (X_49_82_0_0_0 p1 p2 p3))
noncomputable def m_49_82_0_0 : St → Bool := fun T => match T.sl.getD 0 .junk, T.sl.getD 1 .junk, T.sl.getD 5 .junk, T.hp with
 | CV.whole 2, CV.whole 1, CV.int i64 p0, ((Blk.mem (CV.pure (Ty.arr 32 (Ty.int u8)) p1)) :: (Blk.vec 42 (Ty.int u32) p2) :: (Blk.vec 5 (Ty.int u8) p3) :: []) => shapeOK T 30 [0, 1, 5] 2
 | _, _, _, _ => false
noncomputable def o_49_82_0_0 {R : Type} (G : Int → List Int → List Int → List Int → (Ex → St → Option R) → Option R) : St → (Ex → St → Option R) → Option R := fun T k => match T.sl.getD 0 .junk, T.sl.getD 1 .junk, T.sl.getD 5 .junk, T.hp with
 | CV.whole 2, CV.whole 1, CV.int i64 p0, ((Blk.mem (CV.pure (Ty.arr 32 (Ty.int u8)) p1)) :: (Blk.vec 42 (Ty.int u32) p2) :: (Blk.vec 5 (Ty.int u8) p3) :: []) => gd (shapeOK T 30 [0, 1, 5] 2) (G p0 p1 p2 p3 k)
 | _, _, _, _ => none
theorem o_49_82_0_0_inv {R : Type} {G : Int → List Int → List Int → List Int → (Ex → St → Option R) → Option R} {T : St} {k : Ex → St → Option R} {r : R} (h : o_49_82_0_0 G T k = some r) : ∃ p0 p1 p2 p3, T = T_49_82_0_0 p0 p1 p2 p3 ∧ G p0 p1 p2 p3 k = some r := by
 unfold o_49_82_0_0 at h
 split at h
 · obtain ⟨hs, h'⟩ := gd_some h
   refine ⟨_, _, _, _, (st_of (asg := [(0, _), (1, _), (5, _)]) hs ⟨by assumption, by assumption, by assumption, trivial⟩ (by assumption)).trans ?_, h'⟩
   kernel_rfl
 · cases h
noncomputable def T_49_82_1_2 (p0 : List Int) (p1 p2 : Int) (p3 p4 p5 : List Int) : St := St.mk ([CV.whole 3, CV.pure Zy49_1 p0, jk, jk, jk, CV.int i64 p1, CV.int i64 p2] ++ (jl 23)) [Blk.mem (CV.pure Zy49_0 p3), Blk.vec 42 (Ty.int u32) p4, Blk.dead, Blk.vec 5 (Ty.int u8) p5] 3
noncomputable def X_49_82_1_2_0 (p0 : List Int) (p1 : Int) (p3 p4 p5 : List Int) : St := St.mk ([CV.whole 3, CV.pure Zy49_1 p0, jk, jk, jk, CV.int i64 p1] ++ (jl 24)) [Blk.mem (CV.pure Zy49_0 p3), Blk.vec 42 (Ty.int u32) p4, Blk.dead, Blk.vec 5 (Ty.int u8) p5] 3
inductive Sp.E_49_82_1_2 where
 | e0 (p0 : List Int) (p1 : Int) (p3 p4 p5 : List Int)
noncomputable def Sp.B_49_82_1_2 {R : Type} (r : Option E_49_82_1_2) (k0 : List Int → Int → List Int → List Int → List Int → Option R) : Option R := match r with
 | none => none
 | some (.e0 p0 p1 p3 p4 p5) => k0 p0 p1 p3 p4 p5
noncomputable def Sp.L_49_82_1_2 : Nat → List Int → Int → Int → List Int → List Int → List Int → Option E_49_82_1_2
 | 0, _, _, _, _, _, _ => none
 | m + 1, p0, p1, p2, p3, p4, p5 => bif decide (p2 < 4) then gd (inB p1 (length p0)) (gd (decide (0 ≤ wrap i64 (24 - wrap i64 (8 * p2)))) (gd (room (length p5 + 1) 1) (L_49_82_1_2 m p0 p1 (wrap i64 (p2 + 1)) p3 p4 (p5 ++ [wrap u8 (Int.fdiv (getD p0 (toNat p1) 0) (2 ^ Nat.min (toNat (wrap i64 (24 - wrap i64 (8 * p2)))) 32))])))) else some (E_49_82_1_2.e0 p0 p1 p3 p4 p5)
noncomputable def G_49_82_1_2 {R : Type} (p0 : List Int) (p1 p2 : Int) (p3 p4 p5 : List Int) (k : Ex → St → Option R) : Option R := B_49_82_1_2 (L_49_82_1_2 FU p0 p1 p2 p3 p4 p5) (fun p0 p1 p3 p4 p5 => k (Ex.exit 2) (X_49_82_1_2_0 p0 p1 p3 p4 p5))
noncomputable def m_49_82_1_2 : St → Bool := fun T => match T.sl.getD 0 .junk, T.sl.getD 1 .junk, T.sl.getD 5 .junk, T.sl.getD 6 .junk, T.hp with
 | CV.whole 3, CV.pure (Ty.slice (Ty.int u32)) p0, CV.int i64 p1, CV.int i64 p2, ((Blk.mem (CV.pure (Ty.arr 32 (Ty.int u8)) p3)) :: (Blk.vec 42 (Ty.int u32) p4) :: (Blk.dead) :: (Blk.vec 5 (Ty.int u8) p5) :: []) => shapeOK T 30 [0, 1, 5, 6] 3
 | _, _, _, _, _ => false
noncomputable def o_49_82_1_2 {R : Type} (G : List Int → Int → Int → List Int → List Int → List Int → (Ex → St → Option R) → Option R) : St → (Ex → St → Option R) → Option R := fun T k => match T.sl.getD 0 .junk, T.sl.getD 1 .junk, T.sl.getD 5 .junk, T.sl.getD 6 .junk, T.hp with
 | CV.whole 3, CV.pure (Ty.slice (Ty.int u32)) p0, CV.int i64 p1, CV.int i64 p2, ((Blk.mem (CV.pure (Ty.arr 32 (Ty.int u8)) p3)) :: (Blk.vec 42 (Ty.int u32) p4) :: (Blk.dead) :: (Blk.vec 5 (Ty.int u8) p5) :: []) => gd (shapeOK T 30 [0, 1, 5, 6] 3) (G p0 p1 p2 p3 p4 p5 k)
 | _, _, _, _, _ => none
theorem o_49_82_1_2_inv {R : Type} {G : List Int → Int → Int → List Int → List Int → List Int → (Ex → St → Option R) → Option R} {T : St} {k : Ex → St → Option R} {r : R} (h : o_49_82_1_2 G T k = some r) : ∃ p0 p1 p2 p3 p4 p5, T = T_49_82_1_2 p0 p1 p2 p3 p4 p5 ∧ G p0 p1 p2 p3 p4 p5 k = some r := by
 unfold o_49_82_1_2 at h
 split at h
 · obtain ⟨hs, h'⟩ := gd_some h
   refine ⟨_, _, _, _, _, _, (st_of (asg := [(0, _), (1, _), (5, _), (6, _)]) hs ⟨by assumption, by assumption, by assumption, by assumption, trivial⟩ (by assumption)).trans ?_, h'⟩
   kernel_rfl
 · cases h
noncomputable def T_49_82_1_1 (p0 : List Int) (p1 p2 : Int) (p3 p4 p5 : List Int) : St := St.mk ([CV.whole 2, CV.pure Zy49_1 p0, jk, jk, jk, CV.int i64 p1, CV.int i64 p2] ++ (jl 23)) [Blk.mem (CV.pure Zy49_0 p3), Blk.vec 42 (Ty.int u32) p4, Blk.vec 5 (Ty.int u8) p5] 3
noncomputable def X_49_82_1_1_0 (p0 : List Int) (p1 : Int) (p3 p4 p5 : List Int) : St := St.mk ([CV.whole 2, CV.pure Zy49_1 p0, jk, jk, jk, CV.int i64 p1] ++ (jl 24)) [Blk.mem (CV.pure Zy49_0 p3), Blk.vec 42 (Ty.int u32) p4, Blk.vec 5 (Ty.int u8) p5] 3
noncomputable def X_49_82_1_1_1 (p0 : List Int) (p1 : Int) (p3 p4 p5 : List Int) : St := St.mk ([CV.whole 3, CV.pure Zy49_1 p0, jk, jk, jk, CV.int i64 p1] ++ (jl 24)) [Blk.mem (CV.pure Zy49_0 p3), Blk.vec 42 (Ty.int u32) p4, Blk.dead, Blk.vec 5 (Ty.int u8) p5] 3
inductive Sp.E_49_82_1_1 where
 | e0 (p0 : List Int) (p1 : Int) (p3 p4 p5 : List Int)
 | e1 (p0 : List Int) (p1 : Int) (p3 p4 p5 : List Int)
noncomputable def Sp.B_49_82_1_1 {R : Type} (r : Option E_49_82_1_1) (k0 k1 : List Int → Int → List Int → List Int → List Int → Option R) : Option R := match r with
 | none => none
 | some (.e0 p0 p1 p3 p4 p5) => k0 p0 p1 p3 p4 p5
 | some (.e1 p0 p1 p3 p4 p5) => k1 p0 p1 p3 p4 p5
noncomputable def Sp.L_49_82_1_1 : Nat → List Int → Int → Int → List Int → List Int → List Int → Option E_49_82_1_1
 | 0, _, _, _, _, _, _ => none
 | m + 1, p0, p1, p2, p3, p4, p5 => bif decide (p2 < 4) then gd (inB p1 (length p0)) (gd (decide (0 ≤ wrap i64 (24 - wrap i64 (8 * p2)))) (gd (room (length p5 + 1) 1) (B_49_82_1_2 (L_49_82_1_2 m p0 p1 (wrap i64 (p2 + 1)) p3 p4 (p5 ++ [wrap u8 (Int.fdiv (getD p0 (toNat p1) 0) (2 ^ Nat.min (toNat (wrap i64 (24 - wrap i64 (8 * p2)))) 32))])) (fun p0 p1 p3 p4 p5 => some (E_49_82_1_1.e1 p0 p1 p3 p4 p5))))) else some (E_49_82_1_1.e0 p0 p1 p3 p4 p5)
noncomputable def G_49_82_1_1 {R : Type} (p0 : List Int) (p1 p2 : Int) (p3 p4 p5 : List Int) (k : Ex → St → Option R) : Option R := B_49_82_1_1 (L_49_82_1_1 FU p0 p1 p2 p3 p4 p5) (fun p0 p1 p3 p4 p5 => k (Ex.exit 2) (X_49_82_1_1_0 p0 p1 p3 p4 p5)) (fun p0 p1 p3 p4 p5 => k (Ex.exit 2) (X_49_82_1_1_1 p0 p1 p3 p4 p5))
noncomputable def m_49_82_1_1 : St → Bool := fun T => match T.sl.getD 0 .junk, T.sl.getD 1 .junk, T.sl.getD 5 .junk, T.sl.getD 6 .junk, T.hp with
 | CV.whole 2, CV.pure (Ty.slice (Ty.int u32)) p0, CV.int i64 p1, CV.int i64 p2, ((Blk.mem (CV.pure (Ty.arr 32 (Ty.int u8)) p3)) :: (Blk.vec 42 (Ty.int u32) p4) :: (Blk.vec 5 (Ty.int u8) p5) :: []) => shapeOK T 30 [0, 1, 5, 6] 3
 | _, _, _, _, _ => false
noncomputable def o_49_82_1_1 {R : Type} (G : List Int → Int → Int → List Int → List Int → List Int → (Ex → St → Option R) → Option R) : St → (Ex → St → Option R) → Option R := fun T k => match T.sl.getD 0 .junk, T.sl.getD 1 .junk, T.sl.getD 5 .junk, T.sl.getD 6 .junk, T.hp with
 | CV.whole 2, CV.pure (Ty.slice (Ty.int u32)) p0, CV.int i64 p1, CV.int i64 p2, ((Blk.mem (CV.pure (Ty.arr 32 (Ty.int u8)) p3)) :: (Blk.vec 42 (Ty.int u32) p4) :: (Blk.vec 5 (Ty.int u8) p5) :: []) => gd (shapeOK T 30 [0, 1, 5, 6] 3) (G p0 p1 p2 p3 p4 p5 k)
 | _, _, _, _, _ => none
theorem o_49_82_1_1_inv {R : Type} {G : List Int → Int → Int → List Int → List Int → List Int → (Ex → St → Option R) → Option R} {T : St} {k : Ex → St → Option R} {r : R} (h : o_49_82_1_1 G T k = some r) : ∃ p0 p1 p2 p3 p4 p5, T = T_49_82_1_1 p0 p1 p2 p3 p4 p5 ∧ G p0 p1 p2 p3 p4 p5 k = some r := by
 unfold o_49_82_1_1 at h
 split at h
 · obtain ⟨hs, h'⟩ := gd_some h
   refine ⟨_, _, _, _, _, _, (st_of (asg := [(0, _), (1, _), (5, _), (6, _)]) hs ⟨by assumption, by assumption, by assumption, by assumption, trivial⟩ (by assumption)).trans ?_, h'⟩
   kernel_rfl
 · cases h
noncomputable def T_49_82_0_2 (p0 : List Int) (p1 : Int) (p2 p3 p4 : List Int) : St := St.mk ([CV.whole 3, CV.pure Zy49_1 p0, jk, jk, jk, CV.int i64 p1] ++ (jl 24)) [Blk.mem (CV.pure Zy49_0 p2), Blk.vec 42 (Ty.int u32) p3, Blk.dead, Blk.vec 5 (Ty.int u8) p4] 3
noncomputable def X_49_82_0_2_0 (p2 p3 p4 : List Int) : St := St.mk ([CV.whole 3] ++ (jl 29)) [Blk.mem (CV.pure Zy49_0 p2), Blk.vec 42 (Ty.int u32) p3, Blk.dead, Blk.vec 5 (Ty.int u8) p4] 3
inductive Sp.E_49_82_0_2 where
 | e0 (p2 p3 p4 : List Int)
noncomputable def Sp.B_49_82_0_2 {R : Type} (r : Option E_49_82_0_2) (k0 : List Int → List Int → List Int → Option R) : Option R := match r with
 | none => none
 | some (.e0 p2 p3 p4) => k0 p2 p3 p4
noncomputable def Sp.L_49_82_0_2 : Nat → List Int → Int → List Int → List Int → List Int → Option E_49_82_0_2
 | 0, _, _, _, _, _ => none
 | m + 1, p0, p1, p2, p3, p4 => bif decide (p1 < (↑(length p0) : Int)) then B_49_82_1_2 (L_49_82_1_2 4611686018427387904 p0 p1 0 p2 p3 p4) fun y9 y10 y11 y12 y13 => L_49_82_0_2 m y9 (wrap i64 (y10 + 1)) y11 y12 y13 else some (E_49_82_0_2.e0 p2 p3 p4)
noncomputable def G_49_82_0_2 {R : Type} (p0 : List Int) (p1 : Int) (p2 p3 p4 : List Int) (k : Ex → St → Option R) : Option R := B_49_82_0_2 (L_49_82_0_2 FU p0 p1 p2 p3 p4) (fun p2 p3 p4 => k (Ex.exit 0) (X_49_82_0_2_0 p2 p3 p4))
noncomputable def m_49_82_0_2 : St → Bool := fun T => match T.sl.getD 0 .junk, T.sl.getD 1 .junk, T.sl.getD 5 .junk, T.hp with
 | CV.whole 3, CV.pure (Ty.slice (Ty.int u32)) p0, CV.int i64 p1, ((Blk.mem (CV.pure (Ty.arr 32 (Ty.int u8)) p2)) :: (Blk.vec 42 (Ty.int u32) p3) :: (Blk.dead) :: (Blk.vec 5 (Ty.int u8) p4) :: []) => shapeOK T 30 [0, 1, 5] 3
 | _, _, _, _ => false
noncomputable def o_49_82_0_2 {R : Type} (G : List Int → Int → List Int → List Int → List Int → (Ex → St → Option R) → Option R) : St → (Ex → St → Option R) → Option R := fun T k => match T.sl.getD 0 .junk, T.sl.getD 1 .junk, T.sl.getD 5 .junk, T.hp with
 | CV.whole 3, CV.pure (Ty.slice (Ty.int u32)) p0, CV.int i64 p1, ((Blk.mem (CV.pure (Ty.arr 32 (Ty.int u8)) p2)) :: (Blk.vec 42 (Ty.int u32) p3) :: (Blk.dead) :: (Blk.vec 5 (Ty.int u8) p4) :: []) => gd (shapeOK T 30 [0, 1, 5] 3) (G p0 p1 p2 p3 p4 k)
 | _, _, _, _ => none
theorem o_49_82_0_2_inv {R : Type} {G : List Int → Int → List Int → List Int → List Int → (Ex → St → Option R) → Option R} {T : St} {k : Ex → St → Option R} {r : R} (h : o_49_82_0_2 G T k = some r) : ∃ p0 p1 p2 p3 p4, T = T_49_82_0_2 p0 p1 p2 p3 p4 ∧ G p0 p1 p2 p3 p4 k = some r := by
 unfold o_49_82_0_2 at h
 split at h
 · obtain ⟨hs, h'⟩ := gd_some h
   refine ⟨_, _, _, _, _, (st_of (asg := [(0, _), (1, _), (5, _)]) hs ⟨by assumption, by assumption, by assumption, trivial⟩ (by assumption)).trans ?_, h'⟩
   kernel_rfl
 · cases h
noncomputable def T_49_82_0_1 (p0 : List Int) (p1 : Int) (p2 p3 p4 : List Int) : St := St.mk ([CV.whole 2, CV.pure Zy49_1 p0, jk, jk, jk, CV.int i64 p1] ++ (jl 24)) [Blk.mem (CV.pure Zy49_0 p2), Blk.vec 42 (Ty.int u32) p3, Blk.vec 5 (Ty.int u8) p4] 3
noncomputable def X_49_82_0_1_0 (p2 p3 p4 : List Int) : St := St.mk ([CV.whole 2] ++ (jl 29)) [Blk.mem (CV.pure Zy49_0 p2), Blk.vec 42 (Ty.int u32) p3, Blk.vec 5 (Ty.int u8) p4] 3
noncomputable def X_49_82_0_1_1 (p2 p3 p4 : List Int) : St := St.mk ([CV.whole 3] ++ (jl 29)) [Blk.mem (CV.pure Zy49_0 p2), Blk.vec 42 (Ty.int u32) p3, Blk.dead, Blk.vec 5 (Ty.int u8) p4] 3
inductive Sp.E_49_82_0_1 where
 | e0 (p2 p3 p4 : List Int)
 | e1 (p2 p3 p4 : List Int)
noncomputable def Sp.B_49_82_0_1 {R : Type} (r : Option E_49_82_0_1) (k0 k1 : List Int → List Int → List Int → Option R) : Option R := match r with
 | none => none
 | some (.e0 p2 p3 p4) => k0 p2 p3 p4
 | some (.e1 p2 p3 p4) => k1 p2 p3 p4
noncomputable def Sp.L_49_82_0_1 : Nat → List Int → Int → List Int → List Int → List Int → Option E_49_82_0_1
 | 0, _, _, _, _, _ => none
 | m + 1, p0, p1, p2, p3, p4 => bif decide (p1 < (↑(length p0) : Int)) then B_49_82_1_1 (L_49_82_1_1 4611686018427387904 p0 p1 0 p2 p3 p4) (fun y14 y15 y16 y17 y18 => L_49_82_0_1 m y14 (wrap i64 (y15 + 1)) y16 y17 y18) fun y19 y20 y21 y22 y23 => B_49_82_0_2 (L_49_82_0_2 m y19 (wrap i64 (y20 + 1)) y21 y22 y23) (fun p2 p3 p4 => some (E_49_82_0_1.e1 p2 p3 p4)) else some (E_49_82_0_1.e0 p2 p3 p4)
noncomputable def G_49_82_0_1 {R : Type} (p0 : List Int) (p1 : Int) (p2 p3 p4 : List Int) (k : Ex → St → Option R) : Option R := B_49_82_0_1 (L_49_82_0_1 FU p0 p1 p2 p3 p4) (fun p2 p3 p4 => k (Ex.exit 0) (X_49_82_0_1_0 p2 p3 p4)) (fun p2 p3 p4 => k (Ex.exit 0) (X_49_82_0_1_1 p2 p3 p4))
noncomputable def m_49_82_0_1 : St → Bool := fun T => match T.sl.getD 0 .junk, T.sl.getD 1 .junk, T.sl.getD 5 .junk, T.hp with
 | CV.whole 2, CV.pure (Ty.slice (Ty.int u32)) p0, CV.int i64 p1, ((Blk.mem (CV.pure (Ty.arr 32 (Ty.int u8)) p2)) :: (Blk.vec 42 (Ty.int u32) p3) :: (Blk.vec 5 (Ty.int u8) p4) :: []) => shapeOK T 30 [0, 1, 5] 3
 | _, _, _, _ => false
noncomputable def o_49_82_0_1 {R : Type} (G : List Int → Int → List Int → List Int → List Int → (Ex → St → Option R) → Option R) : St → (Ex → St → Option R) → Option R := fun T k => match T.sl.getD 0 .junk, T.sl.getD 1 .junk, T.sl.getD 5 .junk, T.hp with
 | CV.whole 2, CV.pure (Ty.slice (Ty.int u32)) p0, CV.int i64 p1, ((Blk.mem (CV.pure (Ty.arr 32 (Ty.int u8)) p2)) :: (Blk.vec 42 (Ty.int u32) p3) :: (Blk.vec 5 (Ty.int u8) p4) :: []) => gd (shapeOK T 30 [0, 1, 5] 3) (G p0 p1 p2 p3 p4 k)
 | _, _, _, _ => none
theorem o_49_82_0_1_inv {R : Type} {G : List Int → Int → List Int → List Int → List Int → (Ex → St → Option R) → Option R} {T : St} {k : Ex → St → Option R} {r : R} (h : o_49_82_0_1 G T k = some r) : ∃ p0 p1 p2 p3 p4, T = T_49_82_0_1 p0 p1 p2 p3 p4 ∧ G p0 p1 p2 p3 p4 k = some r := by
 unfold o_49_82_0_1 at h
 split at h
 · obtain ⟨hs, h'⟩ := gd_some h
   refine ⟨_, _, _, _, _, (st_of (asg := [(0, _), (1, _), (5, _)]) hs ⟨by assumption, by assumption, by assumption, trivial⟩ (by assumption)).trans ?_, h'⟩
   kernel_rfl
 · cases h
noncomputable def O_49_82_1 {R : Type} : St → (Ex → St → Option R) → Option R := fun T k => bif m_49_82_1_0 T then o_49_82_1_0 G_49_82_1_0 T k else bif m_49_82_1_1 T then o_49_82_1_1 G_49_82_1_1 T k else bif m_49_82_1_2 T then o_49_82_1_2 G_49_82_1_2 T k else none
noncomputable def O_49_82_0 {R : Type} : St → (Ex → St → Option R) → Option R := fun T k => bif m_49_82_0_0 T then o_49_82_0_0 G_49_82_0_0 T k else bif m_49_82_0_1 T then o_49_82_0_1 G_49_82_0_1 T k else bif m_49_82_0_2 T then o_49_82_0_2 G_49_82_0_2 T k else none
noncomputable def g_49_82 {R : Type} : List CV → List Blk → (CV → List Blk → Option R) → Option R := evFnL sm_49 FU (ovr noO (evFn sm_49 fns FU 0)) (ir82_t O_49_82_0) ir82
theorem body_49_82_1_0 {R : Type} (K0 : St → Option R) (K1 : Ex → St → Option R) (p0 p1 : Int) (p2 p3 p4 : List Int) : evLB (evCodeL sm_49 FU (ovr noO (evFn sm_49 fns FU 0)) .nil ir82_b1) (St.norm ir82_v1) (T_49_82_1_0 p0 p1 p2 p3 p4) K0 K1 =
 bif decide (p1 < 4) then gd (inB p0 (length p3)) (gd (decide (toNat p0 < length p3) && true) (gd (decide (0 ≤ wrap i64 (24 - wrap i64 (8 * p1)))) (gd (room (length p4 + 1) 1) (K0 (T_49_82_1_0 p0 (wrap i64 (p1 + 1)) p2 p3 (p4 ++ [wrap u8 (Int.fdiv (getD p3 (toNat p0) 0) (2 ^ Nat.min (toNat (wrap i64 (24 - wrap i64 (8 * p1)))) 32))])))))) else K1 (Ex.exit 2) (X_49_82_1_0_0 p0 p2 p3 p4) := by kernel_rfl
theorem Bgd_49_82_1_0 {R : Type} {c : Bool} {x : Option R} {y : Option E_49_82_1_0} {k0 : Int → List Int → List Int → List Int → Option R} (h : x = B_49_82_1_0 y k0) : gd c x = B_49_82_1_0 (gd c y) k0 := by cases c; rfl; exact h
theorem Bcond_49_82_1_0 {R : Type} {c : Bool} {x x' : Option R} {y y' : Option E_49_82_1_0} {k0 : Int → List Int → List Int → List Int → Option R} (h : x = B_49_82_1_0 y k0) (h' : x' = B_49_82_1_0 y' k0) : (bif c then x else x') = B_49_82_1_0 (bif c then y else y') k0 := by cases c; exact h'; exact h
theorem loop_49_82_1_0 {R : Type} (k : Ex → St → Option R) : ∀ (m : Nat) (p0 : Int) (p1 : Int) (p2 : List Int) (p3 : List Int) (p4 : List Int), evLoopN (evCodeL sm_49 FU (ovr noO (evFn sm_49 fns FU 0)) .nil ir82_b1) (St.norm ir82_v1) m (T_49_82_1_0 p0 p1 p2 p3 p4) k = B_49_82_1_0 (L_49_82_1_0 m p0 p1 p2 p3 p4) (fun p0 p2 p3 p4 => k (Ex.exit (2 : Nat)) (X_49_82_1_0_0 p0 p2 p3 p4))
 | 0, _, _, _, _, _ => rfl
 | m + 1, p0, p1, p2, p3, p4 => by
   rw [evLoopN_succ, body_49_82_1_0, L_49_82_1_0]
   repeat' first | apply Bgd_49_82_1_0 | apply Bcond_49_82_1_0 | exact loop_49_82_1_0 k m _ _ _ _ _ | rfl
theorem ok_49_82_1_0 {R : Type} (T : St) (k : Ex → St → Option R) (r : R) (h0 : o_49_82_1_0 G_49_82_1_0 T k = some r) : evLoopN (evCode sm_49 FU (evFn sm_49 fns FU 0) ir82_b1) (St.norm ir82_v1) FU T k = some r := by
 obtain ⟨p0, p1, p2, p3, p4, rfl, h⟩ := o_49_82_1_0_inv h0
 refine evLoopN_L (t := .nil) noO_ok trivial _ _ _ _ ?_
 rw [loop_49_82_1_0]
 exact h
theorem body_49_82_1_2 {R : Type} (K0 : St → Option R) (K1 : Ex → St → Option R) (p0 : List Int) (p1 p2 : Int) (p3 p4 p5 : List Int) : evLB (evCodeL sm_49 FU (ovr noO (evFn sm_49 fns FU 0)) .nil ir82_b1) (St.norm ir82_v1) (T_49_82_1_2 p0 p1 p2 p3 p4 p5) K0 K1 =
 bif decide (p2 < 4) then gd (inB p1 (length p0)) (gd (decide (0 ≤ wrap i64 (24 - wrap i64 (8 * p2)))) (gd (room (length p5 + 1) 1) (K0 (T_49_82_1_2 p0 p1 (wrap i64 (p2 + 1)) p3 p4 (p5 ++ [wrap u8 (Int.fdiv (getD p0 (toNat p1) 0) (2 ^ Nat.min (toNat (wrap i64 (24 - wrap i64 (8 * p2)))) 32))]))))) else K1 (Ex.exit 2) (X_49_82_1_2_0 p0 p1 p3 p4 p5) := by kernel_rfl
theorem Bgd_49_82_1_2 {R : Type} {c : Bool} {x : Option R} {y : Option E_49_82_1_2} {k0 : List Int → Int → List Int → List Int → List Int → Option R} (h : x = B_49_82_1_2 y k0) : gd c x = B_49_82_1_2 (gd c y) k0 := by cases c; rfl; exact h
theorem Bcond_49_82_1_2 {R : Type} {c : Bool} {x x' : Option R} {y y' : Option E_49_82_1_2} {k0 : List Int → Int → List Int → List Int → List Int → Option R} (h : x = B_49_82_1_2 y k0) (h' : x' = B_49_82_1_2 y' k0) : (bif c then x else x') = B_49_82_1_2 (bif c then y else y') k0 := by cases c; exact h'; exact h
theorem loop_49_82_1_2 {R : Type} (k : Ex → St → Option R) : ∀ (m : Nat) (p0 : List Int) (p1 : Int) (p2 : Int) (p3 : List Int) (p4 : List Int) (p5 : List Int), evLoopN (evCodeL sm_49 FU (ovr noO (evFn sm_49 fns FU 0)) .nil ir82_b1) (St.norm ir82_v1) m (T_49_82_1_2 p0 p1 p2 p3 p4 p5) k = B_49_82_1_2 (L_49_82_1_2 m p0 p1 p2 p3 p4 p5) (fun p0 p1 p3 p4 p5 => k (Ex.exit (2 : Nat)) (X_49_82_1_2_0 p0 p1 p3 p4 p5))
 | 0, _, _, _, _, _, _ => rfl
 | m + 1, p0, p1, p2, p3, p4, p5 => by
   rw [evLoopN_succ, body_49_82_1_2, L_49_82_1_2]
   repeat' first | apply Bgd_49_82_1_2 | apply Bcond_49_82_1_2 | exact loop_49_82_1_2 k m _ _ _ _ _ _ | rfl
theorem ok_49_82_1_2 {R : Type} (T : St) (k : Ex → St → Option R) (r : R) (h0 : o_49_82_1_2 G_49_82_1_2 T k = some r) : evLoopN (evCode sm_49 FU (evFn sm_49 fns FU 0) ir82_b1) (St.norm ir82_v1) FU T k = some r := by
 obtain ⟨p0, p1, p2, p3, p4, p5, rfl, h⟩ := o_49_82_1_2_inv h0
 refine evLoopN_L (t := .nil) noO_ok trivial _ _ _ _ ?_
 rw [loop_49_82_1_2]
 exact h
theorem body_49_82_1_1 {R : Type} (K0 : St → Option R) (K1 : Ex → St → Option R) (p0 : List Int) (p1 p2 : Int) (p3 p4 p5 : List Int) : evLB (evCodeL sm_49 FU (ovr noO (evFn sm_49 fns FU 0)) .nil ir82_b1) (St.norm ir82_v1) (T_49_82_1_1 p0 p1 p2 p3 p4 p5) K0 K1 =
 bif decide (p2 < 4) then gd (inB p1 (length p0)) (gd (decide (0 ≤ wrap i64 (24 - wrap i64 (8 * p2)))) (gd (room (length p5 + 1) 1) (K0 (T_49_82_1_2 p0 p1 (wrap i64 (p2 + 1)) p3 p4 (p5 ++ [wrap u8 (Int.fdiv (getD p0 (toNat p1) 0) (2 ^ Nat.min (toNat (wrap i64 (24 - wrap i64 (8 * p2)))) 32))]))))) else K1 (Ex.exit 2) (X_49_82_1_1_0 p0 p1 p3 p4 p5) := by kernel_rfl
theorem Bgd_49_82_1_1 {R : Type} {c : Bool} {x : Option R} {y : Option E_49_82_1_1} {k0 : List Int → Int → List Int → List Int → List Int → Option R} {k1 : List Int → Int → List Int → List Int → List Int → Option R} (h : x = B_49_82_1_1 y k0 k1) : gd c x = B_49_82_1_1 (gd c y) k0 k1 := by cases c; rfl; exact h
theorem Bcond_49_82_1_1 {R : Type} {c : Bool} {x x' : Option R} {y y' : Option E_49_82_1_1} {k0 : List Int → Int → List Int → List Int → List Int → Option R} {k1 : List Int → Int → List Int → List Int → List Int → Option R} (h : x = B_49_82_1_1 y k0 k1) (h' : x' = B_49_82_1_1 y' k0 k1) : (bif c then x else x') = B_49_82_1_1 (bif c then y else y') k0 k1 := by cases c; exact h'; exact h
theorem Bin_49_82_1_1_49_82_1_2 {R : Type} {r : Option E_49_82_1_2} {k0 : List Int → Int → List Int → List Int → List Int → Option R} {k1 : List Int → Int → List Int → List Int → List Int → Option R} {f0 : List Int → Int → List Int → List Int → List Int → Option R} {g0 : List Int → Int → List Int → List Int → List Int → Option E_49_82_1_1} (h0 : ∀ z0 z1 z2 z3 z4, f0 z0 z1 z2 z3 z4 = B_49_82_1_1 (g0 z0 z1 z2 z3 z4) k0 k1) : B_49_82_1_2 r f0 = B_49_82_1_1 (B_49_82_1_2 r g0) k0 k1 := by
 cases r with
 | none => rfl
 | some e => cases e with
   | e0 z0 z1 z2 z3 z4 => exact h0 _ _ _ _ _
theorem loop_49_82_1_1 {R : Type} (k : Ex → St → Option R) : ∀ (m : Nat) (p0 : List Int) (p1 : Int) (p2 : Int) (p3 : List Int) (p4 : List Int) (p5 : List Int), evLoopN (evCodeL sm_49 FU (ovr noO (evFn sm_49 fns FU 0)) .nil ir82_b1) (St.norm ir82_v1) m (T_49_82_1_1 p0 p1 p2 p3 p4 p5) k = B_49_82_1_1 (L_49_82_1_1 m p0 p1 p2 p3 p4 p5) (fun p0 p1 p3 p4 p5 => k (Ex.exit (2 : Nat)) (X_49_82_1_1_0 p0 p1 p3 p4 p5)) (fun p0 p1 p3 p4 p5 => k (Ex.exit (2 : Nat)) (X_49_82_1_1_1 p0 p1 p3 p4 p5))
 | 0, _, _, _, _, _, _ => rfl
 | m + 1, p0, p1, p2, p3, p4, p5 => by
   rw [evLoopN_succ, body_49_82_1_1, L_49_82_1_1]
   repeat' first | (refine (loop_49_82_1_2 k m _ _ _ _ _ _).trans ?_; apply Bin_49_82_1_1_49_82_1_2 <;> intros) | apply Bgd_49_82_1_1 | apply Bcond_49_82_1_1 | (apply Bin_49_82_1_1_49_82_1_2 <;> intros) | exact loop_49_82_1_1 k m _ _ _ _ _ _ | rfl
theorem ok_49_82_1_1 {R : Type} (T : St) (k : Ex → St → Option R) (r : R) (h0 : o_49_82_1_1 G_49_82_1_1 T k = some r) : evLoopN (evCode sm_49 FU (evFn sm_49 fns FU 0) ir82_b1) (St.norm ir82_v1) FU T k = some r := by
 obtain ⟨p0, p1, p2, p3, p4, p5, rfl, h⟩ := o_49_82_1_1_inv h0
 refine evLoopN_L (t := .nil) noO_ok trivial _ _ _ _ ?_
 rw [loop_49_82_1_1]
 exact h
theorem OK_49_82_1 {R : Type} (T : St) (k : Ex → St → Option R) (r : R) (h : O_49_82_1 T k = some r) : evLoopN (evCode sm_49 FU (evFn sm_49 fns FU 0) ir82_b1) (St.norm ir82_v1) FU T k = some r := by
 unfold O_49_82_1 at h
 cases hm : m_49_82_1_0 T
 rotate_left
 · rw [hm, cond_true] at h; exact ok_49_82_1_0 T k r h
 rw [hm, cond_false] at h
 clear hm
 cases hm : m_49_82_1_1 T
 rotate_left
 · rw [hm, cond_true] at h; exact ok_49_82_1_1 T k r h
 rw [hm, cond_false] at h
 clear hm
 cases hm : m_49_82_1_2 T
 rotate_left
 · rw [hm, cond_true] at h; exact ok_49_82_1_2 T k r h
 rw [hm, cond_false] at h
 clear hm
 cases h
theorem body_49_82_0_0 {R : Type} (K0 : St → Option R) (K1 : Ex → St → Option R) (p0 : Int) (p1 p2 p3 : List Int) : evLB (evCodeL sm_49 FU (ovr noO (evFn sm_49 fns FU 0)) (ir82_bt0 O_49_82_1) ir82_b0) (St.norm ir82_v0) (T_49_82_0_0 p0 p1 p2 p3) K0 K1 =
 bif decide (p0 < (↑(length p2) : Int)) then B_49_82_1_0 (L_49_82_1_0 4611686018427387904 p0 0 p1 p2 p3) fun y8 y9 y10 y11 => K0 (T_49_82_0_0 (wrap i64 (y8 + 1)) y9 y10 y11) else K1 (Ex.exit 0) (X_49_82_0_0_0 p1 p2 p3) := by kernel_rfl
theorem Bgd_49_82_0_0 {R : Type} {c : Bool} {x : Option R} {y : Option E_49_82_0_0} {k0 : List Int → List Int → List Int → Option R} (h : x = B_49_82_0_0 y k0) : gd c x = B_49_82_0_0 (gd c y) k0 := by cases c; rfl; exact h
theorem Bcond_49_82_0_0 {R : Type} {c : Bool} {x x' : Option R} {y y' : Option E_49_82_0_0} {k0 : List Int → List Int → List Int → Option R} (h : x = B_49_82_0_0 y k0) (h' : x' = B_49_82_0_0 y' k0) : (bif c then x else x') = B_49_82_0_0 (bif c then y else y') k0 := by cases c; exact h'; exact h
theorem Bin_49_82_0_0_49_82_1_0 {R : Type} {r : Option E_49_82_1_0} {k0 : List Int → List Int → List Int → Option R} {f0 : Int → List Int → List Int → List Int → Option R} {g0 : Int → List Int → List Int → List Int → Option E_49_82_0_0} (h0 : ∀ z0 z1 z2 z3, f0 z0 z1 z2 z3 = B_49_82_0_0 (g0 z0 z1 z2 z3) k0) : B_49_82_1_0 r f0 = B_49_82_0_0 (B_49_82_1_0 r g0) k0 := by
 cases r with
 | none => rfl
 | some e => cases e with
   | e0 z0 z1 z2 z3 => exact h0 _ _ _ _
theorem loop_49_82_0_0 {R : Type} (k : Ex → St → Option R) : ∀ (m : Nat) (p0 : Int) (p1 : List Int) (p2 : List Int) (p3 : List Int), evLoopN (evCodeL sm_49 FU (ovr noO (evFn sm_49 fns FU 0)) (ir82_bt0 O_49_82_1) ir82_b0) (St.norm ir82_v0) m (T_49_82_0_0 p0 p1 p2 p3) k = B_49_82_0_0 (L_49_82_0_0 m p0 p1 p2 p3) (fun p1 p2 p3 => k (Ex.exit (0 : Nat)) (X_49_82_0_0_0 p1 p2 p3))
 | 0, _, _, _, _ => rfl
 | m + 1, p0, p1, p2, p3 => by
   rw [evLoopN_succ, body_49_82_0_0, L_49_82_0_0]
   repeat' first | apply Bgd_49_82_0_0 | apply Bcond_49_82_0_0 | (apply Bin_49_82_0_0_49_82_1_0 <;> intros) | exact loop_49_82_0_0 k m _ _ _ _ | rfl
theorem ok_49_82_0_0 {R : Type} (T : St) (k : Ex → St → Option R) (r : R) (h0 : o_49_82_0_0 G_49_82_0_0 T k = some r) : evLoopN (evCode sm_49 FU (evFn sm_49 fns FU 0) ir82_b0) (St.norm ir82_v0) FU T k = some r := by
 obtain ⟨p0, p1, p2, p3, rfl, h⟩ := o_49_82_0_0_inv h0
 refine evLoopN_L (t := (ir82_bt0 O_49_82_1)) noO_ok (ir82_bt0ok (fun T k r => OK_49_82_1 T k r)) _ _ _ _ ?_
 rw [loop_49_82_0_0]
 exact h
theorem body_49_82_0_2 {R : Type} (K0 : St → Option R) (K1 : Ex → St → Option R) (p0 : List Int) (p1 : Int) (p2 p3 p4 : List Int) : evLB (evCodeL sm_49 FU (ovr noO (evFn sm_49 fns FU 0)) (ir82_bt0 O_49_82_1) ir82_b0) (St.norm ir82_v0) (T_49_82_0_2 p0 p1 p2 p3 p4) K0 K1 =
 bif decide (p1 < (↑(length p0) : Int)) then B_49_82_1_2 (L_49_82_1_2 4611686018427387904 p0 p1 0 p2 p3 p4) fun y9 y10 y11 y12 y13 => K0 (T_49_82_0_2 y9 (wrap i64 (y10 + 1)) y11 y12 y13) else K1 (Ex.exit 0) (X_49_82_0_2_0 p2 p3 p4) := by kernel_rfl
theorem Bgd_49_82_0_2 {R : Type} {c : Bool} {x : Option R} {y : Option E_49_82_0_2} {k0 : List Int → List Int → List Int → Option R} (h : x = B_49_82_0_2 y k0) : gd c x = B_49_82_0_2 (gd c y) k0 := by cases c; rfl; exact h
theorem Bcond_49_82_0_2 {R : Type} {c : Bool} {x x' : Option R} {y y' : Option E_49_82_0_2} {k0 : List Int → List Int → List Int → Option R} (h : x = B_49_82_0_2 y k0) (h' : x' = B_49_82_0_2 y' k0) : (bif c then x else x') = B_49_82_0_2 (bif c then y else y') k0 := by cases c; exact h'; exact h
theorem Bin_49_82_0_2_49_82_1_2 {R : Type} {r : Option E_49_82_1_2} {k0 : List Int → List Int → List Int → Option R} {f0 : List Int → Int → List Int → List Int → List Int → Option R} {g0 : List Int → Int → List Int → List Int → List Int → Option E_49_82_0_2} (h0 : ∀ z0 z1 z2 z3 z4, f0 z0 z1 z2 z3 z4 = B_49_82_0_2 (g0 z0 z1 z2 z3 z4) k0) : B_49_82_1_2 r f0 = B_49_82_0_2 (B_49_82_1_2 r g0) k0 := by
 cases r with
 | none => rfl
 | some e => cases e with
   | e0 z0 z1 z2 z3 z4 => exact h0 _ _ _ _ _
theorem loop_49_82_0_2 {R : Type} (k : Ex → St → Option R) : ∀ (m : Nat) (p0 : List Int) (p1 : Int) (p2 : List Int) (p3 : List Int) (p4 : List Int), evLoopN (evCodeL sm_49 FU (ovr noO (evFn sm_49 fns FU 0)) (ir82_bt0 O_49_82_1) ir82_b0) (St.norm ir82_v0) m (T_49_82_0_2 p0 p1 p2 p3 p4) k = B_49_82_0_2 (L_49_82_0_2 m p0 p1 p2 p3 p4) (fun p2 p3 p4 => k (Ex.exit (0 : Nat)) (X_49_82_0_2_0 p2 p3 p4))
 | 0, _, _, _, _, _ => rfl
 | m + 1, p0, p1, p2, p3, p4 => by
   rw [evLoopN_succ, body_49_82_0_2, L_49_82_0_2]
   repeat' first | apply Bgd_49_82_0_2 | apply Bcond_49_82_0_2 | (apply Bin_49_82_0_2_49_82_1_2 <;> intros) | exact loop_49_82_0_2 k m _ _ _ _ _ | rfl
theorem ok_49_82_0_2 {R : Type} (T : St) (k : Ex → St → Option R) (r : R) (h0 : o_49_82_0_2 G_49_82_0_2 T k = some r) : evLoopN (evCode sm_49 FU (evFn sm_49 fns FU 0) ir82_b0) (St.norm ir82_v0) FU T k = some r := by
 obtain ⟨p0, p1, p2, p3, p4, rfl, h⟩ := o_49_82_0_2_inv h0
 refine evLoopN_L (t := (ir82_bt0 O_49_82_1)) noO_ok (ir82_bt0ok (fun T k r => OK_49_82_1 T k r)) _ _ _ _ ?_
 rw [loop_49_82_0_2]
 exact h
theorem body_49_82_0_1 {R : Type} (K0 : St → Option R) (K1 : Ex → St → Option R) (p0 : List Int) (p1 : Int) (p2 p3 p4 : List Int) : evLB (evCodeL sm_49 FU (ovr noO (evFn sm_49 fns FU 0)) (ir82_bt0 O_49_82_1) ir82_b0) (St.norm ir82_v0) (T_49_82_0_1 p0 p1 p2 p3 p4) K0 K1 =
 bif decide (p1 < (↑(length p0) : Int)) then B_49_82_1_1 (L_49_82_1_1 4611686018427387904 p0 p1 0 p2 p3 p4) (fun y14 y15 y16 y17 y18 => K0 (T_49_82_0_1 y14 (wrap i64 (y15 + 1)) y16 y17 y18)) fun y19 y20 y21 y22 y23 => K0 (T_49_82_0_2 y19 (wrap i64 (y20 + 1)) y21 y22 y23) else K1 (Ex.exit 0) (X_49_82_0_1_0 p2 p3 p4) := by kernel_rfl
theorem Bgd_49_82_0_1 {R : Type} {c : Bool} {x : Option R} {y : Option E_49_82_0_1} {k0 : List Int → List Int → List Int → Option R} {k1 : List Int → List Int → List Int → Option R} (h : x = B_49_82_0_1 y k0 k1) : gd c x = B_49_82_0_1 (gd c y) k0 k1 := by cases c; rfl; exact h
theorem Bcond_49_82_0_1 {R : Type} {c : Bool} {x x' : Option R} {y y' : Option E_49_82_0_1} {k0 : List Int → List Int → List Int → Option R} {k1 : List Int → List Int → List Int → Option R} (h : x = B_49_82_0_1 y k0 k1) (h' : x' = B_49_82_0_1 y' k0 k1) : (bif c then x else x') = B_49_82_0_1 (bif c then y else y') k0 k1 := by cases c; exact h'; exact h
theorem Bin_49_82_0_1_49_82_0_2 {R : Type} {r : Option E_49_82_0_2} {k0 : List Int → List Int → List Int → Option R} {k1 : List Int → List Int → List Int → Option R} {f0 : List Int → List Int → List Int → Option R} {g0 : List Int → List Int → List Int → Option E_49_82_0_1} (h0 : ∀ z0 z1 z2, f0 z0 z1 z2 = B_49_82_0_1 (g0 z0 z1 z2) k0 k1) : B_49_82_0_2 r f0 = B_49_82_0_1 (B_49_82_0_2 r g0) k0 k1 := by
 cases r with
 | none => rfl
 | some e => cases e with
   | e0 z0 z1 z2 => exact h0 _ _ _
theorem Bin_49_82_0_1_49_82_1_1 {R : Type} {r : Option E_49_82_1_1} {k0 : List Int → List Int → List Int → Option R} {k1 : List Int → List Int → List Int → Option R} {f0 : List Int → Int → List Int → List Int → List Int → Option R} {f1 : List Int → Int → List Int → List Int → List Int → Option R} {g0 : List Int → Int → List Int → List Int → List Int → Option E_49_82_0_1} {g1 : List Int → Int → List Int → List Int → List Int → Option E_49_82_0_1} (h0 : ∀ z0 z1 z2 z3 z4, f0 z0 z1 z2 z3 z4 = B_49_82_0_1 (g0 z0 z1 z2 z3 z4) k0 k1) (h1 : ∀ z0 z1 z2 z3 z4, f1 z0 z1 z2 z3 z4 = B_49_82_0_1 (g1 z0 z1 z2 z3 z4) k0 k1) : B_49_82_1_1 r f0 f1 = B_49_82_0_1 (B_49_82_1_1 r g0 g1) k0 k1 := by
 cases r with
 | none => rfl
 | some e => cases e with
   | e0 z0 z1 z2 z3 z4 => exact h0 _ _ _ _ _
   | e1 z0 z1 z2 z3 z4 => exact h1 _ _ _ _ _
theorem loop_49_82_0_1 {R : Type} (k : Ex → St → Option R) : ∀ (m : Nat) (p0 : List Int) (p1 : Int) (p2 : List Int) (p3 : List Int) (p4 : List Int), evLoopN (evCodeL sm_49 FU (ovr noO (evFn sm_49 fns FU 0)) (ir82_bt0 O_49_82_1) ir82_b0) (St.norm ir82_v0) m (T_49_82_0_1 p0 p1 p2 p3 p4) k = B_49_82_0_1 (L_49_82_0_1 m p0 p1 p2 p3 p4) (fun p2 p3 p4 => k (Ex.exit (0 : Nat)) (X_49_82_0_1_0 p2 p3 p4)) (fun p2 p3 p4 => k (Ex.exit (0 : Nat)) (X_49_82_0_1_1 p2 p3 p4))
 | 0, _, _, _, _, _ => rfl
 | m + 1, p0, p1, p2, p3, p4 => by
   rw [evLoopN_succ, body_49_82_0_1, L_49_82_0_1]
   repeat' first | (refine (loop_49_82_0_2 k m _ _ _ _ _).trans ?_; apply Bin_49_82_0_1_49_82_0_2 <;> intros) | apply Bgd_49_82_0_1 | apply Bcond_49_82_0_1 | (apply Bin_49_82_0_1_49_82_0_2 <;> intros) | (apply Bin_49_82_0_1_49_82_1_1 <;> intros) | exact loop_49_82_0_1 k m _ _ _ _ _ | rfl
theorem ok_49_82_0_1 {R : Type} (T : St) (k : Ex → St → Option R) (r : R) (h0 : o_49_82_0_1 G_49_82_0_1 T k = some r) : evLoopN (evCode sm_49 FU (evFn sm_49 fns FU 0) ir82_b0) (St.norm ir82_v0) FU T k = some r := by
 obtain ⟨p0, p1, p2, p3, p4, rfl, h⟩ := o_49_82_0_1_inv h0
 refine evLoopN_L (t := (ir82_bt0 O_49_82_1)) noO_ok (ir82_bt0ok (fun T k r => OK_49_82_1 T k r)) _ _ _ _ ?_
 rw [loop_49_82_0_1]
 exact h
theorem OK_49_82_0 {R : Type} (T : St) (k : Ex → St → Option R) (r : R) (h : O_49_82_0 T k = some r) : evLoopN (evCode sm_49 FU (evFn sm_49 fns FU 0) ir82_b0) (St.norm ir82_v0) FU T k = some r := by
 unfold O_49_82_0 at h
 cases hm : m_49_82_0_0 T
 rotate_left
 · rw [hm, cond_true] at h; exact ok_49_82_0_0 T k r h
 rw [hm, cond_false] at h
 clear hm
 cases hm : m_49_82_0_1 T
 rotate_left
 · rw [hm, cond_true] at h; exact ok_49_82_0_1 T k r h
 rw [hm, cond_false] at h
 clear hm
 cases hm : m_49_82_0_2 T
 rotate_left
 · rw [hm, cond_true] at h; exact ok_49_82_0_2 T k r h
 rw [hm, cond_false] at h
 clear hm
 cases h
theorem g_49_82_ok {R : Type} (args : List CV) (hp : List Blk) (k : CV → List Blk → Option R) (r : R) (h : g_49_82 args hp k = some r) : evFn sm_49 fns FU 1 82 args hp k = some r :=
 evFnL_sound (fn := ir82) (t := (ir82_t O_49_82_0)) (o := noO) rfl noO_ok (ir82_tok (fun T k r => OK_49_82_0 T k r)) h
theorem ov_49_49_ok {R : Type} : OvrOK (R := R) (fun f' => bif Nat.beq f' 82 then some (g_49_82) else none) (evFn sm_49 fns FU 1) := by
 intro f' g h args hp k r hg
 dsimp only at h
 by_cases h82 : f' = 82
 · subst h82
   injection h with h
   subst h
   exact evFn_le 0 (g_49_82_ok _ _ _ _ hg)
 rw [nbeq_ne h82, cond_false] at h
 cases h
noncomputable def F_49 (a0 : Int) (a1 : (List Int)) : Option ((List Int) × Unit) :=
 B_49_82_0_0 (L_49_82_0_0 4611686018427387904 0 (replicate 32 (0 :Int)) [wrap u32 a0, wrap u32 (↑(length a1) : Int)] []) fun y9 y10 y11 => B_49_82_0_1 (L_49_82_0_1 4611686018427387904 a1 0 y9 y10 y11) (fun y12 y13 y14 => gd (p_83 y14) (some ((v_83 y14).1, PUnit.unit))) fun y15 y16 y17 => gd (p_83 y17) (some ((v_83 y17).1, PUnit.unit))
theorem fn_49 (a0 : Int) (a1 : (List Int)) : evFnL sm_49 FU (ovr (fun f' => bif Nat.beq f' 82 then some (g_49_82) else none) (evFn sm_49 fns FU 1)) .nil ir49 (ofH [(.int .i64), (.slice (.int .u32))] (a0, a1, ())) [] (pureK [(.arr 32 (.int .u8))]) = F_49 a0 a1 := by kernel_rfl
noncomputable def Sp.p_49 (a0 : Int) (a1 : (List Int)) : Bool := (F_49 a0 a1).isSome
noncomputable def Sp.v_49 (a0 : Int) (a1 : (List Int)) : (List Int) × Unit := (F_49 a0 a1).getD (dfH [(.arr 32 (.int .u8))])
noncomputable def s_49 : Summ := shN [(.int .i64), (.slice (.int .u32))] [(.arr 32 (.int .u8))] (fun x => p_49 x.1 x.2.1) (fun x => v_49 x.1 x.2.1)
theorem pv_49 (a0 : Int) (a1 : (List Int)) {y : (List Int) × Unit} (h : F_49 a0 a1 = some y) : p_49 a0 a1 = true ∧ v_49 a0 a1 = y := ⟨by rw [p_49, h]; rfl, by rw [v_49, h]; rfl⟩
theorem run_49 (x : HDen [(.int .i64), (.slice (.int .u32))]) (y : HDen [(.arr 32 (.int .u8))]) (h : F_49 x.1 x.2.1 = some y) : evFn sm_49 fns FU 2 49 (ofH [(.int .i64), (.slice (.int .u32))] x) [] (pureK [(.arr 32 (.int .u8))]) = some y :=
 evFnL_sound (fn := ir49) (t := .nil) (o := (fun f' => bif Nat.beq f' 82 then some (g_49_82) else none)) rfl ov_49_49_ok trivial ((fn_49 _ _).trans h)
end
noncomputable section
noncomputable def sm_84 : Nat → Option Summ := fun f => none
noncomputable def F_84 (a0 : (Int × ((List (List Int)) × ((List (List Int)) × Unit)))) : Option (Bool × Unit) :=
 bif decide (a0.1 ≥ 0) then bif decide (a0.1 ≤ 3) then bif (↑(length (a0.2.1)) : Int) == 67 then some ((↑(length (a0.2.2.1)) : Int) == 2, PUnit.unit) else some (false, PUnit.unit) else some (false, PUnit.unit) else some (false, PUnit.unit)
theorem fn_84 (a0 : (Int × ((List (List Int)) × ((List (List Int)) × Unit)))) : evFnL sm_84 FU (ovr noO (evFn sm_84 fns FU 0)) .nil ir84 (ofH [(.pair (.int .i64) (.pair (.slice (.arr 32 (.int .u8))) (.pair (.slice (.arr 32 (.int .u8))) .unit)))] (a0, ())) [] (pureK [.bool]) = F_84 a0 := by kernel_rfl
noncomputable def Sp.p_84 (a0 : (Int × ((List (List Int)) × ((List (List Int)) × Unit)))) : Bool := (F_84 a0).isSome
noncomputable def Sp.v_84 (a0 : (Int × ((List (List Int)) × ((List (List Int)) × Unit)))) : Bool × Unit := (F_84 a0).getD (dfH [.bool])
noncomputable def s_84 : Summ := shN [(.pair (.int .i64) (.pair (.slice (.arr 32 (.int .u8))) (.pair (.slice (.arr 32 (.int .u8))) .unit)))] [.bool] (fun x => p_84 x.1) (fun x => v_84 x.1)
theorem pv_84 (a0 : (Int × ((List (List Int)) × ((List (List Int)) × Unit)))) {y : Bool × Unit} (h : F_84 a0 = some y) : p_84 a0 = true ∧ v_84 a0 = y := ⟨by rw [p_84, h]; rfl, by rw [v_84, h]; rfl⟩
theorem run_84 (x : HDen [(.pair (.int .i64) (.pair (.slice (.arr 32 (.int .u8))) (.pair (.slice (.arr 32 (.int .u8))) .unit)))]) (y : HDen [.bool]) (h : F_84 x.1 = some y) : evFn sm_84 fns FU 1 84 (ofH [(.pair (.int .i64) (.pair (.slice (.arr 32 (.int .u8))) (.pair (.slice (.arr 32 (.int .u8))) .unit)))] x) [] (pureK [.bool]) = some y :=
 evFnL_sound (fn := ir84) (t := .nil) (o := noO) rfl noO_ok trivial ((fn_84 _).trans h)
end
noncomputable section
noncomputable def sm_85 : Nat → Option Summ := fun f => none
noncomputable def T_85_0 (p0 p1 : Int) (p2 p3 : List Int) : St := St.mk ([jk, CV.ptr 0 [], jk, CV.whole 1, CV.int i64 p0, CV.int i64 p1] ++ (jl 38)) [Blk.mem (CV.pure (Ty.arr 32 (Ty.int u8)) p2), Blk.vec 3 (Ty.int i64) p3] 0
noncomputable def X_85_0_0 (p0 : Int) (p3 : List Int) : St := St.mk ([jk, jk, jk, CV.whole 0, CV.int i64 p0] ++ (jl 39)) [Blk.vec 3 (Ty.int i64) p3] 0
inductive Sp.E_85_0 where
 | e0 (p0 : Int) (p3 : List Int)
noncomputable def Sp.B_85_0 {R : Type} (r : Option E_85_0) (k0 : Int → List Int → Option R) : Option R := match r with
 | none => none
 | some (.e0 p0 p3) => k0 p0 p3
noncomputable def Sp.L_85_0 : Nat → Int → Int → List Int → List Int → Option E_85_0
 | 0, _, _, _, _ => none
 | m + 1, p0, p1, p2, p3 => bif decide (p1 < 64) then gd (inB (wrap i64 (Int.tdiv p1 2)) 32) (gd (decide (toNat (wrap i64 (Int.tdiv p1 2)) < 32) && true) (bif Int.tmod p1 (2 :Int) == (1 :Int) then gd (inB (wrap i64 (Int.tdiv p1 2)) 32) (gd (decide (toNat (wrap i64 (Int.tdiv p1 2)) < 32) && true) (gd (room (length p3 + 1) 8) (L_85_0 m (wrap i64 (wrap i64 (p0 + 15) - wrap i64 (Sp.andI u8 (getD p2 (toNat (wrap i64 (Int.tdiv p1 2))) 0) 15))) (wrap i64 (p1 + 1)) p2 (p3 ++ [wrap i64 (Sp.andI u8 (getD p2 (toNat (wrap i64 (Int.tdiv p1 2))) 0) 15)])))) else gd (room (length p3 + 1) 8) (L_85_0 m (wrap i64 (wrap i64 (p0 + 15) - wrap i64 (Int.fdiv (getD p2 (toNat (wrap i64 (Int.tdiv p1 2))) 0) 16))) (wrap i64 (p1 + 1)) p2 (p3 ++ [wrap i64 (Int.fdiv (getD p2 (toNat (wrap i64 (Int.tdiv p1 2))) 0) 16)])))) else some (E_85_0.e0 p0 p3)
noncomputable def G_85_0 {R : Type} (p0 p1 : Int) (p2 p3 : List Int) (k : Ex → St → Option R) : Option R := B_85_0 (L_85_0 FU p0 p1 p2 p3) (fun p0 p3 => k (Ex.exit 0) (X_85_0_0 p0 p3))
noncomputable def o_85_0 {R : Type} (G : Int → Int → List Int → List Int → (Ex → St → Option R) → Option R) : St → (Ex → St → Option R) → Option R := fun T k => match T.sl.getD 1 .junk, T.sl.getD 3 .junk, T.sl.getD 4 .junk, T.sl.getD 5 .junk, T.hp with
 | CV.ptr 0 [], CV.whole 1, CV.int i64 p0, CV.int i64 p1, ((Blk.mem (CV.pure (Ty.arr 32 (Ty.int u8)) p2)) :: (Blk.vec 3 (Ty.int i64) p3) :: []) => gd (shapeOK T 44 [1, 3, 4, 5] 0) (G p0 p1 p2 p3 k)
 | _, _, _, _, _ => none
theorem o_85_0_inv {R : Type} {G : Int → Int → List Int → List Int → (Ex → St → Option R) → Option R} {T : St} {k : Ex → St → Option R} {r : R} (h : o_85_0 G T k = some r) : ∃ p0 p1 p2 p3, T = T_85_0 p0 p1 p2 p3 ∧ G p0 p1 p2 p3 k = some r := by
 unfold o_85_0 at h
 split at h
 · obtain ⟨hs, h'⟩ := gd_some h
   refine ⟨_, _, _, _, (st_of (asg := [(1, _), (3, _), (4, _), (5, _)]) hs ⟨by assumption, by assumption, by assumption, by assumption, trivial⟩ (by assumption)).trans ?_, h'⟩
   kernel_rfl
 · cases h
noncomputable def O_85_85_0 {R : Type} : St → (Ex → St → Option R) → Option R := fun T k => o_85_0 G_85_0 T k
theorem body_85_0 {R : Type} (K0 : St → Option R) (K1 : Ex → St → Option R) (p0 p1 : Int) (p2 p3 : List Int) : evLB (evCodeL sm_85 FU (ovr noO (evFn sm_85 fns FU 0)) .nil ir85_b0) (St.norm ir85_v0) (T_85_0 p0 p1 p2 p3) K0 K1 =
 bif decide (p1 < 64) then gd (inB (wrap i64 (Int.tdiv p1 2)) 32) (gd (decide (toNat (wrap i64 (Int.tdiv p1 2)) < 32) && true) (bif Int.tmod p1 (2 :Int) == (1 :Int) then gd (inB (wrap i64 (Int.tdiv p1 2)) 32) (gd (decide (toNat (wrap i64 (Int.tdiv p1 2)) < 32) && true) (gd (room (length p3 + 1) 8) (K0 (T_85_0 (wrap i64 (wrap i64 (p0 + 15) - wrap i64 (Sp.andI u8 (getD p2 (toNat (wrap i64 (Int.tdiv p1 2))) 0) 15))) (wrap i64 (p1 + 1)) p2 (p3 ++ [wrap i64 (Sp.andI u8 (getD p2 (toNat (wrap i64 (Int.tdiv p1 2))) 0) 15)]))))) else gd (room (length p3 + 1) 8) (K0 (T_85_0 (wrap i64 (wrap i64 (p0 + 15) - wrap i64 (Int.fdiv (getD p2 (toNat (wrap i64 (Int.tdiv p1 2))) 0) 16))) (wrap i64 (p1 + 1)) p2 (p3 ++ [wrap i64 (Int.fdiv (getD p2 (toNat (wrap i64 (Int.tdiv p1 2))) 0) 16)]))))) else K1 (Ex.exit 0) (X_85_0_0 p0 p3) := by kernel_rfl
theorem Bgd_85_0 {R : Type} {c : Bool} {x : Option R} {y : Option E_85_0} {k0 : Int → List Int → Option R} (h : x = B_85_0 y k0) : gd c x = B_85_0 (gd c y) k0 := by cases c; rfl; exact h
theorem Bcond_85_0 {R : Type} {c : Bool} {x x' : Option R} {y y' : Option E_85_0} {k0 : Int → List Int → Option R} (h : x = B_85_0 y k0) (h' : x' = B_85_0 y' k0) : (bif c then x else x') = B_85_0 (bif c then y else y') k0 := by cases c; exact h'; exact h
theorem loop_85_0 {R : Type} (k : Ex → St → Option R) : ∀ (m : Nat) (p0 : Int) (p1 : Int) (p2 : List Int) (p3 : List Int), evLoopN (evCodeL sm_85 FU (ovr noO (evFn sm_85 fns FU 0)) .nil ir85_b0) (St.norm ir85_v0) m (T_85_0 p0 p1 p2 p3) k = B_85_0 (L_85_0 m p0 p1 p2 p3) (fun p0 p3 => k (Ex.exit (0 : Nat)) (X_85_0_0 p0 p3))
 | 0, _, _, _, _ => rfl
 | m + 1, p0, p1, p2, p3 => by
   rw [evLoopN_succ, body_85_0, L_85_0]
   repeat' first | apply Bgd_85_0 | apply Bcond_85_0 | exact loop_85_0 k m _ _ _ _ | rfl
theorem ok_85_0 {R : Type} (T : St) (k : Ex → St → Option R) (r : R) (h0 : o_85_0 G_85_0 T k = some r) : evLoopN (evCode sm_85 FU (evFn sm_85 fns FU 0) ir85_b0) (St.norm ir85_v0) FU T k = some r := by
 obtain ⟨p0, p1, p2, p3, rfl, h⟩ := o_85_0_inv h0
 refine evLoopN_L (t := .nil) noO_ok trivial _ _ _ _ ?_
 rw [loop_85_0]
 exact h
theorem OK_85_85_0 {R : Type} (T : St) (k : Ex → St → Option R) (r : R) (h : O_85_85_0 T k = some r) : evLoopN (evCode sm_85 FU (evFn sm_85 fns FU 0) ir85_b0) (St.norm ir85_v0) FU T k = some r := ok_85_0 T k r h
noncomputable def F_85 (a0 : (List Int)) : Option ((List Int) × Unit) :=
 B_85_0 (L_85_0 4611686018427387904 0 0 a0 []) fun y2 y3 => gd (room (length y3 + 3) 8) (some (y3 ++ [wrap i64 (Int.tdiv y2 256), Int.tmod (wrap i64 (Int.tdiv y2 16)) 16, Int.tmod y2 16], PUnit.unit))
theorem fn_85 (a0 : (List Int)) : evFnL sm_85 FU (ovr noO (evFn sm_85 fns FU 0)) (ir85_t O_85_85_0) ir85 (ofH [(.arr 32 (.int .u8))] (a0, ())) [] (pureK [(.slice (.int .i64))]) = F_85 a0 := by kernel_rfl
noncomputable def Sp.p_85 (a0 : (List Int)) : Bool := (F_85 a0).isSome
noncomputable def Sp.v_85 (a0 : (List Int)) : (List Int) × Unit := (F_85 a0).getD (dfH [(.slice (.int .i64))])
noncomputable def s_85 : Summ := shS [(.arr 32 (.int .u8))] [(.slice (.int .i64))] (fun x => p_85 x.1) (fun x => v_85 x.1)
theorem pv_85 (a0 : (List Int)) {y : (List Int) × Unit} (h : F_85 a0 = some y) : p_85 a0 = true ∧ v_85 a0 = y := ⟨by rw [p_85, h]; rfl, by rw [v_85, h]; rfl⟩
theorem run_85 (x : HDen [(.arr 32 (.int .u8))]) (y : HDen [(.slice (.int .i64))]) (h : F_85 x.1 = some y) : evFn sm_85 fns FU 1 85 (ofH [(.arr 32 (.int .u8))] x) [] (pureK [(.slice (.int .i64))]) = some y :=
 evFnL_sound (fn := ir85) (t := (ir85_t O_85_85_0)) (o := noO) rfl noO_ok (ir85_tok (fun T k r => OK_85_85_0 T k r)) ((fn_85 _).trans h)
end
end Go.Ev
