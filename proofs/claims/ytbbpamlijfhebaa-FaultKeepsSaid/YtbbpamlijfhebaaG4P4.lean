/- Helpers: functions of the program as Lean functions, and what they compute. No condition. -/
import Derived.Test.YtbbpamlijfhebaaE4P2
import Derived.Test.YtbbpamlijfhebaaG4P0
import Derived.Test.YtbbpamlijfhebaaG4P3
import Derived.Test.YtbbpamlijfhebaaProg
import Derived.Test.YtbbpamlijfhebaaG4P1
import Derived.Test.YtbbpamlijfhebaaG4P2
set_option maxRecDepth 10000
set_option linter.unusedVariables false
set_option linter.unusedSimpArgs false
namespace Go.Ev
open Go
set_option maxRecDepth 100000
set_option maxHeartbeats 4000000
set_option linter.unusedVariables false
noncomputable section
abbrev Zy4_0 : Ty := (Ty.pair (Ty.slice (Ty.pair (Ty.int IntKind.i64) (Ty.pair (Ty.int IntKind.i64) (Ty.pair (Ty.int IntKind.i64) (Ty.pair (Ty.int IntKind.i64) (Ty.pair (Ty.int IntKind.i64) (Ty.pair (Ty.int IntKind.i64) (Ty.pair Ty.bool (Ty.pair (Ty.int IntKind.i64) Ty.unit))))))))) (Ty.pair (Ty.slice (Ty.pair (Ty.int IntKind.i64) (Ty.pair (Ty.int IntKind.i64) (Ty.pair (Ty.int IntKind.i64) (Ty.pair (Ty.int IntKind.i64) (Ty.pair (Ty.int IntKind.i64) (Ty.pair (Ty.slice (Ty.int IntKind.i64)) (Ty.pair (Ty.int IntKind.i64) Ty.unit)))))))) (Ty.pair (Ty.int IntKind.i64) (Ty.pair Ty.bool Ty.unit))))
abbrev Zt4_1 : Type := List (List (Int × Int × Int × Int × Int × Int × Bool × Int × Unit) × List (Int × Int × Int × Int × Int × List Int × Int × Unit) × Int × Bool × Unit)
abbrev Zt4_2 : Type := List (Int × Int × Int × Int × Int × Int × Bool × Int × Unit) × List (Int × Int × Int × Int × Int × List Int × Int × Unit) × Int × Bool × Unit
abbrev Zy4_3 : Ty := (.pair (.slice (.pair (.int .i64) (.pair (.int .i64) (.pair (.int .i64) (.pair (.int .i64) (.pair (.int .i64) (.pair (.int .i64) (.pair .bool (.pair (.int .i64) .unit))))))))) (.pair (.slice (.pair (.int .i64) (.pair (.int .i64) (.pair (.int .i64) (.pair (.int .i64) (.pair (.int .i64) (.pair (.slice (.int .i64)) (.pair (.int .i64) .unit)))))))) (.pair (.int .i64) (.pair .bool .unit))))

def sm_4 : Nat → Option Summ := fun f => bif Nat.beq f 8 then some s_8 else bif Nat.beq f 15 then some s_15 else bif Nat.beq f 16 then some s_16 else bif Nat.beq f 17 then some s_17 else bif Nat.beq f 18 then some s_18 else none
def T_4_0 (p0 : Zt4_1) (p1 : Int) (p2 : Int) (p3 : Zt4_2) : St := St.mk ([jk, jk, CV.ptr (0 : Nat) []] ++ (jl 20 ++ ([CV.pure (Ty.slice (Ty.pair (Ty.slice (Ty.pair (Ty.int IntKind.i64) (Ty.pair (Ty.int IntKind.i64) (Ty.pair (Ty.int IntKind.i64) (Ty.pair (Ty.int IntKind.i64) (Ty.pair (Ty.int IntKind.i64) (Ty.pair (Ty.int IntKind.i64) (Ty.pair Ty.bool (Ty.pair (Ty.int IntKind.i64) Ty.unit))))))))) (Ty.pair (Ty.slice (Ty.pair (Ty.int IntKind.i64) (Ty.pair (Ty.int IntKind.i64) (Ty.pair (Ty.int IntKind.i64) (Ty.pair (Ty.int IntKind.i64) (Ty.pair (Ty.int IntKind.i64) (Ty.pair (Ty.slice (Ty.int IntKind.i64)) (Ty.pair (Ty.int IntKind.i64) Ty.unit)))))))) (Ty.pair (Ty.int IntKind.i64) (Ty.pair Ty.bool Ty.unit))))) p0, CV.int IntKind.i64 p1, CV.int IntKind.i64 p2] ++ (jl 37)))) [Blk.mem (CV.pure Zy4_0 p3)] (0 : Nat)
def X_4_0_0 : St := St.mk ([jk, jk, jk, jk, CV.bool false] ++ (jl 58)) [] (0 : Nat)
def X_4_0_1 : St := St.mk (jl 63) [] (0 : Nat)
inductive Sp.E_4_0 where
  | e0
  | e1
def Sp.B_4_0 {R : Type} (r : Option Sp.E_4_0) (k0 : Option R) (k1 : Option R) : Option R := match r with
  | none => none
  | some (.e0) => k0
  | some (.e1) => k1
def Sp.L_4_0 : Nat → (List (List (Int × Int × Int × Int × Int × Int × Bool × Int × Unit) × List (Int × Int × Int × Int × Int × List Int × Int × Unit) × Int × Bool × Unit)) → (Int) → (Int) → (List (Int × Int × Int × Int × Int × Int × Bool × Int × Unit) × List (Int × Int × Int × Int × Int × List Int × Int × Unit) × Int × Bool × Unit) → Option Sp.E_4_0
  | 0, _, _, _, _ => none
  | m + 1, p0, p1, p2, p3 => bif decide (p2 < p1) then gd (inB p2 (List.length p0)) (gd (Sp.p_15 (List.getD p0 (Int.toNat p2) Zd3)) (bif !(Sp.v_15 (List.getD p0 (Int.toNat p2) Zd3)).1 then some (Sp.E_4_0.e0) else gd (Sp.p_18 (List.getD p0 (Int.toNat p2) Zd3)) (bif !(Sp.v_18 (List.getD p0 (Int.toNat p2) Zd3)).1 then some (Sp.E_4_0.e0) else bif (↑(List.length ((List.getD p0 (Int.toNat p2) Zd3).1)) : Int) != (↑(List.length (p3.1)) : Int) then some (Sp.E_4_0.e0) else bif (↑(List.length ((List.getD p0 (Int.toNat p2) Zd3).2.1)) : Int) != (↑(List.length (p3.2.1)) : Int) then some (Sp.E_4_0.e0) else bif decide ((List.getD p0 (Int.toNat p2) Zd3).2.2.1 < p3.2.2.1) then some (Sp.E_4_0.e0) else Sp.L_4_0 m p0 p1 (IntKind.wrap IntKind.i64 (p2 + (1 : Int))) p3))) else some (Sp.E_4_0.e1)
def G_4_0 {R : Type} (p0 : Zt4_1) (p1 : Int) (p2 : Int) (p3 : Zt4_2) (k : Ex → St → Option R) : Option R := Sp.B_4_0 (Sp.L_4_0 FU p0 p1 p2 p3) (k Ex.ret (X_4_0_0)) (k (Ex.exit (0 : Nat)) (X_4_0_1))
def o_4_0 {R : Type} (G : (Zt4_1) → (Int) → (Int) → (Zt4_2) → (Ex → St → Option R) → Option R) : St → (Ex → St → Option R) → Option R := fun T k => match T.sl.getD 2 .junk, T.sl.getD 23 .junk, T.sl.getD 24 .junk, T.sl.getD 25 .junk, T.hp with
  | CV.ptr (0 : Nat) [], CV.pure (Ty.slice (Ty.pair (Ty.slice (Ty.pair (Ty.int IntKind.i64) (Ty.pair (Ty.int IntKind.i64) (Ty.pair (Ty.int IntKind.i64) (Ty.pair (Ty.int IntKind.i64) (Ty.pair (Ty.int IntKind.i64) (Ty.pair (Ty.int IntKind.i64) (Ty.pair Ty.bool (Ty.pair (Ty.int IntKind.i64) Ty.unit))))))))) (Ty.pair (Ty.slice (Ty.pair (Ty.int IntKind.i64) (Ty.pair (Ty.int IntKind.i64) (Ty.pair (Ty.int IntKind.i64) (Ty.pair (Ty.int IntKind.i64) (Ty.pair (Ty.int IntKind.i64) (Ty.pair (Ty.slice (Ty.int IntKind.i64)) (Ty.pair (Ty.int IntKind.i64) Ty.unit)))))))) (Ty.pair (Ty.int IntKind.i64) (Ty.pair Ty.bool Ty.unit))))) p0, CV.int IntKind.i64 p1, CV.int IntKind.i64 p2, ((Blk.mem (CV.pure (Ty.pair (Ty.slice (Ty.pair (Ty.int IntKind.i64) (Ty.pair (Ty.int IntKind.i64) (Ty.pair (Ty.int IntKind.i64) (Ty.pair (Ty.int IntKind.i64) (Ty.pair (Ty.int IntKind.i64) (Ty.pair (Ty.int IntKind.i64) (Ty.pair Ty.bool (Ty.pair (Ty.int IntKind.i64) Ty.unit))))))))) (Ty.pair (Ty.slice (Ty.pair (Ty.int IntKind.i64) (Ty.pair (Ty.int IntKind.i64) (Ty.pair (Ty.int IntKind.i64) (Ty.pair (Ty.int IntKind.i64) (Ty.pair (Ty.int IntKind.i64) (Ty.pair (Ty.slice (Ty.int IntKind.i64)) (Ty.pair (Ty.int IntKind.i64) Ty.unit)))))))) (Ty.pair (Ty.int IntKind.i64) (Ty.pair Ty.bool Ty.unit)))) p3)) :: []) => gd (shapeOK T 63 [2, 23, 24, 25] (0 : Nat)) (G p0 p1 p2 p3 k)
  | _, _, _, _, _ => none
theorem o_4_0_inv {R : Type} {G : (Zt4_1) → (Int) → (Int) → (Zt4_2) → (Ex → St → Option R) → Option R} {T : St} {k : Ex → St → Option R} {r : R} (h : o_4_0 G T k = some r) : ∃ p0 p1 p2 p3, T = T_4_0 p0 p1 p2 p3 ∧ G p0 p1 p2 p3 k = some r := by
  unfold o_4_0 at h
  split at h
  · obtain ⟨hs, h'⟩ := gd_some h
    refine ⟨_, _, _, _, (st_of (asg := [(2, _), (23, _), (24, _), (25, _)]) hs ⟨by assumption, by assumption, by assumption, by assumption, trivial⟩ (by assumption)).trans ?_, h'⟩
    kernel_rfl
  · cases h
def O_4_4_0 {R : Type} : St → (Ex → St → Option R) → Option R := fun T k => o_4_0 G_4_0 T k
theorem body_4_0 {R : Type} (K0 : St → Option R) (K1 : Ex → St → Option R) (p0 : Zt4_1) (p1 : Int) (p2 : Int) (p3 : Zt4_2) : evLB (evCodeL sm_4 FU (ovr noO (evFn sm_4 fns FU 0)) .nil ir4_b0) (St.norm ir4_v0) (T_4_0 p0 p1 p2 p3) K0 K1 =
  bif decide (p2 < p1) then gd (inB p2 (List.length p0)) (gd (Sp.p_15 (List.getD p0 (Int.toNat p2) (Ty.dflt Zy4_0))) (bif !(Sp.v_15 (List.getD p0 (Int.toNat p2) (Ty.dflt Zy4_0))).1 then K1 Ex.ret X_4_0_0 else gd (Sp.p_18 (List.getD p0 (Int.toNat p2) (Ty.dflt Zy4_0))) (bif !(Sp.v_18 (List.getD p0 (Int.toNat p2) (Ty.dflt Zy4_0))).1 then K1 Ex.ret X_4_0_0 else bif (↑(List.length ((List.getD p0 (Int.toNat p2) (Ty.dflt Zy4_0)).1)) : Int) != (↑(List.length (p3.1)) : Int) then K1 Ex.ret X_4_0_0 else bif (↑(List.length ((List.getD p0 (Int.toNat p2) (Ty.dflt Zy4_0)).2.1)) : Int) != (↑(List.length (p3.2.1)) : Int) then K1 Ex.ret X_4_0_0 else bif decide ((List.getD p0 (Int.toNat p2) (Ty.dflt Zy4_0)).2.2.1 < p3.2.2.1) then K1 Ex.ret X_4_0_0 else K0 (T_4_0 p0 p1 (IntKind.wrap IntKind.i64 (p2 + (1 : Int))) p3)))) else K1 (Ex.exit (0 : Nat)) X_4_0_1 := by kernel_rfl
theorem Bgd_4_0 {R : Type} {c : Bool} {x : Option R} {y : Option Sp.E_4_0} {k0 : Option R} {k1 : Option R} (h : x = Sp.B_4_0 y k0 k1) : gd c x = Sp.B_4_0 (gd c y) k0 k1 := by cases c; rfl; exact h
theorem Bcond_4_0 {R : Type} {c : Bool} {x x' : Option R} {y y' : Option Sp.E_4_0} {k0 : Option R} {k1 : Option R} (h : x = Sp.B_4_0 y k0 k1) (h' : x' = Sp.B_4_0 y' k0 k1) : (bif c then x else x') = Sp.B_4_0 (bif c then y else y') k0 k1 := by cases c; exact h'; exact h
theorem loop_4_0 {R : Type} (k : Ex → St → Option R) : ∀ (m : Nat) (p0 : Zt4_1) (p1 : Int) (p2 : Int) (p3 : Zt4_2), evLoopN (evCodeL sm_4 FU (ovr noO (evFn sm_4 fns FU 0)) .nil ir4_b0) (St.norm ir4_v0) m (T_4_0 p0 p1 p2 p3) k = Sp.B_4_0 (Sp.L_4_0 m p0 p1 p2 p3) (k Ex.ret (X_4_0_0)) (k (Ex.exit (0 : Nat)) (X_4_0_1))
  | 0, _, _, _, _ => rfl
  | m + 1, p0, p1, p2, p3 => by
    rw [evLoopN_succ, body_4_0, Sp.L_4_0]
    repeat' first | apply Bgd_4_0 | apply Bcond_4_0 | exact loop_4_0 k m _ _ _ _ | rfl
theorem ok_4_0 {R : Type} (T : St) (k : Ex → St → Option R) (r : R) (h0 : o_4_0 G_4_0 T k = some r) : evLoopN (evCode sm_4 FU (evFn sm_4 fns FU 0) ir4_b0) (St.norm ir4_v0) FU T k = some r := by
  obtain ⟨p0, p1, p2, p3, rfl, h⟩ := o_4_0_inv h0
  refine evLoopN_L (t := .nil) noO_ok trivial _ _ _ _ ?_
  rw [loop_4_0]
  exact h
theorem OK_4_4_0 {R : Type} (T : St) (k : Ex → St → Option R) (r : R) (h : O_4_4_0 T k = some r) : evLoopN (evCode sm_4 FU (evFn sm_4 fns FU 0) ir4_b0) (St.norm ir4_v0) FU T k = some r := ok_4_0 T k r h
def F_4 (a0 : ((List (Int × (Int × (Int × (Int × (Int × (Int × (Bool × (Int × Unit))))))))) × ((List (Int × (Int × (Int × (Int × (Int × ((List Int) × (Int × Unit)))))))) × (Int × (Bool × Unit))))) (a1 : (List (Int × (Bool × Unit)))) : Option (Bool) :=
  gd Sp.p_8 (bif !Sp.v_8.1 then some false else gd (Sp.p_16 a0) (bif (Sp.v_16 a0).1 then some true else bif decide ((↑(List.length a1) : Int) > (100 : Int)) then some true else gd (Sp.p_15 a0) (bif !(Sp.v_15 a0).1 then some true else gd (Sp.p_17 a0 a1) (Sp.B_4_0 (Sp.L_4_0 (4611686018427387904 : Nat) ((Sp.v_17 a0 a1).1) (↑(List.length ((Sp.v_17 a0 a1).1)) : Int) (0 : Int) a0) (some false) (some true)))))
theorem fn_4 (a0 : ((List (Int × (Int × (Int × (Int × (Int × (Int × (Bool × (Int × Unit))))))))) × ((List (Int × (Int × (Int × (Int × (Int × ((List Int) × (Int × Unit)))))))) × (Int × (Bool × Unit))))) (a1 : (List (Int × (Bool × Unit)))) : evFnL sm_4 FU (ovr noO (evFn sm_4 fns FU 0)) (ir4_t O_4_4_0) ir4 (ofH [Zy4_3, (.slice (.pair (.int .i8) (.pair .bool .unit)))] (a0, a1, ())) [] bk = F_4 a0 a1 := by kernel_rfl
theorem run_4 (a0 : ((List (Int × (Int × (Int × (Int × (Int × (Int × (Bool × (Int × Unit))))))))) × ((List (Int × (Int × (Int × (Int × (Int × ((List Int) × (Int × Unit)))))))) × (Int × (Bool × Unit))))) (a1 : (List (Int × (Bool × Unit)))) {b : Bool} (h : F_4 a0 a1 = some b) : evFn sm_4 fns FU 1 4 (ofH [Zy4_3, (.slice (.pair (.int .i8) (.pair .bool .unit)))] (a0, a1, ())) [] bk = some b :=
  evFnL_sound (fn := ir4) (t := (ir4_t O_4_4_0)) (o := noO) rfl noO_ok (ir4_tok (fun T k r => OK_4_4_0 T k r)) ((fn_4 _ _).trans h)
end
end Go.Ev
namespace Go.Proofs
open Go.Shelf
def Try.clone30_ren : Go.Shelf.Ren := ⟨fun | 41 => 30 | n => n, fun | 22 => 24 | 23 => 23 | 4 => 4 | n => n, fun | n => n⟩
theorem Try.clone30 : Go.Proofs.SlLaysE0.n41 Try.prog Try.clone30_ren := {
  mixed := by kernel_rfl
  f41 := ⟨Try.f30.name, by decide, Try.func30.trans (congrArg some (by kernel_rfl))⟩
  t4 := Try.underlying4
  a4 := Try.isAgg4
  z4 := Try.sizeOf4
  v4 := Try.zeroValue4
  t22 := Try.underlying24
  a22 := Try.isAgg24
  z22 := Try.sizeOf24
  v22 := Try.zeroValue24 }
def Try.clone46_ren : Go.Shelf.Ren := ⟨fun | 41 => 46 | n => n, fun | 22 => 27 | 23 => 46 | 4 => 4 | n => n, fun | n => n⟩
theorem Try.clone46 : Go.Proofs.SlLaysE0.n41 Try.prog Try.clone46_ren := {
  mixed := by kernel_rfl
  f41 := ⟨Try.f46.name, by decide, Try.func46.trans (congrArg some (by kernel_rfl))⟩
  t4 := Try.underlying4
  a4 := Try.isAgg4
  z4 := Try.sizeOf4
  v4 := Try.zeroValue4
  t22 := Try.underlying27
  a22 := Try.isAgg27
  z22 := Try.sizeOf27
  v22 := Try.zeroValue27 }
def Try.clone47_ren : Go.Shelf.Ren := ⟨fun | 41 => 47 | n => n, fun | 22 => 44 | 23 => 3 | 4 => 4 | n => n, fun | n => n⟩
theorem Try.clone47 : Go.Proofs.SlLaysE0.n41 Try.prog Try.clone47_ren := {
  mixed := by kernel_rfl
  f41 := ⟨Try.f47.name, by decide, Try.func47.trans (congrArg some (by kernel_rfl))⟩
  t4 := Try.underlying4
  a4 := Try.isAgg4
  z4 := Try.sizeOf4
  v4 := Try.zeroValue4
  t22 := Try.underlying44
  a22 := Try.isAgg44
  z22 := Try.sizeOf44
  v22 := Try.zeroValue44 }
end Go.Proofs
namespace Go.Ev
open Go Go.Proofs Go.RowKit
set_option maxRecDepth 100000
set_option maxHeartbeats 4000000
def smB : Nat → Bool := fun f => [8, 9, 10, 11, 12, 13, 14, 15, 16, 17, 18, 19, 20, 21, 22, 23, 24, 25, 26, 28, 29, 30, 31, 32, 33, 34, 36, 39, 40, 42, 43, 44, 45, 46, 47, 49, 50].contains f
theorem hm0 : Try.prog.follows .mixedOrders = true := by kernel_rfl
theorem key4 : fnKey Try.prog smB 4 = ir4.key := by kernel_rfl
theorem key8 : fnKey Try.prog smB 8 = ir8.key := by kernel_rfl
theorem key9 : fnKey Try.prog smB 9 = ir9.key := by kernel_rfl
theorem key10 : fnKey Try.prog smB 10 = ir10.key := by kernel_rfl
theorem key11 : fnKey Try.prog smB 11 = ir11.key := by kernel_rfl
theorem key12 : fnKey Try.prog smB 12 = ir12.key := by kernel_rfl
theorem key13 : fnKey Try.prog smB 13 = ir13.key := by kernel_rfl
theorem key14 : fnKey Try.prog smB 14 = ir14.key := by kernel_rfl
theorem key15 : fnKey Try.prog smB 15 = ir15.key := by kernel_rfl
theorem key16 : fnKey Try.prog smB 16 = ir16.key := by kernel_rfl
theorem key17 : fnKey Try.prog smB 17 = ir17.key := by kernel_rfl
theorem key18 : fnKey Try.prog smB 18 = ir18.key := by kernel_rfl
theorem key19 : fnKey Try.prog smB 19 = ir19.key := by kernel_rfl
theorem key20 : fnKey Try.prog smB 20 = ir20.key := by kernel_rfl
theorem key21 : fnKey Try.prog smB 21 = ir21.key := by kernel_rfl
theorem key22 : fnKey Try.prog smB 22 = ir22.key := by kernel_rfl
theorem key23 : fnKey Try.prog smB 23 = ir23.key := by kernel_rfl
theorem key24 : fnKey Try.prog smB 24 = ir24.key := by kernel_rfl
theorem key25 : fnKey Try.prog smB 25 = ir25.key := by kernel_rfl
theorem key26 : fnKey Try.prog smB 26 = ir26.key := by kernel_rfl
theorem key27 : fnKey Try.prog smB 27 = ir27.key := by kernel_rfl
theorem key28 : fnKey Try.prog smB 28 = ir28.key := by kernel_rfl
theorem key31 : fnKey Try.prog smB 31 = ir31.key := by kernel_rfl
theorem key32 : fnKey Try.prog smB 32 = ir32.key := by kernel_rfl
theorem key33 : fnKey Try.prog smB 33 = ir33.key := by kernel_rfl
theorem key34 : fnKey Try.prog smB 34 = ir34.key := by kernel_rfl
theorem key35 : fnKey Try.prog smB 35 = ir35.key := by kernel_rfl
theorem key36 : fnKey Try.prog smB 36 = ir36.key := by kernel_rfl
theorem key37 : fnKey Try.prog smB 37 = ir37.key := by kernel_rfl
theorem key38 : fnKey Try.prog smB 38 = ir38.key := by kernel_rfl
theorem key39 : fnKey Try.prog smB 39 = ir39.key := by kernel_rfl
theorem key40 : fnKey Try.prog smB 40 = ir40.key := by kernel_rfl
theorem key41 : fnKey Try.prog smB 41 = ir41.key := by kernel_rfl
theorem key42 : fnKey Try.prog smB 42 = ir42.key := by kernel_rfl
theorem key43 : fnKey Try.prog smB 43 = ir43.key := by kernel_rfl
theorem key44 : fnKey Try.prog smB 44 = ir44.key := by kernel_rfl
theorem key45 : fnKey Try.prog smB 45 = ir45.key := by kernel_rfl
theorem key48 : fnKey Try.prog smB 48 = ir48.key := by kernel_rfl
theorem key49 : fnKey Try.prog smB 49 = ir49.key := by kernel_rfl
theorem key50 : fnKey Try.prog smB 50 = ir50.key := by kernel_rfl
theorem key51 : fnKey Try.prog smB 51 = ir51.key := by kernel_rfl
theorem key52 : fnKey Try.prog smB 52 = ir52.key := by kernel_rfl
theorem fns_ok : FnsOK Try.prog smB fns := by
  intro f fn h
  unfold fns at h
  split at h
  · simp only [Option.some.injEq] at h; subst h; exact key4
  · simp only [Option.some.injEq] at h; subst h; exact key8
  · simp only [Option.some.injEq] at h; subst h; exact key9
  · simp only [Option.some.injEq] at h; subst h; exact key10
  · simp only [Option.some.injEq] at h; subst h; exact key11
  · simp only [Option.some.injEq] at h; subst h; exact key12
  · simp only [Option.some.injEq] at h; subst h; exact key13
  · simp only [Option.some.injEq] at h; subst h; exact key14
  · simp only [Option.some.injEq] at h; subst h; exact key15
  · simp only [Option.some.injEq] at h; subst h; exact key16
  · simp only [Option.some.injEq] at h; subst h; exact key17
  · simp only [Option.some.injEq] at h; subst h; exact key18
  · simp only [Option.some.injEq] at h; subst h; exact key19
  · simp only [Option.some.injEq] at h; subst h; exact key20
  · simp only [Option.some.injEq] at h; subst h; exact key21
  · simp only [Option.some.injEq] at h; subst h; exact key22
  · simp only [Option.some.injEq] at h; subst h; exact key23
  · simp only [Option.some.injEq] at h; subst h; exact key24
  · simp only [Option.some.injEq] at h; subst h; exact key25
  · simp only [Option.some.injEq] at h; subst h; exact key26
  · simp only [Option.some.injEq] at h; subst h; exact key27
  · simp only [Option.some.injEq] at h; subst h; exact key28
  · simp only [Option.some.injEq] at h; subst h; exact key31
  · simp only [Option.some.injEq] at h; subst h; exact key32
  · simp only [Option.some.injEq] at h; subst h; exact key33
  · simp only [Option.some.injEq] at h; subst h; exact key34
  · simp only [Option.some.injEq] at h; subst h; exact key35
  · simp only [Option.some.injEq] at h; subst h; exact key36
  · simp only [Option.some.injEq] at h; subst h; exact key37
  · simp only [Option.some.injEq] at h; subst h; exact key38
  · simp only [Option.some.injEq] at h; subst h; exact key39
  · simp only [Option.some.injEq] at h; subst h; exact key40
  · simp only [Option.some.injEq] at h; subst h; exact key41
  · simp only [Option.some.injEq] at h; subst h; exact key42
  · simp only [Option.some.injEq] at h; subst h; exact key43
  · simp only [Option.some.injEq] at h; subst h; exact key44
  · simp only [Option.some.injEq] at h; subst h; exact key45
  · simp only [Option.some.injEq] at h; subst h; exact key48
  · simp only [Option.some.injEq] at h; subst h; exact key49
  · simp only [Option.some.injEq] at h; subst h; exact key50
  · simp only [Option.some.injEq] at h; subst h; exact key51
  · simp only [Option.some.injEq] at h; subst h; exact key52
  · cases h
theorem info30 : ∃ i, Try.prog.info? 23 = some i ∧ i.zero = some (.agg #[.int .i64 0, .int .i64 0, .int .i64 0, .int .i64 0, .int .i64 0, .int .i64 0, .bool false, .int .i64 0]) ∧ i.size = 8 ∧ i.bytes = 64 := ⟨_, rfl, by kernel_rfl, by kernel_rfl, by kernel_rfl⟩
theorem sok_30 : SummOK Try.prog 30 (vecS (.pair (.int .i64) (.pair (.int .i64) (.pair (.int .i64) (.pair (.int .i64) (.pair (.int .i64) (.pair (.int .i64) (.pair .bool (.pair (.int .i64) .unit)))))))) 23 64) := by
  obtain ⟨i, hi, h0, h1, h2⟩ := info30
  exact clone_vec (by kernel_rfl) (by decide)
    (fun b off n c news w hl hn hb hc h3 => AnyE.slices_Clone Try.clone30 i _ 8 64 hi h0 h1 h2 (by kernel_rfl) (by decide) Try.sizeOf23 b off n c news w hl hn hb hc h3)
    (fun n c w => AnyE.slices_Clone_nil Try.clone30 n c w)
    (fun a c w => clone_zero Try.clone30 i _ 8 64 hi h0 h1 h2 (by kernel_rfl) (by decide) Try.sizeOf23 a c w)
theorem info46 : ∃ i, Try.prog.info? 46 = some i ∧ i.zero = some (.agg #[.int .i64 0, .int .i64 0, .int .i64 0, .int .i64 0, .int .i64 0, .slice none 0 0, .int .i64 0]) ∧ i.size = 7 ∧ i.bytes = 72 := ⟨_, rfl, by kernel_rfl, by kernel_rfl, by kernel_rfl⟩
theorem sok_46 : SummOK Try.prog 46 (vecS (.pair (.int .i64) (.pair (.int .i64) (.pair (.int .i64) (.pair (.int .i64) (.pair (.int .i64) (.pair (.slice (.int .i64)) (.pair (.int .i64) .unit))))))) 46 72) := by
  obtain ⟨i, hi, h0, h1, h2⟩ := info46
  exact clone_vec (by kernel_rfl) (by decide)
    (fun b off n c news w hl hn hb hc h3 => AnyE.slices_Clone Try.clone46 i _ 7 72 hi h0 h1 h2 (by kernel_rfl) (by decide) Try.sizeOf46 b off n c news w hl hn hb hc h3)
    (fun n c w => AnyE.slices_Clone_nil Try.clone46 n c w)
    (fun a c w => clone_zero Try.clone46 i _ 7 72 hi h0 h1 h2 (by kernel_rfl) (by decide) Try.sizeOf46 a c w)
theorem info47 : ∃ i, Try.prog.info? 3 = some i ∧ i.zero = some (.int .i64 0) ∧ i.size = 1 ∧ i.bytes = 8 := ⟨_, rfl, by kernel_rfl, by kernel_rfl, by kernel_rfl⟩
theorem sok_47 : SummOK Try.prog 47 (vecS (.int .i64) 3 8) := by
  obtain ⟨i, hi, h0, h1, h2⟩ := info47
  exact clone_vec (by kernel_rfl) (by decide)
    (fun b off n c news w hl hn hb hc h3 => AnyE.slices_Clone Try.clone47 i _ 1 8 hi h0 h1 h2 (by kernel_rfl) (by decide) Try.sizeOf3 b off n c news w hl hn hb hc h3)
    (fun n c w => AnyE.slices_Clone_nil Try.clone47 n c w)
    (fun a c w => clone_zero Try.clone47 i _ 1 8 hi h0 h1 h2 (by kernel_rfl) (by decide) Try.sizeOf3 a c w)
theorem smok_25 : ∀ f s, sm_25 f = some s → SummOK Try.prog f s := by
  intro f s h
  unfold sm_25 at h
  cases h
theorem call_25 {R : Type} (n base : Nat) : CallOK Try.prog base (evFn (R := R) sm_25 fns FU n) := ev_sound hm0 smok_25 (fun f s h => (smok_25 f s h).2.1) fns_ok n
theorem sok_25 : SummOK Try.prog 25 s_25 := summ_shN (by decide) (fun _ => rfl) (fun _ => rfl) (call_25 1) (by kernel_rfl) run_25
theorem smok_9 : ∀ f s, sm_9 f = some s → SummOK Try.prog f s := by
  intro f s h
  unfold sm_9 at h
  by_cases h25 : f = 25
  · subst h25
    injection h with h
    subst h
    exact sok_25
  rw [nbeq_ne h25, cond_false] at h
  cases h
theorem call_9 {R : Type} (n base : Nat) : CallOK Try.prog base (evFn (R := R) sm_9 fns FU n) := ev_sound hm0 smok_9 (fun f s h => (smok_9 f s h).2.1) fns_ok n
theorem sok_9 : SummOK Try.prog 9 s_9 := summ_shN (by decide) (fun _ => rfl) (fun _ => rfl) (call_9 1) (by kernel_rfl) run_9
theorem smok_11 : ∀ f s, sm_11 f = some s → SummOK Try.prog f s := by
  intro f s h
  unfold sm_11 at h
  by_cases h9 : f = 9
  · subst h9
    injection h with h
    subst h
    exact sok_9
  rw [nbeq_ne h9, cond_false] at h
  by_cases h29 : f = 29
  · subst h29
    injection h with h
    subst h
    exact sok_29
  rw [nbeq_ne h29, cond_false] at h
  by_cases h30 : f = 30
  · subst h30
    injection h with h
    subst h
    exact sok_30
  rw [nbeq_ne h30, cond_false] at h
  cases h
theorem call_11 {R : Type} (n base : Nat) : CallOK Try.prog base (evFn (R := R) sm_11 fns FU n) := ev_sound hm0 smok_11 (fun f s h => (smok_11 f s h).2.1) fns_ok n
theorem sok_11 : SummOK Try.prog 11 s_11 := summ_sh (fun _ => rfl) (fun _ => rfl) (call_11 4) (by kernel_rfl) run_11
theorem smok_50 : ∀ f s, sm_50 f = some s → SummOK Try.prog f s := by
  intro f s h
  unfold sm_50 at h
  by_cases h25 : f = 25
  · subst h25
    injection h with h
    subst h
    exact sok_25
  rw [nbeq_ne h25, cond_false] at h
  cases h
theorem call_50 {R : Type} (n base : Nat) : CallOK Try.prog base (evFn (R := R) sm_50 fns FU n) := ev_sound hm0 smok_50 (fun f s h => (smok_50 f s h).2.1) fns_ok n
theorem sok_50 : SummOK Try.prog 50 s_50 := summ_shN (by decide) (fun _ => rfl) (fun _ => rfl) (call_50 1) (by kernel_rfl) run_50
theorem smok_36 : ∀ f s, sm_36 f = some s → SummOK Try.prog f s := by
  intro f s h
  unfold sm_36 at h
  by_cases h50 : f = 50
  · subst h50
    injection h with h
    subst h
    exact sok_50
  rw [nbeq_ne h50, cond_false] at h
  cases h
theorem call_36 {R : Type} (n base : Nat) : CallOK Try.prog base (evFn (R := R) sm_36 fns FU n) := ev_sound hm0 smok_36 (fun f s h => (smok_36 f s h).2.1) fns_ok n
theorem sok_36 : SummOK Try.prog 36 s_36 := summ_shN (by decide) (fun _ => rfl) (fun _ => rfl) (call_36 4) (by kernel_rfl) run_36
theorem smok_40 : ∀ f s, sm_40 f = some s → SummOK Try.prog f s := by
  intro f s h
  unfold sm_40 at h
  cases h
theorem call_40 {R : Type} (n base : Nat) : CallOK Try.prog base (evFn (R := R) sm_40 fns FU n) := ev_sound hm0 smok_40 (fun f s h => (smok_40 f s h).2.1) fns_ok n
theorem sok_40 : SummOK Try.prog 40 s_40 := summ_shN (by decide) (fun _ => rfl) (fun _ => rfl) (call_40 1) (by kernel_rfl) run_40
theorem smok_43 : ∀ f s, sm_43 f = some s → SummOK Try.prog f s := by
  intro f s h
  unfold sm_43 at h
  cases h
theorem call_43 {R : Type} (n base : Nat) : CallOK Try.prog base (evFn (R := R) sm_43 fns FU n) := ev_sound hm0 smok_43 (fun f s h => (smok_43 f s h).2.1) fns_ok n
theorem sok_43 : SummOK Try.prog 43 s_43 := summ_shN (by decide) (fun _ => rfl) (fun _ => rfl) (call_43 1) (by kernel_rfl) run_43
theorem smok_32 : ∀ f s, sm_32 f = some s → SummOK Try.prog f s := by
  intro f s h
  unfold sm_32 at h
  by_cases h25 : f = 25
  · subst h25
    injection h with h
    subst h
    exact sok_25
  rw [nbeq_ne h25, cond_false] at h
  by_cases h36 : f = 36
  · subst h36
    injection h with h
    subst h
    exact sok_36
  rw [nbeq_ne h36, cond_false] at h
  by_cases h40 : f = 40
  · subst h40
    injection h with h
    subst h
    exact sok_40
  rw [nbeq_ne h40, cond_false] at h
  by_cases h43 : f = 43
  · subst h43
    injection h with h
    subst h
    exact sok_43
  rw [nbeq_ne h43, cond_false] at h
  cases h
theorem call_32 {R : Type} (n base : Nat) : CallOK Try.prog base (evFn (R := R) sm_32 fns FU n) := ev_sound hm0 smok_32 (fun f s h => (smok_32 f s h).2.1) fns_ok n
theorem sok_32 : SummOK Try.prog 32 s_32 := summ_shN (by decide) (fun _ => rfl) (fun _ => rfl) (call_32 1) (by kernel_rfl) run_32
theorem smok_15 : ∀ f s, sm_15 f = some s → SummOK Try.prog f s := by
  intro f s h
  unfold sm_15 at h
  by_cases h9 : f = 9
  · subst h9
    injection h with h
    subst h
    exact sok_9
  rw [nbeq_ne h9, cond_false] at h
  by_cases h25 : f = 25
  · subst h25
    injection h with h
    subst h
    exact sok_25
  rw [nbeq_ne h25, cond_false] at h
  by_cases h29 : f = 29
  · subst h29
    injection h with h
    subst h
    exact sok_29
  rw [nbeq_ne h29, cond_false] at h
  by_cases h32 : f = 32
  · subst h32
    injection h with h
    subst h
    exact sok_32
  rw [nbeq_ne h32, cond_false] at h
  cases h
theorem call_15 {R : Type} (n base : Nat) : CallOK Try.prog base (evFn (R := R) sm_15 fns FU n) := ev_sound hm0 smok_15 (fun f s h => (smok_15 f s h).2.1) fns_ok n
theorem sok_15 : SummOK Try.prog 15 s_15 := summ_shN (by decide) (fun _ => rfl) (fun _ => rfl) (call_15 4) (by kernel_rfl) run_15
theorem smok_19 : ∀ f s, sm_19 f = some s → SummOK Try.prog f s := by
  intro f s h
  unfold sm_19 at h
  by_cases h15 : f = 15
  · subst h15
    injection h with h
    subst h
    exact sok_15
  rw [nbeq_ne h15, cond_false] at h
  by_cases h46 : f = 46
  · subst h46
    injection h with h
    subst h
    exact sok_46
  rw [nbeq_ne h46, cond_false] at h
  by_cases h47 : f = 47
  · subst h47
    injection h with h
    subst h
    exact sok_47
  rw [nbeq_ne h47, cond_false] at h
  cases h
theorem call_19 {R : Type} (n base : Nat) : CallOK Try.prog base (evFn (R := R) sm_19 fns FU n) := ev_sound hm0 smok_19 (fun f s h => (smok_19 f s h).2.1) fns_ok n
theorem sok_19 : SummOK Try.prog 19 s_19 := summ_sh (fun _ => rfl) (fun _ => rfl) (call_19 2) (by kernel_rfl) run_19
theorem smok_20 : ∀ f s, sm_20 f = some s → SummOK Try.prog f s := by
  intro f s h
  unfold sm_20 at h
  by_cases h15 : f = 15
  · subst h15
    injection h with h
    subst h
    exact sok_15
  rw [nbeq_ne h15, cond_false] at h
  by_cases h36 : f = 36
  · subst h36
    injection h with h
    subst h
    exact sok_36
  rw [nbeq_ne h36, cond_false] at h
  by_cases h40 : f = 40
  · subst h40
    injection h with h
    subst h
    exact sok_40
  rw [nbeq_ne h40, cond_false] at h
  by_cases h46 : f = 46
  · subst h46
    injection h with h
    subst h
    exact sok_46
  rw [nbeq_ne h46, cond_false] at h
  by_cases h47 : f = 47
  · subst h47
    injection h with h
    subst h
    exact sok_47
  rw [nbeq_ne h47, cond_false] at h
  cases h
theorem call_20 {R : Type} (n base : Nat) : CallOK Try.prog base (evFn (R := R) sm_20 fns FU n) := ev_sound hm0 smok_20 (fun f s h => (smok_20 f s h).2.1) fns_ok n
theorem sok_20 : SummOK Try.prog 20 s_20 := summ_sh (fun _ => rfl) (fun _ => rfl) (call_20 2) (by kernel_rfl) run_20
theorem smok_33 : ∀ f s, sm_33 f = some s → SummOK Try.prog f s := by
  intro f s h
  unfold sm_33 at h
  by_cases h15 : f = 15
  · subst h15
    injection h with h
    subst h
    exact sok_15
  rw [nbeq_ne h15, cond_false] at h
  by_cases h40 : f = 40
  · subst h40
    injection h with h
    subst h
    exact sok_40
  rw [nbeq_ne h40, cond_false] at h
  by_cases h46 : f = 46
  · subst h46
    injection h with h
    subst h
    exact sok_46
  rw [nbeq_ne h46, cond_false] at h
  by_cases h47 : f = 47
  · subst h47
    injection h with h
    subst h
    exact sok_47
  rw [nbeq_ne h47, cond_false] at h
  cases h
theorem call_33 {R : Type} (n base : Nat) : CallOK Try.prog base (evFn (R := R) sm_33 fns FU n) := ev_sound hm0 smok_33 (fun f s h => (smok_33 f s h).2.1) fns_ok n
theorem sok_33 : SummOK Try.prog 33 s_33 := summ_sh (fun _ => rfl) (fun _ => rfl) (call_33 2) (by kernel_rfl) run_33
theorem smok_21 : ∀ f s, sm_21 f = some s → SummOK Try.prog f s := by
  intro f s h
  unfold sm_21 at h
  by_cases h19 : f = 19
  · subst h19
    injection h with h
    subst h
    exact sok_19
  rw [nbeq_ne h19, cond_false] at h
  by_cases h20 : f = 20
  · subst h20
    injection h with h
    subst h
    exact sok_20
  rw [nbeq_ne h20, cond_false] at h
  by_cases h33 : f = 33
  · subst h33
    injection h with h
    subst h
    exact sok_33
  rw [nbeq_ne h33, cond_false] at h
  cases h
theorem call_21 {R : Type} (n base : Nat) : CallOK Try.prog base (evFn (R := R) sm_21 fns FU n) := ev_sound hm0 smok_21 (fun f s h => (smok_21 f s h).2.1) fns_ok n
theorem sok_21 : SummOK Try.prog 21 s_21 := summ_sh (fun _ => rfl) (fun _ => rfl) (call_21 1) (by kernel_rfl) run_21
theorem smok_22 : ∀ f s, sm_22 f = some s → SummOK Try.prog f s := by
  intro f s h
  unfold sm_22 at h
  by_cases h15 : f = 15
  · subst h15
    injection h with h
    subst h
    exact sok_15
  rw [nbeq_ne h15, cond_false] at h
  by_cases h40 : f = 40
  · subst h40
    injection h with h
    subst h
    exact sok_40
  rw [nbeq_ne h40, cond_false] at h
  cases h
theorem call_22 {R : Type} (n base : Nat) : CallOK Try.prog base (evFn (R := R) sm_22 fns FU n) := ev_sound hm0 smok_22 (fun f s h => (smok_22 f s h).2.1) fns_ok n
theorem sok_22 : SummOK Try.prog 22 s_22 := summ_shN (by decide) (fun _ => rfl) (fun _ => rfl) (call_22 4) (by kernel_rfl) run_22
theorem smok_23 : ∀ f s, sm_23 f = some s → SummOK Try.prog f s := by
  intro f s h
  unfold sm_23 at h
  cases h
theorem call_23 {R : Type} (n base : Nat) : CallOK Try.prog base (evFn (R := R) sm_23 fns FU n) := ev_sound hm0 smok_23 (fun f s h => (smok_23 f s h).2.1) fns_ok n
theorem sok_23 : SummOK Try.prog 23 s_23 := summ_shN (by decide) (fun _ => rfl) (fun _ => rfl) (call_23 1) (by kernel_rfl) run_23
theorem smok_24 : ∀ f s, sm_24 f = some s → SummOK Try.prog f s := by
  intro f s h
  unfold sm_24 at h
  cases h
theorem call_24 {R : Type} (n base : Nat) : CallOK Try.prog base (evFn (R := R) sm_24 fns FU n) := ev_sound hm0 smok_24 (fun f s h => (smok_24 f s h).2.1) fns_ok n
theorem sok_24 : SummOK Try.prog 24 s_24 := summ_shN (by decide) (fun _ => rfl) (fun _ => rfl) (call_24 1) (by kernel_rfl) run_24
theorem smok_8 : ∀ f s, sm_8 f = some s → SummOK Try.prog f s := by
  intro f s h
  unfold sm_8 at h
  by_cases h11 : f = 11
  · subst h11
    injection h with h
    subst h
    exact sok_11
  rw [nbeq_ne h11, cond_false] at h
  by_cases h21 : f = 21
  · subst h21
    injection h with h
    subst h
    exact sok_21
  rw [nbeq_ne h21, cond_false] at h
  by_cases h22 : f = 22
  · subst h22
    injection h with h
    subst h
    exact sok_22
  rw [nbeq_ne h22, cond_false] at h
  by_cases h23 : f = 23
  · subst h23
    injection h with h
    subst h
    exact sok_23
  rw [nbeq_ne h23, cond_false] at h
  by_cases h24 : f = 24
  · subst h24
    injection h with h
    subst h
    exact sok_24
  rw [nbeq_ne h24, cond_false] at h
  cases h
theorem call_8 {R : Type} (n base : Nat) : CallOK Try.prog base (evFn (R := R) sm_8 fns FU n) := ev_sound hm0 smok_8 (fun f s h => (smok_8 f s h).2.1) fns_ok n
theorem sok_8 : SummOK Try.prog 8 s_8 := summ_shN (by decide) (fun _ => rfl) (fun _ => rfl) (call_8 1) (by kernel_rfl) run_8
theorem smok_16 : ∀ f s, sm_16 f = some s → SummOK Try.prog f s := by
  intro f s h
  unfold sm_16 at h
  cases h
theorem call_16 {R : Type} (n base : Nat) : CallOK Try.prog base (evFn (R := R) sm_16 fns FU n) := ev_sound hm0 smok_16 (fun f s h => (smok_16 f s h).2.1) fns_ok n
theorem sok_16 : SummOK Try.prog 16 s_16 := summ_shN (by decide) (fun _ => rfl) (fun _ => rfl) (call_16 1) (by kernel_rfl) run_16
theorem smok_17 : ∀ f s, sm_17 f = some s → SummOK Try.prog f s := by
  intro f s h
  unfold sm_17 at h
  by_cases h19 : f = 19
  · subst h19
    injection h with h
    subst h
    exact sok_19
  rw [nbeq_ne h19, cond_false] at h
  by_cases h20 : f = 20
  · subst h20
    injection h with h
    subst h
    exact sok_20
  rw [nbeq_ne h20, cond_false] at h
  by_cases h33 : f = 33
  · subst h33
    injection h with h
    subst h
    exact sok_33
  rw [nbeq_ne h33, cond_false] at h
  cases h
theorem call_17 {R : Type} (n base : Nat) : CallOK Try.prog base (evFn (R := R) sm_17 fns FU n) := ev_sound hm0 smok_17 (fun f s h => (smok_17 f s h).2.1) fns_ok n
theorem sok_17 : SummOK Try.prog 17 s_17 := summ_sh (fun _ => rfl) (fun _ => rfl) (call_17 1) (by kernel_rfl) run_17
theorem smok_26 : ∀ f s, sm_26 f = some s → SummOK Try.prog f s := by
  intro f s h
  unfold sm_26 at h
  cases h
theorem call_26 {R : Type} (n base : Nat) : CallOK Try.prog base (evFn (R := R) sm_26 fns FU n) := ev_sound hm0 smok_26 (fun f s h => (smok_26 f s h).2.1) fns_ok n
theorem sok_26 : SummOK Try.prog 26 s_26 := summ_shN (by decide) (fun _ => rfl) (fun _ => rfl) (call_26 1) (by kernel_rfl) run_26
theorem smok_10 : ∀ f s, sm_10 f = some s → SummOK Try.prog f s := by
  intro f s h
  unfold sm_10 at h
  by_cases h26 : f = 26
  · subst h26
    injection h with h
    subst h
    exact sok_26
  rw [nbeq_ne h26, cond_false] at h
  cases h
theorem call_10 {R : Type} (n base : Nat) : CallOK Try.prog base (evFn (R := R) sm_10 fns FU n) := ev_sound hm0 smok_10 (fun f s h => (smok_10 f s h).2.1) fns_ok n
theorem sok_10 : SummOK Try.prog 10 s_10 := summ_shN (by decide) (fun _ => rfl) (fun _ => rfl) (call_10 1) (by kernel_rfl) run_10
theorem smok_12 : ∀ f s, sm_12 f = some s → SummOK Try.prog f s := by
  intro f s h
  unfold sm_12 at h
  by_cases h10 : f = 10
  · subst h10
    injection h with h
    subst h
    exact sok_10
  rw [nbeq_ne h10, cond_false] at h
  cases h
theorem call_12 {R : Type} (n base : Nat) : CallOK Try.prog base (evFn (R := R) sm_12 fns FU n) := ev_sound hm0 smok_12 (fun f s h => (smok_12 f s h).2.1) fns_ok n
theorem sok_12 : SummOK Try.prog 12 s_12 := summ_shN (by decide) (fun _ => rfl) (fun _ => rfl) (call_12 1) (by kernel_rfl) run_12
theorem smok_44 : ∀ f s, sm_44 f = some s → SummOK Try.prog f s := by
  intro f s h
  unfold sm_44 at h
  by_cases h26 : f = 26
  · subst h26
    injection h with h
    subst h
    exact sok_26
  rw [nbeq_ne h26, cond_false] at h
  cases h
theorem call_44 {R : Type} (n base : Nat) : CallOK Try.prog base (evFn (R := R) sm_44 fns FU n) := ev_sound hm0 smok_44 (fun f s h => (smok_44 f s h).2.1) fns_ok n
theorem sok_44 : SummOK Try.prog 44 s_44 := summ_shN (by decide) (fun _ => rfl) (fun _ => rfl) (call_44 1) (by kernel_rfl) run_44
theorem smok_45 : ∀ f s, sm_45 f = some s → SummOK Try.prog f s := by
  intro f s h
  unfold sm_45 at h
  cases h
theorem call_45 {R : Type} (n base : Nat) : CallOK Try.prog base (evFn (R := R) sm_45 fns FU n) := ev_sound hm0 smok_45 (fun f s h => (smok_45 f s h).2.1) fns_ok n
theorem sok_45 : SummOK Try.prog 45 s_45 := summ_shN (by decide) (fun _ => rfl) (fun _ => rfl) (call_45 1) (by kernel_rfl) run_45
theorem smok_34 : ∀ f s, sm_34 f = some s → SummOK Try.prog f s := by
  intro f s h
  unfold sm_34 at h
  by_cases h26 : f = 26
  · subst h26
    injection h with h
    subst h
    exact sok_26
  rw [nbeq_ne h26, cond_false] at h
  by_cases h44 : f = 44
  · subst h44
    injection h with h
    subst h
    exact sok_44
  rw [nbeq_ne h44, cond_false] at h
  by_cases h45 : f = 45
  · subst h45
    injection h with h
    subst h
    exact sok_45
  rw [nbeq_ne h45, cond_false] at h
  cases h
theorem call_34 {R : Type} (n base : Nat) : CallOK Try.prog base (evFn (R := R) sm_34 fns FU n) := ev_sound hm0 smok_34 (fun f s h => (smok_34 f s h).2.1) fns_ok n
theorem sok_34 : SummOK Try.prog 34 s_34 := summ_shN (by decide) (fun _ => rfl) (fun _ => rfl) (call_34 1) (by kernel_rfl) run_34
theorem smok_18 : ∀ f s, sm_18 f = some s → SummOK Try.prog f s := by
  intro f s h
  unfold sm_18 at h
  by_cases h12 : f = 12
  · subst h12
    injection h with h
    subst h
    exact sok_12
  rw [nbeq_ne h12, cond_false] at h
  by_cases h26 : f = 26
  · subst h26
    injection h with h
    subst h
    exact sok_26
  rw [nbeq_ne h26, cond_false] at h
  by_cases h34 : f = 34
  · subst h34
    injection h with h
    subst h
    exact sok_34
  rw [nbeq_ne h34, cond_false] at h
  cases h
theorem call_18 {R : Type} (n base : Nat) : CallOK Try.prog base (evFn (R := R) sm_18 fns FU n) := ev_sound hm0 smok_18 (fun f s h => (smok_18 f s h).2.1) fns_ok n
theorem sok_18 : SummOK Try.prog 18 s_18 := summ_shN (by decide) (fun _ => rfl) (fun _ => rfl) (call_18 1) (by kernel_rfl) run_18
theorem smok_4 : ∀ f s, sm_4 f = some s → SummOK Try.prog f s := by
  intro f s h
  unfold sm_4 at h
  by_cases h8 : f = 8
  · subst h8
    injection h with h
    subst h
    exact sok_8
  rw [nbeq_ne h8, cond_false] at h
  by_cases h15 : f = 15
  · subst h15
    injection h with h
    subst h
    exact sok_15
  rw [nbeq_ne h15, cond_false] at h
  by_cases h16 : f = 16
  · subst h16
    injection h with h
    subst h
    exact sok_16
  rw [nbeq_ne h16, cond_false] at h
  by_cases h17 : f = 17
  · subst h17
    injection h with h
    subst h
    exact sok_17
  rw [nbeq_ne h17, cond_false] at h
  by_cases h18 : f = 18
  · subst h18
    injection h with h
    subst h
    exact sok_18
  rw [nbeq_ne h18, cond_false] at h
  cases h
theorem call_4 {R : Type} (n base : Nat) : CallOK Try.prog base (evFn (R := R) sm_4 fns FU n) := ev_sound hm0 smok_4 (fun f s h => (smok_4 f s h).2.1) fns_ok n
end Go.Ev
