/- Helpers: functions of the program as Lean functions, and what they compute. No condition. -/
import Derived.Test.YtpelnohiecgbgaaG9P3
import Derived.Test.YtpelnohiecgbgaaG9P1
import Derived.Test.YtpelnohiecgbgaaEvPart1
import Derived.Test.YtpelnohiecgbgaaEvPart2
import Derived.Test.YtpelnohiecgbgaaG9P0
set_option maxRecDepth 10000
set_option linter.unusedVariables false
set_option linter.unusedSimpArgs false
set_option linter.unusedSimpArgs false
set_option linter.unusedVariables false
namespace Go.Ev
open Go
set_option maxRecDepth 100000
set_option maxHeartbeats 4000000
abbrev SigT := Int × List (List Int) × List (List Int) × PUnit
abbrev h0 : List Int := Ty.dflt (.arr 32 (.int .u8))
namespace Sp
def shp (s : SigT) : Bool := decide (0 ≤ s.1) && (decide (s.1 < 4) && ((s.2.1.length : Int) == 67 && (s.2.2.1.length : Int) == 2))
def vend (d : List Int) (c : List (List Int)) (n : Nat) : List (List Int) := (List.range n).map fun j : Nat => chn (15 - d.getD j 0).toNat (d.getD j 0) (c.getD j h0)
def up (i : Int) (p e : List Int) : List Int := if i = 1 then node p e else node e p
def verF (key dg : List Int) (s : SigT) : Bool := shp s && (up (s.1 / 2) (s.2.2.1.getD 1 h0) (up (s.1 % 2) (s.2.2.1.getD 0 h0) (leafE (vend (digL dg) s.2.1 67))) == key)
end Sp
theorem shp_ok (s : SigT) : F_38 s = some (Sp.shp s, ()) := by
  unfold F_38 Sp.shp
  by_cases h1 : s.1 ≥ 0
  · by_cases h2 : s.1 < 4
    · rw [cond_dtt h1, cond_dtt h2, decide_eq_true (show 0 ≤ s.1 from h1), decide_eq_true h2]
      cases ((s.2.1.length : Int) == 67) <;> rfl
    · rw [cond_dtt h1, cond_dff h2, decide_eq_false h2]; simp
  · rw [cond_dff h1, decide_eq_false (show ¬ 0 ≤ s.1 from h1)]; rfl
theorem rshp_ok (s : SigT) : F_26 s = some (Sp.shp s, ()) := by
  unfold F_26 Sp.shp
  by_cases h1 : s.1 ≥ 0
  · by_cases h2 : s.1 < 4
    · rw [cond_dtt h1, cond_dtt (show s.1 ≤ 3 by omega), decide_eq_true (show 0 ≤ s.1 from h1), decide_eq_true h2]
      cases ((s.2.1.length : Int) == 67) <;> rfl
    · rw [cond_dtt h1, cond_dff (show ¬ s.1 ≤ 3 by omega), decide_eq_false h2]; simp
  · rw [cond_dff h1, decide_eq_false (show ¬ 0 ≤ s.1 from h1)]; rfl
theorem vend_len (d : List Int) (c : List (List Int)) (n : Nat) : (Sp.vend d c n).length = n := by simp [Sp.vend]
theorem vend_succ (d : List Int) (c : List (List Int)) (n : Nat) : Sp.vend d c (n + 1) = Sp.vend d c n ++ [Sp.chn (15 - d.getD n 0).toNat (d.getD n 0) (c.getD n h0)] := by simp [Sp.vend, List.range_succ]
theorem ver_loop (key : List Int) (dg : List Int) (hb : bytes dg) (s : SigT) (hs : s.2.1.length = 67) : ∀ (d m j : Nat), j + d = 67 → d < m → Sp.L_18_0 m (Sp.digL dg) 67 (j : Nat) key s (Sp.vend (Sp.digL dg) s.2.1 j) = some (.e0 key s (Sp.vend (Sp.digL dg) s.2.1 67))
  | 0, m + 1, j, hj, _ => by
    rw [Sp.L_18_0, cond_dff (by omega), show j = 67 by omega]
  | d + 1, m + 1, j, hj, hm => by
    have hl := digL_len dg
    have hd := digL_b hb j (by omega)
    have h2 := pv_37 _ _ _ (chain_ok (s.2.1.getD j h0) ((Sp.digL dg).getD j 0) 15 hd.1 hd.2 (by decide))
    rw [Sp.L_18_0, cond_dtt (by omega), gd_inB (by omega) (by omega), gd_inB (by omega) (by omega), Int.toNat_natCast, h2.1, h2.2, gd_tt, gd_room (by rw [vend_len]; omega) (by rw [vend_len]; omega), wi64 (by omega) (by omega)]
    dsimp only
    rw [← vend_succ]
    exact ver_loop key dg hb s hs d m (j + 1) (by omega) (by omega)
theorem rver_loop (key : List Int) (dg : List Int) (hb : bytes dg) (s : SigT) (hs : s.2.1.length = 67) : ∀ (d m j : Nat), j + d = 67 → d < m → Sp.L_19_0 m (Sp.digL dg) (j : Nat) key s (Sp.vend (Sp.digL dg) s.2.1 j) = some (.e0 key s (Sp.vend (Sp.digL dg) s.2.1 67))
  | 0, m + 1, j, hj, _ => by
    rw [Sp.L_19_0, cond_dff (by omega), show j = 67 by omega]
  | d + 1, m + 1, j, hj, hm => by
    have hl := digL_len dg
    have hd := digL_b hb j (by omega)
    have h2 := pv_17 _ _ _ (rchain_ok (s.2.1.getD j h0) ((Sp.digL dg).getD j 0) 15 hd.1 hd.2 (by decide))
    rw [Sp.L_19_0, cond_dtt (by omega), gd_inB (by omega) (by omega), gd_inB (by omega) (by omega), Int.toNat_natCast, h2.1, h2.2, gd_tt, gd_room (by rw [vend_len]; omega) (by rw [vend_len]; omega), wi64 (by omega) (by omega)]
    dsimp only
    rw [← vend_succ]
    exact rver_loop key dg hb s hs d m (j + 1) (by omega) (by omega)
end Go.Ev
set_option linter.unusedSimpArgs false
set_option linter.unusedVariables false
namespace Go.Ev
open Go
set_option maxRecDepth 100000
set_option maxHeartbeats 4000000
theorem bit_of (i : Int) (h0 : 0 ≤ i) (h1 : i < 4) : (Sp.andI .i64 (Int.fdiv i (2 ^ Nat.min 0 64)) 1 = i % 2) ∧ (Sp.andI .i64 (Int.fdiv i (2 ^ Nat.min 1 64)) 1 = i / 2) := by
  rcases (show i = 0 ∨ i = 1 ∨ i = 2 ∨ i = 3 by omega) with rfl | rfl | rfl | rfl <;> exact ⟨by kernel_rfl, by kernel_rfl⟩
theorem up_step (m : Nat) (p : List (List Int)) (hp : p.length = 2) (j : Nat) (hj : j < 2) (key : List Int) (s : SigT) (e : List Int) (b : Int) (hb : Sp.andI .i64 (Int.fdiv s.1 (2 ^ Nat.min j 64)) 1 = b) : Sp.L_18_1 (m + 1) p 2 (j : Nat) key s e = Sp.L_18_1 m p 2 ((j : Int) + 1) key s (Sp.up b (p.getD j h0) e) := by
  have a1 := above_pv (p.getD j h0) e
  have a2 := above_pv e (p.getD j h0)
  rw [Sp.L_18_1, cond_dtt (by omega), gd_inB (by omega) (by omega), gd_dec (by omega), Int.toNat_natCast, hb, wi64 (by omega) (by omega)]
  by_cases h : b = 1
  · rw [cond_ett h, a1.1, a1.2, gd_tt, Sp.up, if_pos h]
  · rw [cond_eff h, a2.1, a2.2, gd_tt, Sp.up, if_neg h]
theorem up_loop (m : Nat) (hm : 3 ≤ m) (p : List (List Int)) (hp : p.length = 2) (key : List Int) (s : SigT) (e : List Int) (h0' : 0 ≤ s.1) (h1' : s.1 < 4) : Sp.L_18_1 m p 2 0 key s e = some (.e0 key (Sp.up (s.1 / 2) (p.getD 1 h0) (Sp.up (s.1 % 2) (p.getD 0 h0) e))) := by
  obtain ⟨m, rfl⟩ : ∃ k, m = k + 3 := ⟨m - 3, by omega⟩
  have hb := bit_of s.1 h0' h1'
  have s1 := up_step (m + 2) p hp 0 (by omega) key s e _ hb.1
  have s2 := up_step (m + 1) p hp 1 (by omega) key s (Sp.up (s.1 % 2) (p.getD 0 h0) e) _ hb.2
  refine s1.trans (s2.trans ?_)
  show Sp.L_18_1 (m + 1) p 2 2 key s _ = _
  rw [Sp.L_18_1, cond_dff (by decide)]
theorem shp_spec {s : SigT} (h : Sp.shp s = true) : 0 ≤ s.1 ∧ s.1 < 4 ∧ s.2.1.length = 67 ∧ s.2.2.1.length = 2 := by
  simp only [Sp.shp, Bool.and_eq_true, decide_eq_true_eq, beq_iff_eq] at h
  omega
theorem verify_ok (key dg : List Int) (hb : bytes dg) (s : SigT) : F_18 key dg s = some (Sp.verF key dg s, ()) := by
  have a := pv_38 _ (shp_ok s)
  unfold F_18 Sp.verF
  rw [a.1, a.2, gd_tt]
  cases hs : Sp.shp s
  · rfl
  · obtain ⟨h1, h2, h3, h4⟩ := shp_spec hs
    have d := pv_13 _ (i_digits dg hb)
    have l := pv_39 _ (leafE_ok (Sp.vend (Sp.digL dg) s.2.1 67) (by rw [vend_len]; omega))
    rw [d.1, d.2, gd_tt]
    dsimp only
    rw [digL_len]
    simp only [Bool.not_true, cond_f]
    rw [show Sp.L_18_0 4611686018427387904 (Sp.digL dg) ((67 : Nat) : Int) 0 key s [] = _ from ver_loop key dg hb s h3 67 4611686018427387904 0 (by omega) (by omega)]
    simp only [Sp.B_18_0]
    rw [l.1, l.2, gd_tt]
    dsimp only
    rw [h4]
    rw [show Sp.L_18_1 4611686018427387904 s.2.2.1 ((2 : Nat) : Int) 0 key s (Sp.leafE (Sp.vend (Sp.digL dg) s.2.1 67)) = _ from up_loop _ (by omega) s.2.2.1 h4 key s _ h1 h2]
    simp only [Sp.B_18_1, arr_beq, Bool.true_and]
theorem J_ver (key : List Int) (s : SigT) (h1 : 0 ≤ s.1) (h2 : s.1 < 4) (h4 : s.2.2.1.length = 2) (e : List Int) :
    Sp.B_19_1 (Sp.J_19_1 key s e) (fun k y z => some (Ty.beq (.arr 32 (.int .u8)) (Sp.v_42 (y.2.2.1.getD 1 h0) z).1 k, PUnit.unit)) (fun k y z => some (Ty.beq (.arr 32 (.int .u8)) (Sp.v_42 z (y.2.2.1.getD 1 h0)).1 k, PUnit.unit)) = some ((Sp.up (s.1 / 2) (s.2.2.1.getD 1 h0) e == key), PUnit.unit) := by
  have n1 := node_pv (s.2.2.1.getD 1 h0) e
  have n2 := node_pv e (s.2.2.1.getD 1 h0)
  have ed : IntKind.wrap .i64 (Int.tdiv s.1 2) = s.1 / 2 := by rw [Int.tdiv_eq_ediv_of_nonneg h1, wi64 (by omega) (by omega)]
  unfold Sp.J_19_1
  rw [ed]
  by_cases h : s.1 / 2 = 1
  · rw [cond_ett h, gd_inB (by omega) (by omega), n1.1, gd_tt]
    simp only [Sp.B_19_1, n1.2, arr_beq, Sp.up, if_pos h]
  · rw [cond_eff h, gd_inB (by omega) (by omega), n2.1, gd_tt]
    simp only [Sp.B_19_1, n2.2, arr_beq, Sp.up, if_neg h]
theorem rverify_ok (key dg : List Int) (hb : bytes dg) (s : SigT) : F_19 key dg s = some (Sp.verF key dg s, ()) := by
  have a := pv_26 _ (rshp_ok s)
  unfold F_19 Sp.verF
  rw [a.1, a.2, gd_tt]
  cases hs : Sp.shp s
  · rfl
  · obtain ⟨h1, h2, h3, h4⟩ := shp_spec hs
    have d := pv_15 _ (r_digits dg hb)
    have l := pv_41 _ (rleafE_ok (Sp.vend (Sp.digL dg) s.2.1 67) (by rw [vend_len]; omega))
    have em : Int.tmod s.1 2 = s.1 % 2 := Int.tmod_eq_emod_of_nonneg h1
    rw [d.1, d.2, gd_tt]
    dsimp only
    simp only [Bool.not_true, cond_f]
    rw [show Sp.L_19_0 4611686018427387904 (Sp.digL dg) 0 key s [] = _ from rver_loop key dg hb s h3 67 4611686018427387904 0 (by omega) (by omega)]
    simp only [Sp.B_19_0]
    rw [l.1, l.2, gd_tt]
    dsimp only
    have n1 := node_pv (s.2.2.1.getD 0 h0) (Sp.leafE (Sp.vend (Sp.digL dg) s.2.1 67))
    have n2 := node_pv (Sp.leafE (Sp.vend (Sp.digL dg) s.2.1 67)) (s.2.2.1.getD 0 h0)
    rw [em]
    by_cases h : s.1 % 2 = 1
    · rw [cond_ett h, gd_inB (by omega) (by omega), n1.1, n1.2, gd_tt]
      dsimp only
      rw [J_ver key s h1 h2 h4, Bool.true_and, show Sp.up (s.1 % 2) (s.2.2.1.getD 0 h0) (Sp.leafE (Sp.vend (Sp.digL dg) s.2.1 67)) = _ from if_pos h]
    · rw [cond_eff h, gd_inB (by omega) (by omega), n2.1, n2.2, gd_tt]
      dsimp only
      rw [J_ver key s h1 h2 h4, Bool.true_and, show Sp.up (s.1 % 2) (s.2.2.1.getD 0 h0) (Sp.leafE (Sp.vend (Sp.digL dg) s.2.1 67)) = _ from if_neg h]
end Go.Ev
namespace Go.Ev
open Go
set_option maxRecDepth 100000
set_option maxHeartbeats 4000000
set_option linter.unusedVariables false
noncomputable section

def sm_22 : Nat → Option Summ := fun f => bif Nat.beq f 15 then some s_15 else bif Nat.beq f 17 then some s_17 else bif Nat.beq f 42 then some s_42 else bif Nat.beq f 45 then some s_45 else bif Nat.beq f 46 then some s_46 else none
def T_22_0 (p0 : Int) (p1 : List Int) (p2 : Int) (p3 : List Int) (p4 : Int) (p5 : List (List Int)) (p6 : List (List Int)) (p7 : Int) (p8 : List (List Int)) (p9 : List (List Int)) : St := St.mk [CV.junk, CV.int IntKind.i64 p0, CV.junk, CV.ptr (0 : Nat) [], CV.junk, CV.junk, CV.ptr (1 : Nat) [], CV.pure (Ty.slice (Ty.int IntKind.i64)) p1, CV.ptr (4 : Nat) [], CV.int IntKind.i64 p2, CV.junk, CV.junk, CV.junk, CV.junk, CV.junk, CV.junk, CV.junk, CV.junk, CV.junk, CV.junk, CV.junk, CV.junk, CV.junk, CV.junk, CV.junk, CV.junk, CV.junk, CV.junk, CV.junk, CV.junk, CV.junk, CV.junk, CV.junk, CV.junk, CV.junk, CV.junk, CV.junk, CV.junk, CV.junk, CV.junk, CV.junk, CV.junk, CV.junk, CV.junk, CV.junk, CV.junk, CV.junk, CV.junk, CV.junk, CV.junk, CV.junk, CV.junk, CV.junk, CV.junk] [Blk.mem (CV.pure (Ty.arr (32 : Nat) (Ty.int IntKind.u8)) p3), Blk.mem (CV.pair (CV.int IntKind.i64 p4) (CV.pair (CV.whole (2 : Nat)) (CV.pair (CV.whole (3 : Nat)) (CV.pure Ty.unit PUnit.unit)))), Blk.vec (25 : Nat) (Ty.arr (32 : Nat) (Ty.int IntKind.u8)) p5, Blk.vec (25 : Nat) (Ty.arr (32 : Nat) (Ty.int IntKind.u8)) p6, Blk.mem (CV.pair (CV.int IntKind.i64 p7) (CV.pair (CV.whole (5 : Nat)) (CV.pair (CV.whole (6 : Nat)) (CV.pure Ty.unit PUnit.unit)))), Blk.vec (25 : Nat) (Ty.arr (32 : Nat) (Ty.int IntKind.u8)) p8, Blk.vec (25 : Nat) (Ty.arr (32 : Nat) (Ty.int IntKind.u8)) p9] (0 : Nat)
def X_22_0_0 (p0 : Int) (p3 : List Int) (p4 : Int) (p5 : List (List Int)) (p6 : List (List Int)) (p7 : Int) (p8 : List (List Int)) (p9 : List (List Int)) : St := St.mk [CV.junk, CV.int IntKind.i64 p0, CV.junk, CV.ptr (0 : Nat) [], CV.junk, CV.junk, CV.ptr (1 : Nat) [], CV.junk, CV.ptr (4 : Nat) [], CV.junk, CV.junk, CV.junk, CV.junk, CV.junk, CV.junk, CV.junk, CV.junk, CV.junk, CV.junk, CV.junk, CV.junk, CV.junk, CV.junk, CV.junk, CV.junk, CV.junk, CV.junk, CV.junk, CV.junk, CV.junk, CV.junk, CV.junk, CV.junk, CV.junk, CV.junk, CV.junk, CV.junk, CV.junk, CV.junk, CV.junk, CV.junk, CV.junk, CV.junk, CV.junk, CV.junk, CV.junk, CV.junk, CV.junk, CV.junk, CV.junk, CV.junk, CV.junk, CV.junk, CV.junk] [Blk.mem (CV.pure (Ty.arr (32 : Nat) (Ty.int IntKind.u8)) p3), Blk.mem (CV.pair (CV.int IntKind.i64 p4) (CV.pair (CV.whole (2 : Nat)) (CV.pair (CV.whole (3 : Nat)) (CV.pure Ty.unit PUnit.unit)))), Blk.vec (25 : Nat) (Ty.arr (32 : Nat) (Ty.int IntKind.u8)) p5, Blk.vec (25 : Nat) (Ty.arr (32 : Nat) (Ty.int IntKind.u8)) p6, Blk.mem (CV.pair (CV.int IntKind.i64 p7) (CV.pair (CV.whole (5 : Nat)) (CV.pair (CV.whole (6 : Nat)) (CV.pure Ty.unit PUnit.unit)))), Blk.vec (25 : Nat) (Ty.arr (32 : Nat) (Ty.int IntKind.u8)) p8, Blk.vec (25 : Nat) (Ty.arr (32 : Nat) (Ty.int IntKind.u8)) p9] (0 : Nat)
inductive Sp.E_22_0 where
  | e0 (p0 : Int) (p3 : List Int) (p4 : Int) (p5 : List (List Int)) (p6 : List (List Int)) (p7 : Int) (p8 : List (List Int)) (p9 : List (List Int))
def Sp.B_22_0 {R : Type} (r : Option Sp.E_22_0) (k0 : (Int) → (List Int) → (Int) → (List (List Int)) → (List (List Int)) → (Int) → (List (List Int)) → (List (List Int)) → Option R) : Option R := match r with
  | none => none
  | some (.e0 p0 p3 p4 p5 p6 p7 p8 p9) => k0 p0 p3 p4 p5 p6 p7 p8 p9
def Sp.L_22_0 : Nat → (Int) → (List Int) → (Int) → (List Int) → (Int) → (List (List Int)) → (List (List Int)) → (Int) → (List (List Int)) → (List (List Int)) → Option Sp.E_22_0
  | 0, _, _, _, _, _, _, _, _, _, _ => none
  | m + 1, p0, p1, p2, p3, p4, p5, p6, p7, p8, p9 => bif decide (p2 < (67 : Int)) then gd (Sp.p_45 p3 p0 p2) (gd (inB p2 (List.length p1)) (gd (Sp.p_17 (Prod.fst (Sp.v_45 p3 p0 p2)) (0 : Int) (List.getD p1 (Int.toNat p2) (0 : Int))) (gd (room (List.length p8 + (1 : Nat)) (32 : Nat)) (Sp.L_22_0 m p0 p1 (IntKind.wrap IntKind.i64 (p2 + (1 : Int))) p3 p4 p5 p6 p7 (p8 ++ [Prod.fst (Sp.v_17 (Prod.fst (Sp.v_45 p3 p0 p2)) (0 : Int) (List.getD p1 (Int.toNat p2) (0 : Int)))]) p9)))) else some (Sp.E_22_0.e0 p0 p3 p4 p5 p6 p7 p8 p9)
def G_22_0 {R : Type} (p0 : Int) (p1 : List Int) (p2 : Int) (p3 : List Int) (p4 : Int) (p5 : List (List Int)) (p6 : List (List Int)) (p7 : Int) (p8 : List (List Int)) (p9 : List (List Int)) (k : Ex → St → Option R) : Option R := Sp.B_22_0 (Sp.L_22_0 FU p0 p1 p2 p3 p4 p5 p6 p7 p8 p9) (fun p0 p3 p4 p5 p6 p7 p8 p9 => k (Ex.exit (0 : Nat)) (X_22_0_0 p0 p3 p4 p5 p6 p7 p8 p9))
def o_22_0 {R : Type} (G : (Int) → (List Int) → (Int) → (List Int) → (Int) → (List (List Int)) → (List (List Int)) → (Int) → (List (List Int)) → (List (List Int)) → (Ex → St → Option R) → Option R) : St → (Ex → St → Option R) → Option R := fun T k => match T.sl.getD 1 .junk, T.sl.getD 3 .junk, T.sl.getD 6 .junk, T.sl.getD 7 .junk, T.sl.getD 8 .junk, T.sl.getD 9 .junk, T.hp with
  | CV.int IntKind.i64 p0, CV.ptr (0 : Nat) [], CV.ptr (1 : Nat) [], CV.pure (Ty.slice (Ty.int IntKind.i64)) p1, CV.ptr (4 : Nat) [], CV.int IntKind.i64 p2, ((Blk.mem (CV.pure (Ty.arr (32 : Nat) (Ty.int IntKind.u8)) p3)) :: (Blk.mem (CV.pair (CV.int IntKind.i64 p4) (CV.pair (CV.whole (2 : Nat)) (CV.pair (CV.whole (3 : Nat)) (CV.pure Ty.unit PUnit.unit))))) :: (Blk.vec (25 : Nat) (Ty.arr (32 : Nat) (Ty.int IntKind.u8)) p5) :: (Blk.vec (25 : Nat) (Ty.arr (32 : Nat) (Ty.int IntKind.u8)) p6) :: (Blk.mem (CV.pair (CV.int IntKind.i64 p7) (CV.pair (CV.whole (5 : Nat)) (CV.pair (CV.whole (6 : Nat)) (CV.pure Ty.unit PUnit.unit))))) :: (Blk.vec (25 : Nat) (Ty.arr (32 : Nat) (Ty.int IntKind.u8)) p8) :: (Blk.vec (25 : Nat) (Ty.arr (32 : Nat) (Ty.int IntKind.u8)) p9) :: []) => gd (shapeOK T 54 [1, 3, 6, 7, 8, 9] (0 : Nat)) (G p0 p1 p2 p3 p4 p5 p6 p7 p8 p9 k)
  | _, _, _, _, _, _, _ => none
theorem o_22_0_inv {R : Type} {G : (Int) → (List Int) → (Int) → (List Int) → (Int) → (List (List Int)) → (List (List Int)) → (Int) → (List (List Int)) → (List (List Int)) → (Ex → St → Option R) → Option R} {T : St} {k : Ex → St → Option R} {r : R} (h : o_22_0 G T k = some r) : ∃ p0 p1 p2 p3 p4 p5 p6 p7 p8 p9, T = T_22_0 p0 p1 p2 p3 p4 p5 p6 p7 p8 p9 ∧ G p0 p1 p2 p3 p4 p5 p6 p7 p8 p9 k = some r := by
  unfold o_22_0 at h
  split at h
  · obtain ⟨hs, h'⟩ := gd_some h
    refine ⟨_, _, _, _, _, _, _, _, _, _, (st_of (asg := [(1, _), (3, _), (6, _), (7, _), (8, _), (9, _)]) hs ⟨by assumption, by assumption, by assumption, by assumption, by assumption, by assumption, trivial⟩ (by assumption)).trans ?_, h'⟩
    kernel_rfl
  · cases h
def O_22_22_0 {R : Type} : St → (Ex → St → Option R) → Option R := fun T k => o_22_0 G_22_0 T k
theorem body_22_0 {R : Type} (K0 : St → Option R) (K1 : Ex → St → Option R) (p0 : Int) (p1 : List Int) (p2 : Int) (p3 : List Int) (p4 : Int) (p5 : List (List Int)) (p6 : List (List Int)) (p7 : Int) (p8 : List (List Int)) (p9 : List (List Int)) : evLB (evCodeL sm_22 FU (ovr noO (evFn sm_22 fns FU 0)) .nil ir22_b0) (St.norm ir22_v0) (T_22_0 p0 p1 p2 p3 p4 p5 p6 p7 p8 p9) K0 K1 =
  bif decide (p2 < (67 : Int)) then gd (Sp.p_45 p3 p0 p2) (gd (inB p2 (List.length p1)) (gd (Sp.p_17 (Prod.fst (Sp.v_45 p3 p0 p2)) (0 : Int) (List.getD p1 (Int.toNat p2) (0 : Int))) (gd (room (List.length p8 + (1 : Nat)) (32 : Nat)) (K0 (T_22_0 p0 p1 (IntKind.wrap IntKind.i64 (p2 + (1 : Int))) p3 p4 p5 p6 p7 (p8 ++ [Prod.fst (Sp.v_17 (Prod.fst (Sp.v_45 p3 p0 p2)) (0 : Int) (List.getD p1 (Int.toNat p2) (0 : Int)))]) p9))))) else K1 (Ex.exit (0 : Nat)) (X_22_0_0 p0 p3 p4 p5 p6 p7 p8 p9) := by kernel_rfl
theorem Bgd_22_0 {R : Type} {c : Bool} {x : Option R} {y : Option Sp.E_22_0} {k0 : (Int) → (List Int) → (Int) → (List (List Int)) → (List (List Int)) → (Int) → (List (List Int)) → (List (List Int)) → Option R} (h : x = Sp.B_22_0 y k0) : gd c x = Sp.B_22_0 (gd c y) k0 := by cases c; rfl; exact h
theorem Bcond_22_0 {R : Type} {c : Bool} {x x' : Option R} {y y' : Option Sp.E_22_0} {k0 : (Int) → (List Int) → (Int) → (List (List Int)) → (List (List Int)) → (Int) → (List (List Int)) → (List (List Int)) → Option R} (h : x = Sp.B_22_0 y k0) (h' : x' = Sp.B_22_0 y' k0) : (bif c then x else x') = Sp.B_22_0 (bif c then y else y') k0 := by cases c; exact h'; exact h
theorem loop_22_0 {R : Type} (k : Ex → St → Option R) : ∀ (m : Nat) (p0 : Int) (p1 : List Int) (p2 : Int) (p3 : List Int) (p4 : Int) (p5 : List (List Int)) (p6 : List (List Int)) (p7 : Int) (p8 : List (List Int)) (p9 : List (List Int)), evLoopN (evCodeL sm_22 FU (ovr noO (evFn sm_22 fns FU 0)) .nil ir22_b0) (St.norm ir22_v0) m (T_22_0 p0 p1 p2 p3 p4 p5 p6 p7 p8 p9) k = Sp.B_22_0 (Sp.L_22_0 m p0 p1 p2 p3 p4 p5 p6 p7 p8 p9) (fun p0 p3 p4 p5 p6 p7 p8 p9 => k (Ex.exit (0 : Nat)) (X_22_0_0 p0 p3 p4 p5 p6 p7 p8 p9))
  | 0, _, _, _, _, _, _, _, _, _, _ => rfl
  | m + 1, p0, p1, p2, p3, p4, p5, p6, p7, p8, p9 => by
    rw [evLoopN_succ, body_22_0, Sp.L_22_0]
    repeat' first | apply Bgd_22_0 | apply Bcond_22_0 | exact loop_22_0 k m _ _ _ _ _ _ _ _ _ _ | rfl
theorem ok_22_0 {R : Type} (T : St) (k : Ex → St → Option R) (r : R) (h0 : o_22_0 G_22_0 T k = some r) : evLoopN (evCode sm_22 FU (evFn sm_22 fns FU 0) ir22_b0) (St.norm ir22_v0) FU T k = some r := by
  obtain ⟨p0, p1, p2, p3, p4, p5, p6, p7, p8, p9, rfl, h⟩ := o_22_0_inv h0
  refine evLoopN_L (t := .nil) noO_ok trivial _ _ _ _ ?_
  rw [loop_22_0]
  exact h
theorem OK_22_22_0 {R : Type} (T : St) (k : Ex → St → Option R) (r : R) (h : O_22_22_0 T k = some r) : evLoopN (evCode sm_22 FU (evFn sm_22 fns FU 0) ir22_b0) (St.norm ir22_v0) FU T k = some r := ok_22_0 T k r h
def F_22 (a0 : (List Int)) (a1 : Int) (a2 : (List Int)) : Option ((Int × ((List (List Int)) × ((List (List Int)) × Unit))) × Unit) :=
  gd (Sp.p_15 a2) (Sp.B_22_0 (Sp.L_22_0 (4611686018427387904 : Nat) a1 (Prod.fst (Sp.v_15 a2)) (0 : Int) a0 (0 : Int) [] [] a1 [] []) fun (y8 : Int) (y9 : List Int) (y10 : Int) (y11 y12 : List (List Int)) (y13 : Int) (y14 y15 : List (List Int)) => gd (Sp.p_46 y9 (Sp.xorI IntKind.i64 y8 (1 : Int))) (gd (Sp.p_46 y9 (IntKind.wrap IntKind.i64 ((2 : Int) - IntKind.wrap IntKind.i64 (IntKind.wrap IntKind.i64 (Int.tdiv y8 (2 : Int)) * (2 : Int))))) (gd (Sp.p_46 y9 (IntKind.wrap IntKind.i64 (IntKind.wrap IntKind.i64 ((2 : Int) - IntKind.wrap IntKind.i64 (IntKind.wrap IntKind.i64 (Int.tdiv y8 (2 : Int)) * (2 : Int))) + (1 : Int)))) (gd (Sp.p_42 (Prod.fst (Sp.v_46 y9 (IntKind.wrap IntKind.i64 ((2 : Int) - IntKind.wrap IntKind.i64 (IntKind.wrap IntKind.i64 (Int.tdiv y8 (2 : Int)) * (2 : Int)))))) (Prod.fst (Sp.v_46 y9 (IntKind.wrap IntKind.i64 (IntKind.wrap IntKind.i64 ((2 : Int) - IntKind.wrap IntKind.i64 (IntKind.wrap IntKind.i64 (Int.tdiv y8 (2 : Int)) * (2 : Int))) + (1 : Int)))))) (some ((y8, y14, [Prod.fst (Sp.v_46 y9 (Sp.xorI IntKind.i64 y8 (1 : Int))), Prod.fst (Sp.v_42 (Prod.fst (Sp.v_46 y9 (IntKind.wrap IntKind.i64 ((2 : Int) - IntKind.wrap IntKind.i64 (IntKind.wrap IntKind.i64 (Int.tdiv y8 (2 : Int)) * (2 : Int)))))) (Prod.fst (Sp.v_46 y9 (IntKind.wrap IntKind.i64 (IntKind.wrap IntKind.i64 ((2 : Int) - IntKind.wrap IntKind.i64 (IntKind.wrap IntKind.i64 (Int.tdiv y8 (2 : Int)) * (2 : Int))) + (1 : Int))))))], PUnit.unit), PUnit.unit))))))
theorem fn_22 (a0 : (List Int)) (a1 : Int) (a2 : (List Int)) : evFnL sm_22 FU (ovr noO (evFn sm_22 fns FU 0)) (ir22_t O_22_22_0) ir22 (ofH [(.arr 32 (.int .u8)), (.int .i64), (.arr 32 (.int .u8))] (a0, a1, a2, ())) [] (pureK [(.pair (.int .i64) (.pair (.slice (.arr 32 (.int .u8))) (.pair (.slice (.arr 32 (.int .u8))) .unit)))]) = F_22 a0 a1 a2 := by kernel_rfl
def Sp.p_22 (a0 : (List Int)) (a1 : Int) (a2 : (List Int)) : Bool := (F_22 a0 a1 a2).isSome
def Sp.v_22 (a0 : (List Int)) (a1 : Int) (a2 : (List Int)) : (Int × ((List (List Int)) × ((List (List Int)) × Unit))) × Unit := (F_22 a0 a1 a2).getD (dfH [(.pair (.int .i64) (.pair (.slice (.arr 32 (.int .u8))) (.pair (.slice (.arr 32 (.int .u8))) .unit)))])
def s_22 : Summ := shS [(.arr 32 (.int .u8)), (.int .i64), (.arr 32 (.int .u8))] [(.pair (.int .i64) (.pair (.slice (.arr 32 (.int .u8))) (.pair (.slice (.arr 32 (.int .u8))) .unit)))] (fun x => Sp.p_22 x.1 x.2.1 x.2.2.1) (fun x => Sp.v_22 x.1 x.2.1 x.2.2.1)
theorem pv_22 (a0 : (List Int)) (a1 : Int) (a2 : (List Int)) {y : (Int × ((List (List Int)) × ((List (List Int)) × Unit))) × Unit} (h : F_22 a0 a1 a2 = some y) : Sp.p_22 a0 a1 a2 = true ∧ Sp.v_22 a0 a1 a2 = y := ⟨by rw [Sp.p_22, h]; rfl, by rw [Sp.v_22, h]; rfl⟩
theorem run_22 (x : HDen [(.arr 32 (.int .u8)), (.int .i64), (.arr 32 (.int .u8))]) (y : HDen [(.pair (.int .i64) (.pair (.slice (.arr 32 (.int .u8))) (.pair (.slice (.arr 32 (.int .u8))) .unit)))]) (h : F_22 x.1 x.2.1 x.2.2.1 = some y) : evFn sm_22 fns FU 1 22 (ofH [(.arr 32 (.int .u8)), (.int .i64), (.arr 32 (.int .u8))] x) [] (pureK [(.pair (.int .i64) (.pair (.slice (.arr 32 (.int .u8))) (.pair (.slice (.arr 32 (.int .u8))) .unit)))]) = some y :=
  evFnL_sound (fn := ir22) (t := (ir22_t O_22_22_0)) (o := noO) rfl noO_ok (ir22_tok (fun T k r => OK_22_22_0 T k r)) ((fn_22 _ _ _).trans h)
end
end Go.Ev
set_option linter.unusedSimpArgs false
set_option linter.unusedVariables false
namespace Go.Ev
open Go
set_option maxRecDepth 100000
set_option maxHeartbeats 4000000
namespace Sp
def sgn (s d : List Int) (k : Int) (n : Nat) : List (List Int) := (List.range n).map fun j : Nat => chn (d.getD j 0).toNat 0 (sec s k (j : Int))
def oth (k : Int) : Int := if k < 2 then 2 else 0
def nxt (k : Int) : Int := if k % 2 = 0 then k + 1 else k - 1
def sigF (s : List Int) (k : Int) (dg : List Int) : SigT := (k, sgn s (digL dg) k 67, [leafS s (nxt k), node (leafS s (oth k)) (leafS s (oth k + 1))], ())
end Sp
theorem sgn_len (s d : List Int) (k : Int) (n : Nat) : (Sp.sgn s d k n).length = n := by simp [Sp.sgn]
theorem sgn_succ (s d : List Int) (k : Int) (n : Nat) : Sp.sgn s d k (n + 1) = Sp.sgn s d k n ++ [Sp.chn (d.getD n 0).toNat 0 (Sp.sec s k (n : Int))] := by simp [Sp.sgn, List.range_succ]
theorem sign_loop (s dg : List Int) (hb : bytes dg) (k x1 x4 : Int) (x2 x3 x5 : List (List Int)) : ∀ (d m j : Nat), j + d = 67 → d < m → Sp.L_20_0 m k (Sp.digL dg) 67 (j : Nat) s x1 x2 x3 x4 (Sp.sgn s (Sp.digL dg) k j) x5 = some (.e0 k s x1 x2 x3 x4 (Sp.sgn s (Sp.digL dg) k 67) x5)
  | 0, m + 1, j, hj, _ => by
    rw [Sp.L_20_0, cond_dff (by omega), show j = 67 by omega]
  | d + 1, m + 1, j, hj, hm => by
    have hl := digL_len dg
    have hd := digL_b hb j (by omega)
    have h1 := pv_43 _ _ _ (sec_ok s k j)
    have h2 := pv_37 _ _ _ (chain_ok (Sp.sec s k j) 0 ((Sp.digL dg).getD j 0) (by decide) hd.1 hd.2)
    rw [Int.sub_zero] at h2
    rw [Sp.L_20_0, cond_dtt (by omega), gd_inB (by omega) (by omega), Int.toNat_natCast, h1.1, h1.2, gd_tt]
    dsimp only
    rw [h2.1, h2.2, gd_tt, gd_room (by rw [sgn_len]; omega) (by rw [sgn_len]; omega), wi64 (by omega) (by omega)]
    dsimp only
    rw [← sgn_succ]
    exact sign_loop s dg hb k x1 x4 x2 x3 x5 d m (j + 1) (by omega) (by omega)
theorem rsign_loop (s dg : List Int) (hb : bytes dg) (k x1 x4 : Int) (x2 x3 x5 : List (List Int)) : ∀ (d m j : Nat), j + d = 67 → d < m → Sp.L_22_0 m k (Sp.digL dg) (j : Nat) s x1 x2 x3 x4 (Sp.sgn s (Sp.digL dg) k j) x5 = some (.e0 k s x1 x2 x3 x4 (Sp.sgn s (Sp.digL dg) k 67) x5)
  | 0, m + 1, j, hj, _ => by
    rw [Sp.L_22_0, cond_dff (by omega), show j = 67 by omega]
  | d + 1, m + 1, j, hj, hm => by
    have hl := digL_len dg
    have hd := digL_b hb j (by omega)
    have h1 := pv_45 _ _ _ (rsec_ok s k j)
    have h2 := pv_17 _ _ _ (rchain_ok (Sp.sec s k j) 0 ((Sp.digL dg).getD j 0) (by decide) hd.1 hd.2)
    rw [Int.sub_zero] at h2
    rw [Sp.L_22_0, cond_dtt (by omega), h1.1, h1.2, gd_tt, gd_inB (by omega) (by omega), Int.toNat_natCast]
    dsimp only
    rw [h2.1, h2.2, gd_tt, gd_room (by rw [sgn_len]; omega) (by rw [sgn_len]; omega), wi64 (by omega) (by omega)]
    dsimp only
    rw [← sgn_succ]
    exact rsign_loop s dg hb k x1 x4 x2 x3 x5 d m (j + 1) (by omega) (by omega)
theorem key_nums (k : Int) (h0 : 0 ≤ k) (h1 : k < 4) : Sp.xorI .i64 k 1 = Sp.nxt k ∧ Sp.andnI .i64 (Sp.xorI .i64 k 2) 1 = Sp.oth k ∧ IntKind.wrap .i64 (2 - IntKind.wrap .i64 (IntKind.wrap .i64 (Int.tdiv k 2) * 2)) = Sp.oth k ∧ IntKind.wrap .i64 (Sp.oth k + 1) = Sp.oth k + 1 := by
  rcases (show k = 0 ∨ k = 1 ∨ k = 2 ∨ k = 3 by omega) with rfl | rfl | rfl | rfl <;> exact ⟨by kernel_rfl, by kernel_rfl, by kernel_rfl, by kernel_rfl⟩
theorem sign_ok (s : List Int) (k : Int) (dg : List Int) (hb : bytes dg) (h0 : 0 ≤ k) (h1 : k < 4) : F_20 s k dg = some (Sp.sigF s k dg, 0, ()) := by
  have d := pv_13 _ (i_digits dg hb)
  obtain ⟨e1, e2, _, e4⟩ := key_nums k h0 h1
  unfold F_20
  rw [cond_dff (by omega), cond_dff (by omega), d.1, d.2, gd_tt]
  dsimp only
  rw [digL_len]
  rw [show Sp.L_20_0 4611686018427387904 k (Sp.digL dg) ((67 : Nat) : Int) 0 s 0 [] [] k [] [] = _ from sign_loop s dg hb k 0 k [] [] [] 67 4611686018427387904 0 (by omega) (by omega)]
  simp only [Sp.B_20_0, e1, e2, e4, (leaf_pv s _).1, (leaf_pv s _).2, (above_pv _ _).1, (above_pv _ _).2, gd_tt, Sp.sigF]
theorem rsign_ok (s : List Int) (k : Int) (dg : List Int) (hb : bytes dg) (h0 : 0 ≤ k) (h1 : k < 4) : F_22 s k dg = some (Sp.sigF s k dg, ()) := by
  have d := pv_15 _ (r_digits dg hb)
  obtain ⟨e1, _, e3, e4⟩ := key_nums k h0 h1
  unfold F_22
  rw [d.1, d.2, gd_tt]
  dsimp only
  rw [show Sp.L_22_0 4611686018427387904 k (Sp.digL dg) 0 s 0 [] [] k [] [] = _ from rsign_loop s dg hb k 0 k [] [] [] 67 4611686018427387904 0 (by omega) (by omega)]
  simp only [Sp.B_22_0, e1, e3, e4, (rleaf_pv s _).1, (rleaf_pv s _).2, (node_pv _ _).1, (node_pv _ _).2, gd_tt, Sp.sigF]
end Go.Ev
namespace Go.Ev
open Go
set_option maxRecDepth 100000
set_option maxHeartbeats 4000000
set_option linter.unusedVariables false
noncomputable section

def sm_21 : Nat → Option Summ := fun f => none
def T_21_0 (p0 : Int) (p1 : Int × List (List Int) × List (List Int) × PUnit) (p2 : Int × List (List Int) × List (List Int) × PUnit) : St := St.mk [CV.junk, CV.junk, CV.ptr (0 : Nat) [], CV.ptr (1 : Nat) [], CV.junk, CV.int IntKind.i64 p0, CV.junk, CV.junk, CV.junk, CV.junk, CV.junk, CV.junk, CV.junk, CV.junk, CV.junk, CV.junk, CV.junk, CV.junk, CV.junk, CV.junk, CV.junk, CV.junk, CV.junk, CV.junk, CV.junk, CV.junk, CV.junk, CV.junk, CV.junk, CV.junk, CV.junk, CV.junk, CV.junk, CV.junk, CV.junk, CV.junk, CV.junk, CV.junk, CV.junk, CV.junk, CV.junk, CV.junk, CV.junk, CV.junk, CV.junk, CV.junk, CV.junk, CV.junk, CV.junk, CV.junk, CV.junk, CV.junk, CV.junk, CV.junk, CV.junk, CV.junk, CV.junk, CV.junk, CV.junk, CV.junk, CV.junk, CV.junk, CV.junk, CV.junk, CV.junk, CV.junk] [Blk.mem (CV.pure (Ty.pair (Ty.int IntKind.i64) (Ty.pair (Ty.slice (Ty.arr (32 : Nat) (Ty.int IntKind.u8))) (Ty.pair (Ty.slice (Ty.arr (32 : Nat) (Ty.int IntKind.u8))) Ty.unit))) p1), Blk.mem (CV.pure (Ty.pair (Ty.int IntKind.i64) (Ty.pair (Ty.slice (Ty.arr (32 : Nat) (Ty.int IntKind.u8))) (Ty.pair (Ty.slice (Ty.arr (32 : Nat) (Ty.int IntKind.u8))) Ty.unit))) p2)] (0 : Nat)
def X_21_0_0 : St := St.mk [CV.junk, CV.junk, CV.junk, CV.junk, CV.bool false, CV.junk, CV.junk, CV.junk, CV.junk, CV.junk, CV.junk, CV.junk, CV.junk, CV.junk, CV.junk, CV.junk, CV.junk, CV.junk, CV.junk, CV.junk, CV.junk, CV.junk, CV.junk, CV.junk, CV.junk, CV.junk, CV.junk, CV.junk, CV.junk, CV.junk, CV.junk, CV.junk, CV.junk, CV.junk, CV.junk, CV.junk, CV.junk, CV.junk, CV.junk, CV.junk, CV.junk, CV.junk, CV.junk, CV.junk, CV.junk, CV.junk, CV.junk, CV.junk, CV.junk, CV.junk, CV.junk, CV.junk, CV.junk, CV.junk, CV.junk, CV.junk, CV.junk, CV.junk, CV.junk, CV.junk, CV.junk, CV.junk, CV.junk, CV.junk, CV.junk, CV.junk] [] (0 : Nat)
def X_21_0_1 (p1 : Int × List (List Int) × List (List Int) × PUnit) (p2 : Int × List (List Int) × List (List Int) × PUnit) : St := St.mk [CV.junk, CV.junk, CV.ptr (0 : Nat) [], CV.ptr (1 : Nat) [], CV.junk, CV.junk, CV.junk, CV.junk, CV.junk, CV.junk, CV.junk, CV.junk, CV.junk, CV.junk, CV.junk, CV.junk, CV.junk, CV.junk, CV.junk, CV.junk, CV.junk, CV.junk, CV.junk, CV.junk, CV.junk, CV.junk, CV.junk, CV.junk, CV.junk, CV.junk, CV.junk, CV.junk, CV.junk, CV.junk, CV.junk, CV.junk, CV.junk, CV.junk, CV.junk, CV.junk, CV.junk, CV.junk, CV.junk, CV.junk, CV.junk, CV.junk, CV.junk, CV.junk, CV.junk, CV.junk, CV.junk, CV.junk, CV.junk, CV.junk, CV.junk, CV.junk, CV.junk, CV.junk, CV.junk, CV.junk, CV.junk, CV.junk, CV.junk, CV.junk, CV.junk, CV.junk] [Blk.mem (CV.pure (Ty.pair (Ty.int IntKind.i64) (Ty.pair (Ty.slice (Ty.arr (32 : Nat) (Ty.int IntKind.u8))) (Ty.pair (Ty.slice (Ty.arr (32 : Nat) (Ty.int IntKind.u8))) Ty.unit))) p1), Blk.mem (CV.pure (Ty.pair (Ty.int IntKind.i64) (Ty.pair (Ty.slice (Ty.arr (32 : Nat) (Ty.int IntKind.u8))) (Ty.pair (Ty.slice (Ty.arr (32 : Nat) (Ty.int IntKind.u8))) Ty.unit))) p2)] (0 : Nat)
inductive Sp.E_21_0 where
  | e0
  | e1 (p1 : Int × List (List Int) × List (List Int) × PUnit) (p2 : Int × List (List Int) × List (List Int) × PUnit)
def Sp.B_21_0 {R : Type} (r : Option Sp.E_21_0) (k0 : Option R) (k1 : (Int × List (List Int) × List (List Int) × PUnit) → (Int × List (List Int) × List (List Int) × PUnit) → Option R) : Option R := match r with
  | none => none
  | some (.e0) => k0
  | some (.e1 p1 p2) => k1 p1 p2
def Sp.L_21_0 : Nat → (Int) → (Int × List (List Int) × List (List Int) × PUnit) → (Int × List (List Int) × List (List Int) × PUnit) → Option Sp.E_21_0
  | 0, _, _, _ => none
  | m + 1, p0, p1, p2 => bif decide (p0 < (↑(List.length (Prod.fst (Prod.snd p1))) : Int)) then gd (inB p0 (List.length (Prod.fst (Prod.snd p1)))) (gd (inB p0 (List.length (Prod.fst (Prod.snd p2)))) (bif !Ty.beq (Ty.arr (32 : Nat) (Ty.int IntKind.u8)) (List.getD (Prod.fst (Prod.snd p1)) (Int.toNat p0) (Ty.dflt (Ty.arr (32 : Nat) (Ty.int IntKind.u8)))) (List.getD (Prod.fst (Prod.snd p2)) (Int.toNat p0) (Ty.dflt (Ty.arr (32 : Nat) (Ty.int IntKind.u8)))) then some (Sp.E_21_0.e0) else Sp.L_21_0 m (IntKind.wrap IntKind.i64 (p0 + (1 : Int))) p1 p2)) else some (Sp.E_21_0.e1 p1 p2)
def G_21_0 {R : Type} (p0 : Int) (p1 : Int × List (List Int) × List (List Int) × PUnit) (p2 : Int × List (List Int) × List (List Int) × PUnit) (k : Ex → St → Option R) : Option R := Sp.B_21_0 (Sp.L_21_0 FU p0 p1 p2) (k Ex.ret (X_21_0_0)) (fun p1 p2 => k (Ex.exit (0 : Nat)) (X_21_0_1 p1 p2))
def o_21_0 {R : Type} (G : (Int) → (Int × List (List Int) × List (List Int) × PUnit) → (Int × List (List Int) × List (List Int) × PUnit) → (Ex → St → Option R) → Option R) : St → (Ex → St → Option R) → Option R := fun T k => match T.sl.getD 2 .junk, T.sl.getD 3 .junk, T.sl.getD 5 .junk, T.hp with
  | CV.ptr (0 : Nat) [], CV.ptr (1 : Nat) [], CV.int IntKind.i64 p0, ((Blk.mem (CV.pure (Ty.pair (Ty.int IntKind.i64) (Ty.pair (Ty.slice (Ty.arr (32 : Nat) (Ty.int IntKind.u8))) (Ty.pair (Ty.slice (Ty.arr (32 : Nat) (Ty.int IntKind.u8))) Ty.unit))) p1)) :: (Blk.mem (CV.pure (Ty.pair (Ty.int IntKind.i64) (Ty.pair (Ty.slice (Ty.arr (32 : Nat) (Ty.int IntKind.u8))) (Ty.pair (Ty.slice (Ty.arr (32 : Nat) (Ty.int IntKind.u8))) Ty.unit))) p2)) :: []) => gd (shapeOK T 66 [2, 3, 5] (0 : Nat)) (G p0 p1 p2 k)
  | _, _, _, _ => none
theorem o_21_0_inv {R : Type} {G : (Int) → (Int × List (List Int) × List (List Int) × PUnit) → (Int × List (List Int) × List (List Int) × PUnit) → (Ex → St → Option R) → Option R} {T : St} {k : Ex → St → Option R} {r : R} (h : o_21_0 G T k = some r) : ∃ p0 p1 p2, T = T_21_0 p0 p1 p2 ∧ G p0 p1 p2 k = some r := by
  unfold o_21_0 at h
  split at h
  · obtain ⟨hs, h'⟩ := gd_some h
    refine ⟨_, _, _, (st_of (asg := [(2, _), (3, _), (5, _)]) hs ⟨by assumption, by assumption, by assumption, trivial⟩ (by assumption)).trans ?_, h'⟩
    kernel_rfl
  · cases h
def T_21_1 (p0 : Int) (p1 : Int × List (List Int) × List (List Int) × PUnit) (p2 : Int × List (List Int) × List (List Int) × PUnit) : St := St.mk [CV.junk, CV.junk, CV.ptr (0 : Nat) [], CV.ptr (1 : Nat) [], CV.junk, CV.junk, CV.int IntKind.i64 p0, CV.junk, CV.junk, CV.junk, CV.junk, CV.junk, CV.junk, CV.junk, CV.junk, CV.junk, CV.junk, CV.junk, CV.junk, CV.junk, CV.junk, CV.junk, CV.junk, CV.junk, CV.junk, CV.junk, CV.junk, CV.junk, CV.junk, CV.junk, CV.junk, CV.junk, CV.junk, CV.junk, CV.junk, CV.junk, CV.junk, CV.junk, CV.junk, CV.junk, CV.junk, CV.junk, CV.junk, CV.junk, CV.junk, CV.junk, CV.junk, CV.junk, CV.junk, CV.junk, CV.junk, CV.junk, CV.junk, CV.junk, CV.junk, CV.junk, CV.junk, CV.junk, CV.junk, CV.junk, CV.junk, CV.junk, CV.junk, CV.junk, CV.junk, CV.junk] [Blk.mem (CV.pure (Ty.pair (Ty.int IntKind.i64) (Ty.pair (Ty.slice (Ty.arr (32 : Nat) (Ty.int IntKind.u8))) (Ty.pair (Ty.slice (Ty.arr (32 : Nat) (Ty.int IntKind.u8))) Ty.unit))) p1), Blk.mem (CV.pure (Ty.pair (Ty.int IntKind.i64) (Ty.pair (Ty.slice (Ty.arr (32 : Nat) (Ty.int IntKind.u8))) (Ty.pair (Ty.slice (Ty.arr (32 : Nat) (Ty.int IntKind.u8))) Ty.unit))) p2)] (0 : Nat)
def X_21_1_0 : St := St.mk [CV.junk, CV.junk, CV.junk, CV.junk, CV.bool false, CV.junk, CV.junk, CV.junk, CV.junk, CV.junk, CV.junk, CV.junk, CV.junk, CV.junk, CV.junk, CV.junk, CV.junk, CV.junk, CV.junk, CV.junk, CV.junk, CV.junk, CV.junk, CV.junk, CV.junk, CV.junk, CV.junk, CV.junk, CV.junk, CV.junk, CV.junk, CV.junk, CV.junk, CV.junk, CV.junk, CV.junk, CV.junk, CV.junk, CV.junk, CV.junk, CV.junk, CV.junk, CV.junk, CV.junk, CV.junk, CV.junk, CV.junk, CV.junk, CV.junk, CV.junk, CV.junk, CV.junk, CV.junk, CV.junk, CV.junk, CV.junk, CV.junk, CV.junk, CV.junk, CV.junk, CV.junk, CV.junk, CV.junk, CV.junk, CV.junk, CV.junk] [] (0 : Nat)
def X_21_1_1 : St := St.mk [CV.junk, CV.junk, CV.junk, CV.junk, CV.junk, CV.junk, CV.junk, CV.junk, CV.junk, CV.junk, CV.junk, CV.junk, CV.junk, CV.junk, CV.junk, CV.junk, CV.junk, CV.junk, CV.junk, CV.junk, CV.junk, CV.junk, CV.junk, CV.junk, CV.junk, CV.junk, CV.junk, CV.junk, CV.junk, CV.junk, CV.junk, CV.junk, CV.junk, CV.junk, CV.junk, CV.junk, CV.junk, CV.junk, CV.junk, CV.junk, CV.junk, CV.junk, CV.junk, CV.junk, CV.junk, CV.junk, CV.junk, CV.junk, CV.junk, CV.junk, CV.junk, CV.junk, CV.junk, CV.junk, CV.junk, CV.junk, CV.junk, CV.junk, CV.junk, CV.junk, CV.junk, CV.junk, CV.junk, CV.junk, CV.junk, CV.junk] [] (0 : Nat)
inductive Sp.E_21_1 where
  | e0
  | e1
def Sp.B_21_1 {R : Type} (r : Option Sp.E_21_1) (k0 : Option R) (k1 : Option R) : Option R := match r with
  | none => none
  | some (.e0) => k0
  | some (.e1) => k1
def Sp.L_21_1 : Nat → (Int) → (Int × List (List Int) × List (List Int) × PUnit) → (Int × List (List Int) × List (List Int) × PUnit) → Option Sp.E_21_1
  | 0, _, _, _ => none
  | m + 1, p0, p1, p2 => bif decide (p0 < (↑(List.length (Prod.fst (Prod.snd (Prod.snd p1)))) : Int)) then gd (inB p0 (List.length (Prod.fst (Prod.snd (Prod.snd p1))))) (gd (inB p0 (List.length (Prod.fst (Prod.snd (Prod.snd p2))))) (bif !Ty.beq (Ty.arr (32 : Nat) (Ty.int IntKind.u8)) (List.getD (Prod.fst (Prod.snd (Prod.snd p1))) (Int.toNat p0) (Ty.dflt (Ty.arr (32 : Nat) (Ty.int IntKind.u8)))) (List.getD (Prod.fst (Prod.snd (Prod.snd p2))) (Int.toNat p0) (Ty.dflt (Ty.arr (32 : Nat) (Ty.int IntKind.u8)))) then some (Sp.E_21_1.e0) else Sp.L_21_1 m (IntKind.wrap IntKind.i64 (p0 + (1 : Int))) p1 p2)) else some (Sp.E_21_1.e1)
def G_21_1 {R : Type} (p0 : Int) (p1 : Int × List (List Int) × List (List Int) × PUnit) (p2 : Int × List (List Int) × List (List Int) × PUnit) (k : Ex → St → Option R) : Option R := Sp.B_21_1 (Sp.L_21_1 FU p0 p1 p2) (k Ex.ret (X_21_1_0)) (k (Ex.exit (2 : Nat)) (X_21_1_1))
def o_21_1 {R : Type} (G : (Int) → (Int × List (List Int) × List (List Int) × PUnit) → (Int × List (List Int) × List (List Int) × PUnit) → (Ex → St → Option R) → Option R) : St → (Ex → St → Option R) → Option R := fun T k => match T.sl.getD 2 .junk, T.sl.getD 3 .junk, T.sl.getD 6 .junk, T.hp with
  | CV.ptr (0 : Nat) [], CV.ptr (1 : Nat) [], CV.int IntKind.i64 p0, ((Blk.mem (CV.pure (Ty.pair (Ty.int IntKind.i64) (Ty.pair (Ty.slice (Ty.arr (32 : Nat) (Ty.int IntKind.u8))) (Ty.pair (Ty.slice (Ty.arr (32 : Nat) (Ty.int IntKind.u8))) Ty.unit))) p1)) :: (Blk.mem (CV.pure (Ty.pair (Ty.int IntKind.i64) (Ty.pair (Ty.slice (Ty.arr (32 : Nat) (Ty.int IntKind.u8))) (Ty.pair (Ty.slice (Ty.arr (32 : Nat) (Ty.int IntKind.u8))) Ty.unit))) p2)) :: []) => gd (shapeOK T 66 [2, 3, 6] (0 : Nat)) (G p0 p1 p2 k)
  | _, _, _, _ => none
theorem o_21_1_inv {R : Type} {G : (Int) → (Int × List (List Int) × List (List Int) × PUnit) → (Int × List (List Int) × List (List Int) × PUnit) → (Ex → St → Option R) → Option R} {T : St} {k : Ex → St → Option R} {r : R} (h : o_21_1 G T k = some r) : ∃ p0 p1 p2, T = T_21_1 p0 p1 p2 ∧ G p0 p1 p2 k = some r := by
  unfold o_21_1 at h
  split at h
  · obtain ⟨hs, h'⟩ := gd_some h
    refine ⟨_, _, _, (st_of (asg := [(2, _), (3, _), (6, _)]) hs ⟨by assumption, by assumption, by assumption, trivial⟩ (by assumption)).trans ?_, h'⟩
    kernel_rfl
  · cases h
def O_21_21_0 {R : Type} : St → (Ex → St → Option R) → Option R := fun T k => o_21_0 G_21_0 T k
def O_21_21_1 {R : Type} : St → (Ex → St → Option R) → Option R := fun T k => o_21_1 G_21_1 T k
theorem body_21_0 {R : Type} (K0 : St → Option R) (K1 : Ex → St → Option R) (p0 : Int) (p1 : Int × List (List Int) × List (List Int) × PUnit) (p2 : Int × List (List Int) × List (List Int) × PUnit) : evLB (evCodeL sm_21 FU (ovr noO (evFn sm_21 fns FU 0)) .nil ir21_b0) (St.norm ir21_v0) (T_21_0 p0 p1 p2) K0 K1 =
  bif decide (p0 < (↑(List.length (Prod.fst (Prod.snd p1))) : Int)) then gd (inB p0 (List.length (Prod.fst (Prod.snd p1)))) (gd (inB p0 (List.length (Prod.fst (Prod.snd p2)))) (bif !Ty.beq (Ty.arr (32 : Nat) (Ty.int IntKind.u8)) (List.getD (Prod.fst (Prod.snd p1)) (Int.toNat p0) (Ty.dflt (Ty.arr (32 : Nat) (Ty.int IntKind.u8)))) (List.getD (Prod.fst (Prod.snd p2)) (Int.toNat p0) (Ty.dflt (Ty.arr (32 : Nat) (Ty.int IntKind.u8)))) then K1 Ex.ret X_21_0_0 else K0 (T_21_0 (IntKind.wrap IntKind.i64 (p0 + (1 : Int))) p1 p2))) else K1 (Ex.exit (0 : Nat)) (X_21_0_1 p1 p2) := by kernel_rfl
theorem Bgd_21_0 {R : Type} {c : Bool} {x : Option R} {y : Option Sp.E_21_0} {k0 : Option R} {k1 : (Int × List (List Int) × List (List Int) × PUnit) → (Int × List (List Int) × List (List Int) × PUnit) → Option R} (h : x = Sp.B_21_0 y k0 k1) : gd c x = Sp.B_21_0 (gd c y) k0 k1 := by cases c; rfl; exact h
theorem Bcond_21_0 {R : Type} {c : Bool} {x x' : Option R} {y y' : Option Sp.E_21_0} {k0 : Option R} {k1 : (Int × List (List Int) × List (List Int) × PUnit) → (Int × List (List Int) × List (List Int) × PUnit) → Option R} (h : x = Sp.B_21_0 y k0 k1) (h' : x' = Sp.B_21_0 y' k0 k1) : (bif c then x else x') = Sp.B_21_0 (bif c then y else y') k0 k1 := by cases c; exact h'; exact h
theorem loop_21_0 {R : Type} (k : Ex → St → Option R) : ∀ (m : Nat) (p0 : Int) (p1 : Int × List (List Int) × List (List Int) × PUnit) (p2 : Int × List (List Int) × List (List Int) × PUnit), evLoopN (evCodeL sm_21 FU (ovr noO (evFn sm_21 fns FU 0)) .nil ir21_b0) (St.norm ir21_v0) m (T_21_0 p0 p1 p2) k = Sp.B_21_0 (Sp.L_21_0 m p0 p1 p2) (k Ex.ret (X_21_0_0)) (fun p1 p2 => k (Ex.exit (0 : Nat)) (X_21_0_1 p1 p2))
  | 0, _, _, _ => rfl
  | m + 1, p0, p1, p2 => by
    rw [evLoopN_succ, body_21_0, Sp.L_21_0]
    repeat' first | apply Bgd_21_0 | apply Bcond_21_0 | exact loop_21_0 k m _ _ _ | rfl
theorem ok_21_0 {R : Type} (T : St) (k : Ex → St → Option R) (r : R) (h0 : o_21_0 G_21_0 T k = some r) : evLoopN (evCode sm_21 FU (evFn sm_21 fns FU 0) ir21_b0) (St.norm ir21_v0) FU T k = some r := by
  obtain ⟨p0, p1, p2, rfl, h⟩ := o_21_0_inv h0
  refine evLoopN_L (t := .nil) noO_ok trivial _ _ _ _ ?_
  rw [loop_21_0]
  exact h
theorem OK_21_21_0 {R : Type} (T : St) (k : Ex → St → Option R) (r : R) (h : O_21_21_0 T k = some r) : evLoopN (evCode sm_21 FU (evFn sm_21 fns FU 0) ir21_b0) (St.norm ir21_v0) FU T k = some r := ok_21_0 T k r h
theorem body_21_1 {R : Type} (K0 : St → Option R) (K1 : Ex → St → Option R) (p0 : Int) (p1 : Int × List (List Int) × List (List Int) × PUnit) (p2 : Int × List (List Int) × List (List Int) × PUnit) : evLB (evCodeL sm_21 FU (ovr noO (evFn sm_21 fns FU 0)) .nil ir21_b1) (St.norm ir21_v1) (T_21_1 p0 p1 p2) K0 K1 =
  bif decide (p0 < (↑(List.length (Prod.fst (Prod.snd (Prod.snd p1)))) : Int)) then gd (inB p0 (List.length (Prod.fst (Prod.snd (Prod.snd p1))))) (gd (inB p0 (List.length (Prod.fst (Prod.snd (Prod.snd p2))))) (bif !Ty.beq (Ty.arr (32 : Nat) (Ty.int IntKind.u8)) (List.getD (Prod.fst (Prod.snd (Prod.snd p1))) (Int.toNat p0) (Ty.dflt (Ty.arr (32 : Nat) (Ty.int IntKind.u8)))) (List.getD (Prod.fst (Prod.snd (Prod.snd p2))) (Int.toNat p0) (Ty.dflt (Ty.arr (32 : Nat) (Ty.int IntKind.u8)))) then K1 Ex.ret X_21_1_0 else K0 (T_21_1 (IntKind.wrap IntKind.i64 (p0 + (1 : Int))) p1 p2))) else K1 (Ex.exit (2 : Nat)) X_21_1_1 := by kernel_rfl
theorem Bgd_21_1 {R : Type} {c : Bool} {x : Option R} {y : Option Sp.E_21_1} {k0 : Option R} {k1 : Option R} (h : x = Sp.B_21_1 y k0 k1) : gd c x = Sp.B_21_1 (gd c y) k0 k1 := by cases c; rfl; exact h
theorem Bcond_21_1 {R : Type} {c : Bool} {x x' : Option R} {y y' : Option Sp.E_21_1} {k0 : Option R} {k1 : Option R} (h : x = Sp.B_21_1 y k0 k1) (h' : x' = Sp.B_21_1 y' k0 k1) : (bif c then x else x') = Sp.B_21_1 (bif c then y else y') k0 k1 := by cases c; exact h'; exact h
theorem loop_21_1 {R : Type} (k : Ex → St → Option R) : ∀ (m : Nat) (p0 : Int) (p1 : Int × List (List Int) × List (List Int) × PUnit) (p2 : Int × List (List Int) × List (List Int) × PUnit), evLoopN (evCodeL sm_21 FU (ovr noO (evFn sm_21 fns FU 0)) .nil ir21_b1) (St.norm ir21_v1) m (T_21_1 p0 p1 p2) k = Sp.B_21_1 (Sp.L_21_1 m p0 p1 p2) (k Ex.ret (X_21_1_0)) (k (Ex.exit (2 : Nat)) (X_21_1_1))
  | 0, _, _, _ => rfl
  | m + 1, p0, p1, p2 => by
    rw [evLoopN_succ, body_21_1, Sp.L_21_1]
    repeat' first | apply Bgd_21_1 | apply Bcond_21_1 | exact loop_21_1 k m _ _ _ | rfl
theorem ok_21_1 {R : Type} (T : St) (k : Ex → St → Option R) (r : R) (h0 : o_21_1 G_21_1 T k = some r) : evLoopN (evCode sm_21 FU (evFn sm_21 fns FU 0) ir21_b1) (St.norm ir21_v1) FU T k = some r := by
  obtain ⟨p0, p1, p2, rfl, h⟩ := o_21_1_inv h0
  refine evLoopN_L (t := .nil) noO_ok trivial _ _ _ _ ?_
  rw [loop_21_1]
  exact h
theorem OK_21_21_1 {R : Type} (T : St) (k : Ex → St → Option R) (r : R) (h : O_21_21_1 T k = some r) : evLoopN (evCode sm_21 FU (evFn sm_21 fns FU 0) ir21_b1) (St.norm ir21_v1) FU T k = some r := ok_21_1 T k r h
def F_21 (a0 : (Int × ((List (List Int)) × ((List (List Int)) × Unit)))) (a1 : (Int × ((List (List Int)) × ((List (List Int)) × Unit)))) : Option (Bool × Unit) :=
  bif Prod.fst a0 != Prod.fst a1 then some (false, PUnit.unit) else bif (↑(List.length (Prod.fst (Prod.snd a0))) : Int) != (↑(List.length (Prod.fst (Prod.snd a1))) : Int) then some (false, PUnit.unit) else bif (↑(List.length (Prod.fst (Prod.snd (Prod.snd a0)))) : Int) != (↑(List.length (Prod.fst (Prod.snd (Prod.snd a1)))) : Int) then some (false, PUnit.unit) else Sp.B_21_0 (Sp.L_21_0 (4611686018427387904 : Nat) (0 : Int) a0 a1) (some (false, PUnit.unit)) fun (y2 y3 : Int × List (List Int) × List (List Int) × PUnit) => Sp.B_21_1 (Sp.L_21_1 (4611686018427387904 : Nat) (0 : Int) y2 y3) (some (false, PUnit.unit)) (some (true, PUnit.unit))
theorem fn_21 (a0 : (Int × ((List (List Int)) × ((List (List Int)) × Unit)))) (a1 : (Int × ((List (List Int)) × ((List (List Int)) × Unit)))) : evFnL sm_21 FU (ovr noO (evFn sm_21 fns FU 0)) (ir21_t O_21_21_0 O_21_21_1) ir21 (ofH [(.pair (.int .i64) (.pair (.slice (.arr 32 (.int .u8))) (.pair (.slice (.arr 32 (.int .u8))) .unit))), (.pair (.int .i64) (.pair (.slice (.arr 32 (.int .u8))) (.pair (.slice (.arr 32 (.int .u8))) .unit)))] (a0, a1, ())) [] (pureK [.bool]) = F_21 a0 a1 := by kernel_rfl
def Sp.p_21 (a0 : (Int × ((List (List Int)) × ((List (List Int)) × Unit)))) (a1 : (Int × ((List (List Int)) × ((List (List Int)) × Unit)))) : Bool := (F_21 a0 a1).isSome
def Sp.v_21 (a0 : (Int × ((List (List Int)) × ((List (List Int)) × Unit)))) (a1 : (Int × ((List (List Int)) × ((List (List Int)) × Unit)))) : Bool × Unit := (F_21 a0 a1).getD (dfH [.bool])
def s_21 : Summ := shN [(.pair (.int .i64) (.pair (.slice (.arr 32 (.int .u8))) (.pair (.slice (.arr 32 (.int .u8))) .unit))), (.pair (.int .i64) (.pair (.slice (.arr 32 (.int .u8))) (.pair (.slice (.arr 32 (.int .u8))) .unit)))] [.bool] (fun x => Sp.p_21 x.1 x.2.1) (fun x => Sp.v_21 x.1 x.2.1)
theorem pv_21 (a0 : (Int × ((List (List Int)) × ((List (List Int)) × Unit)))) (a1 : (Int × ((List (List Int)) × ((List (List Int)) × Unit)))) {y : Bool × Unit} (h : F_21 a0 a1 = some y) : Sp.p_21 a0 a1 = true ∧ Sp.v_21 a0 a1 = y := ⟨by rw [Sp.p_21, h]; rfl, by rw [Sp.v_21, h]; rfl⟩
theorem run_21 (x : HDen [(.pair (.int .i64) (.pair (.slice (.arr 32 (.int .u8))) (.pair (.slice (.arr 32 (.int .u8))) .unit))), (.pair (.int .i64) (.pair (.slice (.arr 32 (.int .u8))) (.pair (.slice (.arr 32 (.int .u8))) .unit)))]) (y : HDen [.bool]) (h : F_21 x.1 x.2.1 = some y) : evFn sm_21 fns FU 1 21 (ofH [(.pair (.int .i64) (.pair (.slice (.arr 32 (.int .u8))) (.pair (.slice (.arr 32 (.int .u8))) .unit))), (.pair (.int .i64) (.pair (.slice (.arr 32 (.int .u8))) (.pair (.slice (.arr 32 (.int .u8))) .unit)))] x) [] (pureK [.bool]) = some y :=
  evFnL_sound (fn := ir21) (t := (ir21_t O_21_21_0 O_21_21_1)) (o := noO) rfl noO_ok (ir21_tok (fun T k r => OK_21_21_0 T k r) (fun T k r => OK_21_21_1 T k r)) ((fn_21 _ _).trans h)
end
end Go.Ev
namespace Go.Ev
open Go
set_option maxRecDepth 100000
set_option maxHeartbeats 4000000
set_option linter.unusedVariables false
noncomputable section

def sm_7 : Nat → Option Summ := fun f => bif Nat.beq f 10 then some s_10 else bif Nat.beq f 20 then some s_20 else bif Nat.beq f 21 then some s_21 else bif Nat.beq f 22 then some s_22 else bif Nat.beq f 23 then some s_23 else bif Nat.beq f 24 then some s_24 else none
def T_7_0 (p0 : Int) (p1 : Int × List (List Int) × List (List Int) × PUnit) : St := St.mk [CV.junk, CV.junk, CV.junk, CV.junk, CV.junk, CV.junk, CV.junk, CV.ptr (0 : Nat) [], CV.int IntKind.i64 p0, CV.junk, CV.junk, CV.junk, CV.junk, CV.junk, CV.junk, CV.junk, CV.junk, CV.junk, CV.junk, CV.junk, CV.junk, CV.junk, CV.junk, CV.junk, CV.junk, CV.junk, CV.junk, CV.junk, CV.junk, CV.junk, CV.junk, CV.junk, CV.junk, CV.junk, CV.junk, CV.junk, CV.junk, CV.junk, CV.junk, CV.junk, CV.junk, CV.junk, CV.junk, CV.junk, CV.junk, CV.junk, CV.junk, CV.junk] [Blk.mem (CV.pure (Ty.pair (Ty.int IntKind.i64) (Ty.pair (Ty.slice (Ty.arr (32 : Nat) (Ty.int IntKind.u8))) (Ty.pair (Ty.slice (Ty.arr (32 : Nat) (Ty.int IntKind.u8))) Ty.unit))) p1)] (0 : Nat)
def X_7_0_0 (p1 : Int × List (List Int) × List (List Int) × PUnit) : St := St.mk [CV.junk, CV.junk, CV.junk, CV.junk, CV.junk, CV.junk, CV.bool (Prod.fst (Sp.v_21 p1 ((0 : Int), [], [], PUnit.unit))), CV.junk, CV.junk, CV.junk, CV.junk, CV.junk, CV.junk, CV.junk, CV.junk, CV.junk, CV.junk, CV.junk, CV.junk, CV.junk, CV.junk, CV.junk, CV.junk, CV.junk, CV.junk, CV.junk, CV.junk, CV.junk, CV.junk, CV.junk, CV.junk, CV.junk, CV.junk, CV.junk, CV.junk, CV.junk, CV.junk, CV.junk, CV.junk, CV.junk, CV.junk, CV.junk, CV.junk, CV.junk, CV.junk, CV.junk, CV.junk, CV.junk] [] (0 : Nat)
def X_7_0_1 : St := St.mk [CV.junk, CV.junk, CV.junk, CV.junk, CV.junk, CV.junk, CV.bool false, CV.junk, CV.junk, CV.junk, CV.junk, CV.junk, CV.junk, CV.junk, CV.junk, CV.junk, CV.junk, CV.junk, CV.junk, CV.junk, CV.junk, CV.junk, CV.junk, CV.junk, CV.junk, CV.junk, CV.junk, CV.junk, CV.junk, CV.junk, CV.junk, CV.junk, CV.junk, CV.junk, CV.junk, CV.junk, CV.junk, CV.junk, CV.junk, CV.junk, CV.junk, CV.junk, CV.junk, CV.junk, CV.junk, CV.junk, CV.junk, CV.junk] [] (0 : Nat)
inductive Sp.E_7_0 where
  | e0 (p1 : Int × List (List Int) × List (List Int) × PUnit)
  | e1
def Sp.B_7_0 {R : Type} (r : Option Sp.E_7_0) (k0 : (Int × List (List Int) × List (List Int) × PUnit) → Option R) (k1 : Option R) : Option R := match r with
  | none => none
  | some (.e0 p1) => k0 p1
  | some (.e1) => k1
def Sp.J_7_0 (p0 : Int) (p1 : Int × List (List Int) × List (List Int) × PUnit) : Option Sp.E_7_0 :=
  bif p0 == (2 : Int) then gd (Sp.p_21 p1 ((0 : Int), [], [], PUnit.unit)) (some (Sp.E_7_0.e0 p1)) else some (Sp.E_7_0.e1)
def G_7_0 {R : Type} (p0 : Int) (p1 : Int × List (List Int) × List (List Int) × PUnit) (k : Ex → St → Option R) : Option R := Sp.B_7_0 (Sp.J_7_0 p0 p1) (fun p1 => k Ex.ret (X_7_0_0 p1)) (k Ex.ret (X_7_0_1))
def o_7_0 {R : Type} (G : (Int) → (Int × List (List Int) × List (List Int) × PUnit) → (Ex → St → Option R) → Option R) : St → (Ex → St → Option R) → Option R := fun T k => match T.sl.getD 7 .junk, T.sl.getD 8 .junk, T.hp with
  | CV.ptr (0 : Nat) [], CV.int IntKind.i64 p0, ((Blk.mem (CV.pure (Ty.pair (Ty.int IntKind.i64) (Ty.pair (Ty.slice (Ty.arr (32 : Nat) (Ty.int IntKind.u8))) (Ty.pair (Ty.slice (Ty.arr (32 : Nat) (Ty.int IntKind.u8))) Ty.unit))) p1)) :: []) => gd (shapeOK T 48 [7, 8] (0 : Nat)) (G p0 p1 k)
  | _, _, _ => none
theorem o_7_0_inv {R : Type} {G : (Int) → (Int × List (List Int) × List (List Int) × PUnit) → (Ex → St → Option R) → Option R} {T : St} {k : Ex → St → Option R} {r : R} (h : o_7_0 G T k = some r) : ∃ p0 p1, T = T_7_0 p0 p1 ∧ G p0 p1 k = some r := by
  unfold o_7_0 at h
  split at h
  · obtain ⟨hs, h'⟩ := gd_some h
    refine ⟨_, _, (st_of (asg := [(7, _), (8, _)]) hs ⟨by assumption, by assumption, trivial⟩ (by assumption)).trans ?_, h'⟩
    kernel_rfl
  · cases h
def O_7_7_0 {R : Type} : St → (Ex → St → Option R) → Option R := fun T k => o_7_0 G_7_0 T k
theorem body_7_0 {R : Type} (K1 : Ex → St → Option R) (p0 : Int) (p1 : Int × List (List Int) × List (List Int) × PUnit) : evJ (evCodeL sm_7 FU (ovr noO (evFn sm_7 fns FU 0)) .nil ir7_b0) (T_7_0 p0 p1) K1 =
  bif p0 == (2 : Int) then gd (Sp.p_21 p1 ((0 : Int), [], [], PUnit.unit)) (K1 Ex.ret (X_7_0_0 p1)) else K1 Ex.ret X_7_0_1 := by kernel_rfl
theorem Bgd_7_0 {R : Type} {c : Bool} {x : Option R} {y : Option Sp.E_7_0} {k0 : (Int × List (List Int) × List (List Int) × PUnit) → Option R} {k1 : Option R} (h : x = Sp.B_7_0 y k0 k1) : gd c x = Sp.B_7_0 (gd c y) k0 k1 := by cases c; rfl; exact h
theorem Bcond_7_0 {R : Type} {c : Bool} {x x' : Option R} {y y' : Option Sp.E_7_0} {k0 : (Int × List (List Int) × List (List Int) × PUnit) → Option R} {k1 : Option R} (h : x = Sp.B_7_0 y k0 k1) (h' : x' = Sp.B_7_0 y' k0 k1) : (bif c then x else x') = Sp.B_7_0 (bif c then y else y') k0 k1 := by cases c; exact h'; exact h
theorem loop_7_0 {R : Type} (k : Ex → St → Option R) (p0 : Int) (p1 : Int × List (List Int) × List (List Int) × PUnit) : evJ (evCodeL sm_7 FU (ovr noO (evFn sm_7 fns FU 0)) .nil ir7_b0) (T_7_0 p0 p1) k = Sp.B_7_0 (Sp.J_7_0 p0 p1) (fun p1 => k Ex.ret (X_7_0_0 p1)) (k Ex.ret (X_7_0_1)) := by
  rw [body_7_0, Sp.J_7_0]
  repeat' first | apply Bgd_7_0 | apply Bcond_7_0 | rfl
theorem ok_7_0 {R : Type} (T : St) (k : Ex → St → Option R) (r : R) (h0 : o_7_0 G_7_0 T k = some r) : evCode sm_7 FU (evFn sm_7 fns FU 0) ir7_b0 T k = some r := by
  obtain ⟨p0, p1, rfl, h⟩ := o_7_0_inv h0
  refine bodyL_sound (t := .nil) noO_ok trivial ((loop_7_0 k _ _).trans h)
theorem OK_7_7_0 {R : Type} (T : St) (k : Ex → St → Option R) (r : R) (h : O_7_7_0 T k = some r) : evCode sm_7 FU (evFn sm_7 fns FU 0) ir7_b0 T k = some r := ok_7_0 T k r h
def F_7 (a0 : (List Int)) (a1 : (List Int)) (a2 : Int) : Option (Bool) :=
  gd Sp.p_10 (bif !Prod.fst Sp.v_10 then some false else gd (Sp.p_20 a0 a2 a1) (bif decide (a2 < (0 : Int)) then Sp.B_7_0 (Sp.J_7_0 (Prod.fst (Prod.snd (Sp.v_20 a0 a2 a1))) (Prod.fst (Sp.v_20 a0 a2 a1))) (fun (y2 : Int × List (List Int) × List (List Int) × PUnit) => some (Prod.fst (Sp.v_21 y2 ((0 : Int), [], [], PUnit.unit)))) (some false) else bif decide (a2 > (3 : Int)) then Sp.B_7_0 (Sp.J_7_0 (Prod.fst (Prod.snd (Sp.v_20 a0 a2 a1))) (Prod.fst (Sp.v_20 a0 a2 a1))) (fun (y3 : Int × List (List Int) × List (List Int) × PUnit) => some (Prod.fst (Sp.v_21 y3 ((0 : Int), [], [], PUnit.unit)))) (some false) else bif Prod.fst (Prod.snd (Sp.v_20 a0 a2 a1)) == (0 : Int) then gd (Sp.p_22 a0 a2 a1) (gd (Sp.p_21 (Prod.fst (Sp.v_20 a0 a2 a1)) (Prod.fst (Sp.v_22 a0 a2 a1))) (bif Prod.fst (Sp.v_21 (Prod.fst (Sp.v_20 a0 a2 a1)) (Prod.fst (Sp.v_22 a0 a2 a1))) then gd (Sp.p_23 a0) (gd (Sp.p_24 a0) (some (Ty.beq (Ty.arr (32 : Nat) (Ty.int IntKind.u8)) (Prod.fst (Sp.v_23 a0)) (Prod.fst (Sp.v_24 a0))))) else some false)) else some false))
theorem fn_7 (a0 : (List Int)) (a1 : (List Int)) (a2 : Int) : evFnL sm_7 FU (ovr noO (evFn sm_7 fns FU 0)) (ir7_t O_7_7_0) ir7 (ofH [(.arr 32 (.int .u8)), (.arr 32 (.int .u8)), (.int .i64)] (a0, a1, a2, ())) [] bk = F_7 a0 a1 a2 := by kernel_rfl
theorem run_7 (a0 : (List Int)) (a1 : (List Int)) (a2 : Int) {b : Bool} (h : F_7 a0 a1 a2 = some b) : evFn sm_7 fns FU 1 7 (ofH [(.arr 32 (.int .u8)), (.arr 32 (.int .u8)), (.int .i64)] (a0, a1, a2, ())) [] bk = some b :=
  evFnL_sound (fn := ir7) (t := (ir7_t O_7_7_0)) (o := noO) rfl noO_ok (ir7_tok (fun T k r => OK_7_7_0 T k r)) ((fn_7 _ _ _).trans h)
end
end Go.Ev
set_option linter.unusedSimpArgs false
set_option linter.unusedVariables false
namespace Go.Ev
open Go
set_option maxRecDepth 100000
set_option maxHeartbeats 4000000
theorem same_l0 (a b : SigT) (h2 : a.2.1.length = b.2.1.length) (h3 : a.2.1.length < 4611686018427387904) : ∀ (d m j : Nat), j + d = a.2.1.length → d < m → a.2.1.take j = b.2.1.take j → Sp.L_21_0 m (j : Nat) a b = (if a.2.1 = b.2.1 then some (.e1 a b) else some .e0)
  | 0, m + 1, j, h1, _, h5 => by
    rw [Sp.L_21_0, cond_dff (by omega), if_pos]
    rw [List.take_of_length_le (by omega), List.take_of_length_le (by omega)] at h5
    exact h5
  | d + 1, m + 1, j, h1, h4, h5 => by
    have hx : j < a.2.1.length := by omega
    have hy : j < b.2.1.length := by omega
    rw [Sp.L_21_0, cond_dtt (by omega), gd_inB (by omega) (by omega), gd_inB (by omega) (by omega), Int.toNat_natCast, arr_beq]
    have ex : a.2.1.getD j (Ty.dflt (.arr 32 (.int .u8))) = a.2.1[j] := by simp [List.getD_eq_getElem?_getD, hx]
    have ey : b.2.1.getD j (Ty.dflt (.arr 32 (.int .u8))) = b.2.1[j] := by simp [List.getD_eq_getElem?_getD, hy]
    rw [ex, ey]
    by_cases he : a.2.1[j] = b.2.1[j]
    · rw [beq_iff_eq.2 he, Bool.not_true, cond_f, wi64 (by omega) (by omega)]
      refine same_l0 a b h2 h3 d m (j + 1) (by omega) (by omega) ?_
      rw [List.take_succ_eq_append_getElem hx, List.take_succ_eq_append_getElem hy, h5, he]
    · rw [beq_eq_false_iff_ne.2 he, Bool.not_false, cond_t, if_neg (fun e => he (by simp only [e]))]
theorem same_l1 (a b : SigT) (h2 : a.2.2.1.length = b.2.2.1.length) (h3 : a.2.2.1.length < 4611686018427387904) : ∀ (d m j : Nat), j + d = a.2.2.1.length → d < m → a.2.2.1.take j = b.2.2.1.take j → Sp.L_21_1 m (j : Nat) a b = (if a.2.2.1 = b.2.2.1 then some .e1 else some .e0)
  | 0, m + 1, j, h1, _, h5 => by
    rw [Sp.L_21_1, cond_dff (by omega), if_pos]
    rw [List.take_of_length_le (by omega), List.take_of_length_le (by omega)] at h5
    exact h5
  | d + 1, m + 1, j, h1, h4, h5 => by
    have hx : j < a.2.2.1.length := by omega
    have hy : j < b.2.2.1.length := by omega
    rw [Sp.L_21_1, cond_dtt (by omega), gd_inB (by omega) (by omega), gd_inB (by omega) (by omega), Int.toNat_natCast, arr_beq]
    have ex : a.2.2.1.getD j (Ty.dflt (.arr 32 (.int .u8))) = a.2.2.1[j] := by simp [List.getD_eq_getElem?_getD, hx]
    have ey : b.2.2.1.getD j (Ty.dflt (.arr 32 (.int .u8))) = b.2.2.1[j] := by simp [List.getD_eq_getElem?_getD, hy]
    rw [ex, ey]
    by_cases he : a.2.2.1[j] = b.2.2.1[j]
    · rw [beq_iff_eq.2 he, Bool.not_true, cond_f, wi64 (by omega) (by omega)]
      refine same_l1 a b h2 h3 d m (j + 1) (by omega) (by omega) ?_
      rw [List.take_succ_eq_append_getElem hx, List.take_succ_eq_append_getElem hy, h5, he]
    · rw [beq_eq_false_iff_ne.2 he, Bool.not_false, cond_t, if_neg (fun e => he (by simp only [e]))]
theorem same_self (a : SigT) (h3 : a.2.1.length < 4611686018427387904) (h4 : a.2.2.1.length < 4611686018427387904) : F_21 a a = some (true, ()) := by
  unfold F_21
  rw [cond_nff rfl, cond_nff rfl, cond_nff rfl]
  rw [show Sp.L_21_0 4611686018427387904 0 a a = _ from same_l0 a a rfl h3 a.2.1.length 4611686018427387904 0 (by omega) (by omega) rfl, if_pos rfl]
  simp only [Sp.B_21_0]
  rw [show Sp.L_21_1 4611686018427387904 0 a a = _ from same_l1 a a rfl h4 a.2.2.1.length 4611686018427387904 0 (by omega) (by omega) rfl, if_pos rfl]
  rfl
theorem sign_bad (s : List Int) (k : Int) (dg : List Int) (h : k < 0 ∨ k ≥ 4) : F_20 s k dg = some ((0, [], [], ()), 2, ()) := by
  unfold F_20
  by_cases h1 : k < 0
  · rw [cond_dtt h1]
  · rw [cond_dff h1, cond_dtt (by omega)]
theorem plain_7 (s dg : List Int) (k : Int) (_ : wfD (.arr 32 (.int .u8)) s) (w : wfD (.arr 32 (.int .u8)) dg) (_ : wfD (.int .i64) k) : F_7 s dg k = some true := by
  obtain ⟨_, hb⟩ := wf_bytes w
  unfold F_7
  rw [aw_pv.1, aw_pv.2, gd_tt]
  simp only [Bool.not_true, cond_f]
  by_cases h : k < 0 ∨ k ≥ 4
  · have e := pv_20 _ _ _ (sign_bad s k dg h)
    have sm := pv_21 _ _ (same_self (0, [], [], ()) (by decide) (by decide))
    have J : Sp.B_7_0 (Sp.J_7_0 (2 : Int) ((0, [], [], ()) : SigT)) (fun y => some (Sp.v_21 y ((0 : Int), [], [], PUnit.unit)).1) (some false) = some true := by
      unfold Sp.J_7_0
      rw [cond_ett rfl, sm.1, gd_tt]
      simp only [Sp.B_7_0, sm.2]
    rw [e.1, e.2, gd_tt]
    by_cases h1 : k < 0
    · rw [cond_dtt h1]; exact J
    · rw [cond_dff h1, cond_dtt (by omega)]; exact J
  · have e := pv_20 _ _ _ (sign_ok s k dg hb (by omega) (by omega))
    have r := pv_22 _ _ _ (rsign_ok s k dg hb (by omega) (by omega))
    have p1 := pv_23 _ (public_ok s)
    have p2 := pv_24 _ (rpublic_ok s)
    have sm := pv_21 _ _ (same_self (Sp.sigF s k dg) (by simp [Sp.sigF, sgn_len]) (by simp [Sp.sigF]))
    rw [e.1, e.2, gd_tt, cond_dff (by omega), cond_dff (by omega), cond_ett rfl, r.1, r.2, gd_tt]
    dsimp only
    rw [sm.1, sm.2, gd_tt]
    dsimp only
    rw [cond_t, p1.1, p1.2, p2.1, p2.2, gd_tt, gd_tt]
    simp only [arr_beq, beq_self_eq_true]
end Go.Ev
set_option linter.unusedSimpArgs false
set_option linter.unusedVariables false
namespace Go.Ev
open Go
set_option maxRecDepth 100000
set_option maxHeartbeats 4000000
theorem vend_sgn (s dg : List Int) (hb : bytes dg) (k : Int) : Sp.vend (Sp.digL dg) (Sp.sgn s (Sp.digL dg) k 67) 67 = Sp.ends s k 67 := by
  unfold Sp.vend Sp.ends
  refine List.map_congr_left fun j hj => ?_
  have hj : j < 67 := by simpa using hj
  have hd := digL_b hb j hj
  have e : (Sp.sgn s (Sp.digL dg) k 67).getD j h0 = Sp.chn ((Sp.digL dg).getD j 0).toNat 0 (Sp.sec s k (j : Int)) := by
    simp [Sp.sgn, List.getD_eq_getElem?_getD, hj]
  rw [e]
  have := chn_app ((Sp.digL dg).getD j 0).toNat (15 - (Sp.digL dg).getD j 0).toNat 0 (Sp.sec s k (j : Int))
  rw [show ((Sp.digL dg).getD j 0).toNat + (15 - (Sp.digL dg).getD j 0).toNat = 15 by omega, show (0 : Int) + (((Sp.digL dg).getD j 0).toNat : Int) = (Sp.digL dg).getD j 0 by omega] at this
  exact this.symm
theorem right_ok (s dg : List Int) (hb : bytes dg) (k : Int) (h0' : 0 ≤ k) (h1' : k < 4) : Sp.verF (Sp.pubK s) dg (Sp.sigF s k dg) = true := by
  have hs : Sp.shp (Sp.sigF s k dg) = true := by
    unfold Sp.shp Sp.sigF
    dsimp only
    rw [sgn_len, decide_eq_true h0', decide_eq_true h1']
    rfl
  unfold Sp.verF
  rw [hs, Bool.true_and]
  have e : Sp.leafE (Sp.vend (Sp.digL dg) (Sp.sigF s k dg).2.1 67) = Sp.leafS s k := by
    show Sp.leafE (Sp.vend (Sp.digL dg) (Sp.sgn s (Sp.digL dg) k 67) 67) = _
    rw [vend_sgn s dg hb k, Sp.leafS]
  rw [e, beq_iff_eq]
  rcases (show k = 0 ∨ k = 1 ∨ k = 2 ∨ k = 3 by omega) with rfl | rfl | rfl | rfl <;> simp [Sp.sigF, Sp.up, Sp.nxt, Sp.oth, Sp.pubK]
theorem ver_bad (key dg : List Int) (s : SigT) (h : ¬ (s.2.1.length = 67 ∧ s.2.2.1.length = 2)) : Sp.verF key dg s = false := by
  unfold Sp.verF
  cases hs : Sp.shp s
  · rfl
  · obtain ⟨_, _, h3, h4⟩ := shp_spec hs
    exact absurd ⟨h3, h4⟩ h
theorem plain_9 (s dg : List Int) (x : Int) (_ : wfD (.arr 32 (.int .u8)) s) (w : wfD (.arr 32 (.int .u8)) dg) (wx : wfD (.int .u8) x) : F_9 s dg x = some true := by
  obtain ⟨_, hb⟩ := wf_bytes w
  have bx := u8_b wx
  have ek : IntKind.wrap .i64 (Int.tmod x 4) = x % 4 := by rw [Int.tmod_eq_emod_of_nonneg bx.1, wi64 (by omega) (by omega)]
  have hk0 : 0 ≤ x % 4 := by omega
  have hk1 : x % 4 < 4 := by omega
  generalize x % 4 = k at ek hk0 hk1
  have p1 := pv_23 _ (public_ok s)
  have e := pv_20 _ _ _ (sign_ok s k dg hb hk0 hk1)
  have v := pv_18 _ _ _ (verify_ok (Sp.pubK s) dg hb (Sp.sigF s k dg))
  rw [right_ok s dg hb k hk0 hk1] at v
  have l1 : (Sp.sigF s k dg).2.1.length = 67 := sgn_len _ _ _ _
  have l2 : (Sp.sigF s k dg).2.2.1.length = 2 := rfl
  generalize Sp.sigF s k dg = sg at e v l1 l2
  have v1 := pv_18 _ _ _ (verify_ok (Sp.pubK s) dg hb (sg.1, sg.2.1.drop 1, sg.2.2))
  rw [ver_bad _ _ _ (by simp [l1])] at v1
  have v2 := pv_18 _ _ _ (verify_ok (Sp.pubK s) dg hb (sg.1, sg.2.1, sg.2.2.1.take 1, sg.2.2.2))
  rw [ver_bad _ _ _ (by simp [l2])] at v2
  unfold F_9
  rw [aw_pv.1, aw_pv.2, gd_tt, ek]
  simp only [Bool.not_true, cond_f, p1.1, p1.2, gd_tt, e.1, e.2, v.1, v.2, List.drop_zero, v1.1, v1.2, v2.1, v2.2, bne_self_eq_false, l1, l2]
  rw [cond_nff (show ((67 : Nat) : Int) = 67 from rfl), cond_nff (show ((2 : Nat) : Int) = 2 from rfl), gd_sl3 (by omega) (by omega) (by omega), gd_room (by simp [l1]) (by simp [l1]), gd_sl3 (by omega) (by omega) (by omega), gd_room (by simp [l2]) (by simp [l2])]
  rfl
end Go.Ev
