/- Helpers: functions of the program as Lean functions, and what they compute. No condition. -/
import Derived.Test.YtaaagikcbnbncaaE7P4
import Derived.Test.YtaaagikcbnbncaaG7P1
import Derived.Test.YtaaagikcbnbncaaG7P2
set_option maxRecDepth 10000
set_option linter.unusedVariables false
set_option linter.unusedSimpArgs false
open Go.IntKind (wrap i64 i32 i16 i8 u64 u32 u16 u8)
open List (getD length take drop replicate)
open Int (toNat)
open Go.Ev.Sp
set_option linter.unusedSimpArgs false
set_option linter.unusedVariables false
namespace Go.Ev
open Go
set_option maxRecDepth 100000
set_option maxHeartbeats 4000000
abbrev FlT := List Int × List Int × Int × Unit
abbrev PwT := Int × Int × Unit
abbrev OpT := Bool × Int × Int × Unit
abbrev RsT := FlT × PwT × Int × Unit
namespace Sp
noncomputable def wb (f : FlT) (j : Nat) : Bool := decide (f.2.1.getD j 0 < 0) || decide (f.2.1.getD j 0 > f.2.2.1)
noncomputable def fv (f : FlT) : Bool := decide (1 ≤ f.2.1.length) && (decide (f.2.1.length ≤ 64) && (decide (f.1.length = f.2.1.length * 64) && (decide (1 ≤ f.2.2.1) && (decide (f.2.2.1 ≤ 1000000) && (fnd (wb f) f.2.1.length 0).isNone))))
noncomputable def pw (f : FlT) (k : Nat) (w bits : Int) : FlT := (f.1.set k (andnI .u32 (f.1.getD k 0) (andnI .u32 bits w)), f.2.1, f.2.2.1, ())
noncomputable def prg (f : FlT) (k : Nat) (w : Int) (p : PwT) : RsT := if p.1 = 0 then (f, p, 18, ()) else if p.1 = 1 then (pw f k w p.2.1, (0, p.2), 18, ()) else (pw f k w 4294967295, (p.1 - 1, p.2), 0, ())
end Sp
theorem fv_iff {f : FlT} : Sp.fv f = true ↔ 1 ≤ f.2.1.length ∧ f.2.1.length ≤ 64 ∧ f.1.length = f.2.1.length * 64 ∧ 1 ≤ f.2.2.1 ∧ f.2.2.1 ≤ 1000000 ∧ ∀ j, j < f.2.1.length → 0 ≤ f.2.1.getD j 0 ∧ f.2.1.getD j 0 ≤ f.2.2.1 := by
 simp only [Sp.fv, Bool.and_eq_true, decide_eq_true_eq, Option.isNone_iff_eq_none, fnd_none, Sp.wb, Bool.or_eq_false_iff, decide_eq_false_iff_not]
 constructor
 · rintro ⟨a, b, c, d, e, g⟩
   refine ⟨a, b, c, d, e, fun j hj => ?_⟩
   have := g j (by omega) (by omega)
   omega
 · rintro ⟨a, b, c, d, e, g⟩
   refine ⟨a, b, c, d, e, fun j _ hj => ?_⟩
   have := g j (by omega)
   omega
theorem fv_ok (f : FlT) : F_69 f = some (Sp.fv f, ()) := by
 unfold F_69 Sp.fv
 by_cases h1 : (f.2.1.length : Int) < 1
 · rw [cond_dtt h1, decide_eq_false (by omega)]; rfl
 rw [cond_dff h1, decide_eq_true (p := 1 ≤ f.2.1.length) (by omega), Bool.true_and]
 by_cases h2 : (f.2.1.length : Int) > 64
 · rw [cond_dtt h2, decide_eq_false (by omega)]; rfl
 rw [cond_dff h2, decide_eq_true (p := f.2.1.length ≤ 64) (by omega), Bool.true_and, wi64 (by omega) (by omega)]
 by_cases h3 : (f.1.length : Int) = (f.2.1.length : Int) * 64
 rotate_left
 · rw [cond_ntt h3, decide_eq_false (p := f.1.length = _) (by omega)]; rfl
 rw [cond_nff h3, decide_eq_true (p := f.1.length = _) (by omega), Bool.true_and]
 by_cases h4 : f.2.2.1 < 1
 · rw [cond_dtt h4, decide_eq_false (by omega)]; rfl
 rw [cond_dff h4, decide_eq_true (p := 1 ≤ f.2.2.1) (by omega), Bool.true_and]
 by_cases h5 : f.2.2.1 > 1000000
 · rw [cond_dtt h5, decide_eq_false (by omega)]; rfl
 rw [cond_dff h5, decide_eq_true (p := f.2.2.1 ≤ 1000000) (by omega), Bool.true_and]
 have hf := find0 (fun m i => L_69_114_0_0 m f.2.1 f.2.1.length i f) (n := f.2.1.length) (Sp.wb f) (ex := fun j => some (.e0 (j : Int) f)) (e1 := some (.e1 f)) (by omega) (fun m j hj => by
   show L_69_114_0_0 (m + 1) f.2.1 f.2.1.length j f = bif Sp.wb f j then some (.e0 (j : Int) f) else L_69_114_0_0 m f.2.1 f.2.1.length ((j + 1 : Nat) : Int) f
   rw [L_69_114_0_0, S_69_114_0_0, cond_dtt (by omega), gd_inB (by omega) (by omega), Int.toNat_natCast, wi64 (by omega) (by omega)]
   unfold Sp.wb
   push_cast
   grind) (fun m => by
   show L_69_114_0_0 (m + 1) f.2.1 f.2.1.length f.2.1.length f = _
   rw [L_69_114_0_0, S_69_114_0_0, cond_dff (by omega)])
 rw [hf]
 cases fnd (Sp.wb f) f.2.1.length 0 with
 | none => rfl
 | some k =>
   simp only [B_69_114_0_0, Option.isNone]
   rw [decide_eq_true (by omega)]
   rfl
theorem fv_pv (f : FlT) : p_69 f = true ∧ v_69 f = (Sp.fv f, ()) := pv_69 f (fv_ok f)
set_option maxRecDepth 100000
set_option maxHeartbeats 4000000
namespace Sp
noncomputable def rotr (x : Int) (n : Nat) : Int := orI .u32 (x.fdiv (2 ^ n)) (wrap .u32 (x * 2 ^ (32 - n)))
/-- The word at a place. -/
noncomputable def wat (b : List Int) (i : Nat) : Int := orI .u32 (orI .u32 (orI .u32 (wrap .u32 (wrap .u32 (b.getD i 0) * 16777216)) (wrap .u32 (wrap .u32 (b.getD (i + 1) 0) * 65536))) (wrap .u32 (wrap .u32 (b.getD (i + 2) 0) * 256))) (wrap .u32 (b.getD (i + 3) 0))
end Sp
theorem orI_comm (k : IntKind) (a b : Int) : Sp.orI k a b = Sp.orI k b a := by unfold Sp.orI; rw [BitVec.or_comm]
theorem word_ok (b : List Int) (h : 4 ≤ b.length) : F_100 b = some (Sp.wat b 0, ()) := by
 unfold F_100
 simp (disch := first | omega | (simp only [List.length_drop, List.length_take, List.length_set, List.length_append, List.length_replicate, List.length_cons, List.length_nil]; omega)) only [gd_and, gd_tt, gd_dec, gd_beq, gd_inB, gd_sl3, gd_room, cond_dtt, cond_dff, cond_ett, cond_eff, cond_ntt, cond_nff, cond_t, cond_f, wi64, Int.toNat_natCast]
 rfl
theorem word_pv (b : List Int) (h : 4 ≤ b.length) : p_100 b = true ∧ v_100 b = (Sp.wat b 0, ()) := pv_100 b (word_ok b h)
theorem p_word (b : List Int) (h : 4 ≤ b.length) : p_100 b = true := (word_pv b h).1
theorem v_word (b : List Int) (h : 4 ≤ b.length) : v_100 b = (Sp.wat b 0, ()) := (word_pv b h).2
theorem wat_drop (b : List Int) (i j : Nat) : Sp.wat (b.drop i) j = Sp.wat b (i + j) := by
 unfold Sp.wat
 simp only [List.getD_eq_getElem?_getD, List.getElem?_drop, Nat.add_assoc]
theorem wat_take (b : List Int) (n j : Nat) (h : j + 4 ≤ n) : Sp.wat (b.take n) j = Sp.wat b j := by
 unfold Sp.wat
 simp only [List.getD_eq_getElem?_getD, List.getElem?_take]
 simp only [show j < n by omega, show j + 1 < n by omega, show j + 2 < n by omega, show j + 3 < n by omega, if_true]
theorem rot_aux (x n : Int) (m : Nat) (h : (Sp.andI .u64 (wrap .u64 (wrap .i64 (0 - n))) 31) = ((32 - m : Nat) : Int)) (h1 : m ≤ 32) : p_127 x n = true ∧ v_127 x n = (Sp.rotr x m, ()) := by
 have h2 : p_128 x (wrap .i64 (0 - n)) = true ∧ v_128 x (wrap .i64 (0 - n)) = (Sp.rotr x m, ()) := by
   refine pv_128 _ _ ?_
   unfold F_128 Sp.rotr
   rw [h, wu64 (by omega) (by omega)]
   simp (disch := first | omega | (simp only [List.length_drop, List.length_take, List.length_set, List.length_append, List.length_replicate, List.length_cons, List.length_nil]; omega)) only [gd_and, gd_tt, gd_dec, gd_beq, gd_inB, gd_sl3, gd_room, cond_dtt, cond_dff, cond_ett, cond_eff, cond_ntt, cond_nff, cond_t, cond_f, wi64, Int.toNat_natCast]
   rw [show (32 - (((32 - m : Nat)) : Int)).toNat = m by omega, nmin_l (by omega), nmin_l (by omega), orI_comm]
 refine pv_127 x n ?_
 unfold F_127
 rw [h2.1, h2.2]; rfl
theorem right7 (x : Int) : p_127 x 7 = true ∧ v_127 x 7 = (Sp.rotr x 7, ()) := rot_aux x 7 7 (by kernel_rfl) (by decide)
theorem right18 (x : Int) : p_127 x 18 = true ∧ v_127 x 18 = (Sp.rotr x 18, ()) := rot_aux x 18 18 (by kernel_rfl) (by decide)
theorem right17 (x : Int) : p_127 x 17 = true ∧ v_127 x 17 = (Sp.rotr x 17, ()) := rot_aux x 17 17 (by kernel_rfl) (by decide)
theorem right19 (x : Int) : p_127 x 19 = true ∧ v_127 x 19 = (Sp.rotr x 19, ()) := rot_aux x 19 19 (by kernel_rfl) (by decide)
theorem right6 (x : Int) : p_127 x 6 = true ∧ v_127 x 6 = (Sp.rotr x 6, ()) := rot_aux x 6 6 (by kernel_rfl) (by decide)
theorem right11 (x : Int) : p_127 x 11 = true ∧ v_127 x 11 = (Sp.rotr x 11, ()) := rot_aux x 11 11 (by kernel_rfl) (by decide)
theorem right25 (x : Int) : p_127 x 25 = true ∧ v_127 x 25 = (Sp.rotr x 25, ()) := rot_aux x 25 25 (by kernel_rfl) (by decide)
theorem right2 (x : Int) : p_127 x 2 = true ∧ v_127 x 2 = (Sp.rotr x 2, ()) := rot_aux x 2 2 (by kernel_rfl) (by decide)
theorem right13 (x : Int) : p_127 x 13 = true ∧ v_127 x 13 = (Sp.rotr x 13, ()) := rot_aux x 13 13 (by kernel_rfl) (by decide)
theorem right22 (x : Int) : p_127 x 22 = true ∧ v_127 x 22 = (Sp.rotr x 22, ()) := rot_aux x 22 22 (by kernel_rfl) (by decide)
set_option maxRecDepth 100000
set_option maxHeartbeats 4000000
namespace Sp
noncomputable def w0 (b : List Int) : List Int := foldB (fun j a => a.set j (wat b (4 * j))) 0 16 (replicate 64 0)
noncomputable def stW (j : Nat) (a : List Int) : List Int := a.set j (wrap .u32 (wrap .u32 (wrap .u32 (xorI .u32 (xorI .u32 (rotr (a.getD (j - 2) 0) 17) (rotr (a.getD (j - 2) 0) 19)) (Int.fdiv (a.getD (j - 2) 0) 1024) + a.getD (j - 7) 0) + xorI .u32 (xorI .u32 (rotr (a.getD (j - 15) 0) 7) (rotr (a.getD (j - 15) 0) 18)) (Int.fdiv (a.getD (j - 15) 0) 8)) + a.getD (j - 16) 0))
noncomputable def w1 (b : List Int) : List Int := foldB stW 16 48 (w0 b)
noncomputable def t1 (k w : List Int) (j : Nat) (s : List Int) : Int := wrap .u32 (wrap .u32 (wrap .u32 (wrap .u32 (s.getD 7 0 + xorI .u32 (xorI .u32 (rotr (s.getD 4 0) 6) (rotr (s.getD 4 0) 11)) (rotr (s.getD 4 0) 25)) + xorI .u32 (andI .u32 (s.getD 4 0) (s.getD 5 0)) (andI .u32 (xorI .u32 4294967295 (s.getD 4 0)) (s.getD 6 0))) + k.getD j 0) + w.getD j 0)
noncomputable def t2 (s : List Int) : Int := wrap .u32 (xorI .u32 (xorI .u32 (rotr (s.getD 0 0) 2) (rotr (s.getD 0 0) 13)) (rotr (s.getD 0 0) 22) + xorI .u32 (xorI .u32 (andI .u32 (s.getD 0 0) (s.getD 1 0)) (andI .u32 (s.getD 0 0) (s.getD 2 0))) (andI .u32 (s.getD 1 0) (s.getD 2 0)))
noncomputable def stR (k w : List Int) (j : Nat) (s : List Int) : List Int := [wrap .u32 (t1 k w j s + t2 s), s.getD 0 0, s.getD 1 0, s.getD 2 0, wrap .u32 (s.getD 3 0 + t1 k w j s), s.getD 4 0, s.getD 5 0, s.getD 6 0]
noncomputable def rnds (k w s : List Int) : List Int := foldB (stR k w) 0 64 s
noncomputable def addS (s v : List Int) : List Int := foldB (fun j s => s.set j (wrap .u32 (s.getD j 0 + v.getD j 0))) 0 8 s
/-- The state after a block. -/
noncomputable def blk (k s b : List Int) : List Int := addS s (rnds k (w1 b) s)
end Sp
theorem foldB_len {f : Nat → List Int → List Int} (h : ∀ j a, (f j a).length = a.length) : ∀ d j a, (foldB f j d a).length = a.length
 | 0, _, _ => rfl
 | d + 1, j, a => by rw [foldB, foldB_len h d, h]
theorem w0_len (b : List Int) : (Sp.w0 b).length = 64 := by unfold Sp.w0; rw [foldB_len (fun j a => by simp)]; simp
/-! sign.block, in the loop over what is whole -/
theorem i_w0 (m : Nat) (hm : 16 < m) (b p2 p3 p4 : List Int) (hb : b.length = 64) : L_110_121_0_0 m b 0 p2 p3 p4 (replicate 64 0) = some (.e0 p2 p3 p4 (Sp.w0 b)) := by
 refine (cnt0 (fun m j a => L_110_121_0_0 m b j p2 p3 p4 a) (n := 16) (inv := fun _ a => a.length = 64) (step := fun j a => a.set j (Sp.wat b (4 * j))) (ex := fun a => some (.e0 p2 p3 p4 a)) (m := m) (by simp) hm ?_ ?_ ?_)
 · intro m j a hj ha
   show L_110_121_0_0 (m + 1) b j p2 p3 p4 a = _
   rw [L_110_121_0_0, S_110_121_0_0]
   have h1 : (4 * (j : Int)).toNat = 4 * j := by omega
   simp (disch := first | omega | (simp only [List.length_drop, List.length_take, List.length_set, List.length_append, List.length_replicate, List.length_cons, List.length_nil]; omega)) only [gd_and, gd_tt, gd_dec, gd_beq, gd_inB, gd_sl3, gd_room, cond_dtt, cond_dff, cond_ett, cond_eff, cond_ntt, cond_nff, cond_t, cond_f, wi64, Int.toNat_natCast, h1, p_word, v_word, wat_drop, Nat.add_zero]
   rfl
 · intro j a hj ha; simpa using ha
 · intro m a ha
   show L_110_121_0_0 (m + 1) b 16 p2 p3 p4 a = _
   rw [L_110_121_0_0, S_110_121_0_0, cond_dff (by decide)]
theorem i_w1 (m : Nat) (hm : 48 < m) (b p1 p2 p3 : List Int) : L_110_121_1_0 m 16 p1 p2 p3 (Sp.w0 b) = some (.e0 p1 p2 p3 (Sp.w1 b)) := by
 refine (cnt_loop (fun m j a => L_110_121_1_0 m j p1 p2 p3 a) (n := 64) (inv := fun j a => a.length = 64 ∧ 16 ≤ j) (step := Sp.stW) (ex := fun a => some (.e0 p1 p2 p3 a)) ?_ ?_ ?_ 48 m 16 (Sp.w0 b) (by omega) ⟨w0_len b, by omega⟩ hm)
 · intro m j a hj ⟨ha, hj16⟩
   show L_110_121_1_0 (m + 1) j p1 p2 p3 a = _
   rw [L_110_121_1_0, S_110_121_1_0]
   have h1 : ((j : Int) - 15).toNat = j - 15 := by omega
   have h2 : ((j : Int) - 2).toNat = j - 2 := by omega
   have h3 : ((j : Int) - 7).toNat = j - 7 := by omega
   have h4 : ((j : Int) - 16).toNat = j - 16 := by omega
   simp (disch := first | omega | (simp only [List.length_drop, List.length_take, List.length_set, List.length_append, List.length_replicate, List.length_cons, List.length_nil]; omega)) only [gd_and, gd_tt, gd_dec, gd_beq, gd_inB, gd_sl3, gd_room, cond_dtt, cond_dff, cond_ett, cond_eff, cond_ntt, cond_nff, cond_t, cond_f, wi64, Int.toNat_natCast, h1, h2, h3, h4, right7, right18, right17, right19]
   rfl
 · intro j a hj ⟨ha, hj16⟩; exact ⟨by simpa [Sp.stW] using ha, by omega⟩
 · intro m a ⟨ha, _⟩
   show L_110_121_1_0 (m + 1) 64 p1 p2 p3 a = _
   rw [L_110_121_1_0, S_110_121_1_0, cond_dff (by decide)]
theorem i_rn (m : Nat) (hm : 64 < m) (p1 p2 k w s : List Int) : L_110_121_2_0 m 0 p1 p2 k w s = some (.e0 p1 p2 k (Sp.rnds k w s)) := by
 refine (cnt0 (fun m j a => L_110_121_2_0 m j p1 p2 k w a) (n := 64) (inv := fun _ _ => True) (step := Sp.stR k w) (ex := fun a => some (.e0 p1 p2 k a)) (m := m) trivial hm ?_ ?_ ?_)
 · intro m j a hj _
   show L_110_121_2_0 (m + 1) j p1 p2 k w a = _
   rw [L_110_121_2_0, S_110_121_2_0]
   simp (disch := first | omega | (simp only [List.length_drop, List.length_take, List.length_set, List.length_append, List.length_replicate, List.length_cons, List.length_nil]; omega)) only [gd_and, gd_tt, gd_dec, gd_beq, gd_inB, gd_sl3, gd_room, cond_dtt, cond_dff, cond_ett, cond_eff, cond_ntt, cond_nff, cond_t, cond_f, wi64, Int.toNat_natCast, right6, right11, right25, right2, right13, right22]
   rfl
 · intro j a hj _; trivial
 · intro m a _
   show L_110_121_2_0 (m + 1) 64 p1 p2 k w a = _
   rw [L_110_121_2_0, S_110_121_2_0, cond_dff (by decide)]
theorem i_ad (m : Nat) (hm : 8 < m) (p1 s k v : List Int) : L_110_121_3_0 m 0 p1 s k v = some (.e0 p1 (Sp.addS s v) k) := by
 refine (cnt0 (fun m j a => L_110_121_3_0 m j p1 a k v) (n := 8) (inv := fun _ _ => True) (step := fun j s => s.set j (wrap .u32 (s.getD j 0 + v.getD j 0))) (ex := fun a => some (.e0 p1 a k)) (m := m) trivial hm ?_ ?_ ?_)
 · intro m j a hj _
   show L_110_121_3_0 (m + 1) j p1 a k v = _
   rw [L_110_121_3_0, S_110_121_3_0]
   simp (disch := first | omega | (simp only [List.length_drop, List.length_take, List.length_set, List.length_append, List.length_replicate, List.length_cons, List.length_nil]; omega)) only [gd_and, gd_tt, gd_dec, gd_beq, gd_inB, gd_sl3, gd_room, cond_dtt, cond_dff, cond_ett, cond_eff, cond_ntt, cond_nff, cond_t, cond_f, wi64, Int.toNat_natCast]
   rfl
 · intro j a hj _; trivial
 · intro m a _
   show L_110_121_3_0 (m + 1) 8 p1 a k v = _
   rw [L_110_121_3_0, S_110_121_3_0, cond_dff (by decide)]
set_option maxRecDepth 100000
set_option maxHeartbeats 4000000
/-! sign.block, in the loop over what is left -/
theorem j_w0 (m : Nat) (hm : 16 < m) (o z : Nat) (p4 p5 p6 l : List Int) (ho : o + 64 ≤ 128) (hl : l.length = 128) : L_110_121_0_1 m o 64 z 0 p4 p5 p6 l (replicate 64 0) = some (.e0 p4 p5 p6 l (Sp.w0 ((l.drop o).take 64))) := by
 refine (cnt0 (fun m j a => L_110_121_0_1 m o 64 z j p4 p5 p6 l a) (n := 16) (inv := fun _ a => a.length = 64) (step := fun j a => a.set j (Sp.wat ((l.drop o).take 64) (4 * j))) (ex := fun a => some (.e0 p4 p5 p6 l a)) (m := m) (by simp) hm ?_ ?_ ?_)
 · intro m j a hj ha
   show L_110_121_0_1 (m + 1) o 64 z j p4 p5 p6 l a = _
   rw [L_110_121_0_1, S_110_121_0_1]
   have h1 : (4 * (j : Int)).toNat = 4 * j := by omega
   have h2 : ((64 : Nat) : Int).toNat = 64 := rfl
   simp (disch := first | omega | (simp only [List.length_drop, List.length_take, List.length_set, List.length_append, List.length_replicate, List.length_cons, List.length_nil]; omega)) only [gd_and, gd_tt, gd_dec, gd_beq, gd_inB, gd_sl3, gd_room, cond_dtt, cond_dff, cond_ett, cond_eff, cond_ntt, cond_nff, cond_t, cond_f, wi64, Int.toNat_natCast, h1, h2, p_word, v_word, wat_take, wat_drop, Nat.add_zero]
   rfl
 · intro j a hj ha; simpa using ha
 · intro m a ha
   show L_110_121_0_1 (m + 1) o 64 z 16 p4 p5 p6 l a = _
   rw [L_110_121_0_1, S_110_121_0_1, cond_dff (by decide)]
theorem j_w1 (m : Nat) (hm : 48 < m) (b p1 p2 p3 l : List Int) : L_110_121_1_1 m 16 p1 p2 p3 l (Sp.w0 b) = some (.e0 p1 p2 p3 l (Sp.w1 b)) := by
 refine (cnt_loop (fun m j a => L_110_121_1_1 m j p1 p2 p3 l a) (n := 64) (inv := fun j a => a.length = 64 ∧ 16 ≤ j) (step := Sp.stW) (ex := fun a => some (.e0 p1 p2 p3 l a)) ?_ ?_ ?_ 48 m 16 (Sp.w0 b) (by omega) ⟨w0_len b, by omega⟩ hm)
 · intro m j a hj ⟨ha, hj16⟩
   show L_110_121_1_1 (m + 1) j p1 p2 p3 l a = _
   rw [L_110_121_1_1, S_110_121_1_1]
   have h1 : ((j : Int) - 15).toNat = j - 15 := by omega
   have h2 : ((j : Int) - 2).toNat = j - 2 := by omega
   have h3 : ((j : Int) - 7).toNat = j - 7 := by omega
   have h4 : ((j : Int) - 16).toNat = j - 16 := by omega
   simp (disch := first | omega | (simp only [List.length_drop, List.length_take, List.length_set, List.length_append, List.length_replicate, List.length_cons, List.length_nil]; omega)) only [gd_and, gd_tt, gd_dec, gd_beq, gd_inB, gd_sl3, gd_room, cond_dtt, cond_dff, cond_ett, cond_eff, cond_ntt, cond_nff, cond_t, cond_f, wi64, Int.toNat_natCast, h1, h2, h3, h4, right7, right18, right17, right19]
   rfl
 · intro j a hj ⟨ha, hj16⟩; exact ⟨by simpa [Sp.stW] using ha, by omega⟩
 · intro m a ⟨ha, _⟩
   show L_110_121_1_1 (m + 1) 64 p1 p2 p3 l a = _
   rw [L_110_121_1_1, S_110_121_1_1, cond_dff (by decide)]
theorem j_rn (m : Nat) (hm : 64 < m) (p1 p2 k l w s : List Int) : L_110_121_2_1 m 0 p1 p2 k l w s = some (.e0 p1 p2 k l (Sp.rnds k w s)) := by
 refine (cnt0 (fun m j a => L_110_121_2_1 m j p1 p2 k l w a) (n := 64) (inv := fun _ _ => True) (step := Sp.stR k w) (ex := fun a => some (.e0 p1 p2 k l a)) (m := m) trivial hm ?_ ?_ ?_)
 · intro m j a hj _
   show L_110_121_2_1 (m + 1) j p1 p2 k l w a = _
   rw [L_110_121_2_1, S_110_121_2_1]
   simp (disch := first | omega | (simp only [List.length_drop, List.length_take, List.length_set, List.length_append, List.length_replicate, List.length_cons, List.length_nil]; omega)) only [gd_and, gd_tt, gd_dec, gd_beq, gd_inB, gd_sl3, gd_room, cond_dtt, cond_dff, cond_ett, cond_eff, cond_ntt, cond_nff, cond_t, cond_f, wi64, Int.toNat_natCast, right6, right11, right25, right2, right13, right22]
   rfl
 · intro j a hj _; trivial
 · intro m a _
   show L_110_121_2_1 (m + 1) 64 p1 p2 k l w a = _
   rw [L_110_121_2_1, S_110_121_2_1, cond_dff (by decide)]
theorem j_ad (m : Nat) (hm : 8 < m) (p1 s k l v : List Int) : L_110_121_3_1 m 0 p1 s k l v = some (.e0 p1 (Sp.addS s v) k l) := by
 refine (cnt0 (fun m j a => L_110_121_3_1 m j p1 a k l v) (n := 8) (inv := fun _ _ => True) (step := fun j s => s.set j (wrap .u32 (s.getD j 0 + v.getD j 0))) (ex := fun a => some (.e0 p1 a k l)) (m := m) trivial hm ?_ ?_ ?_)
 · intro m j a hj _
   show L_110_121_3_1 (m + 1) j p1 a k l v = _
   rw [L_110_121_3_1, S_110_121_3_1]
   simp (disch := first | omega | (simp only [List.length_drop, List.length_take, List.length_set, List.length_append, List.length_replicate, List.length_cons, List.length_nil]; omega)) only [gd_and, gd_tt, gd_dec, gd_beq, gd_inB, gd_sl3, gd_room, cond_dtt, cond_dff, cond_ett, cond_eff, cond_ntt, cond_nff, cond_t, cond_f, wi64, Int.toNat_natCast]
   rfl
 · intro j a hj _; trivial
 · intro m a _
   show L_110_121_3_1 (m + 1) 8 p1 a k l v = _
   rw [L_110_121_3_1, S_110_121_3_1, cond_dff (by decide)]
/-! magnetoref53.block -/
noncomputable def Sp.K64 : List Int := (v_120).1
theorem pq_32 : p_120 = true := by kernel_rfl
namespace Sp
/-- The state after n blocks. -/
noncomputable def shaS : Nat → List Int → List Int → List Int
 | 0, _, s => s
 | n + 1, l, s => shaS n (l.drop 64) (blk K64 s (l.take 64))
end Sp
theorem shaS_app : ∀ (n m : Nat) (l s : List Int), Sp.shaS (n + m) l s = Sp.shaS m (l.drop (64 * n)) (Sp.shaS n l s)
 | 0, m, l, s => by simp [Sp.shaS]
 | n + 1, m, l, s => by
   rw [show n + 1 + m = (n + m) + 1 by omega, Sp.shaS, Sp.shaS, shaS_app n m, List.drop_drop]
   rw [show 64 + 64 * n = 64 * (n + 1) by omega]
theorem shaS_congr : ∀ (n : Nat) (l l' s : List Int), l.take (64 * n) = l'.take (64 * n) → Sp.shaS n l s = Sp.shaS n l' s
 | 0, _, _, _, _ => rfl
 | n + 1, l, l', s, h => by
   have h1 : l.take 64 = l'.take 64 := by
     have := congrArg (take 64) h
     simpa [List.take_take, show min 64 (64 * (n + 1)) = 64 by omega] using this
   have h2 : (l.drop 64).take (64 * n) = (l'.drop 64).take (64 * n) := by
     have := congrArg (drop 64) h
     simpa [List.drop_take, show 64 * (n + 1) - 64 = 64 * n by omega] using this
   rw [Sp.shaS, Sp.shaS, h1, shaS_congr n _ _ _ h2]
theorem i_main : ∀ (q m : Nat) (b l o s : List Int), 64 * q ≤ l.length → l.length < 64 * q + 64 → q < m → l.length < 4611686018427387904 → L_110_0 m b l o s Sp.K64 = some (.e0 b (l.drop (64 * q)) o (Sp.shaS q l s) Sp.K64)
 | 0, m + 1, b, l, o, s, h1, h2, _, h4 => by
   rw [L_110_0, S_110_0, cond_dff (by omega)]
   simp [Sp.shaS]
 | q + 1, m + 1, b, l, o, s, h1, h2, h3, h4 => by
   rw [L_110_0, S_110_0, cond_dtt (by omega), gd_sl3 (by omega) (by omega) (by omega), List.drop_zero, i_w0 _ (by omega) _ _ _ _ (by simp; omega)]
   simp only [B_110_121_0_0]
   rw [i_w1 _ (by omega)]
   simp only [B_110_121_1_0]
   rw [i_rn _ (by omega)]
   simp only [B_110_121_2_0]
   rw [i_ad _ (by omega)]
   simp only [B_110_121_3_0]
   rw [gd_sl3 (by omega) (by omega) (by omega), i_main q m b (l.drop 64) o _ (by simp; omega) (by simp; omega) (by omega) (by simp; omega), List.drop_drop, Sp.shaS]
   rw [show 64 + 64 * q = 64 * (q + 1) by omega]
   rfl
set_option maxRecDepth 100000
set_option maxHeartbeats 4000000
theorem j_main : ∀ (q m j : Nat) (o s l : List Int), j + q ≤ 2 → l.length = 128 → q < m → L_110_2 m ((64 * (j + q) : Nat) : Int) ((64 * j : Nat) : Int) o s Sp.K64 l = some (.e0 o (Sp.shaS q (l.drop (64 * j)) s))
 | 0, m + 1, j, o, s, l, h1, h2, _ => by
   rw [L_110_2, S_110_2, cond_dff (by omega)]
   rfl
 | q + 1, m + 1, j, o, s, l, h1, h2, h3 => by
   have e1 : (((64 * j : Nat) : Int) + 64) = ((64 * (j + 1) : Nat) : Int) := by omega
   have e2 : 64 * (j + 1) - 64 * j = 64 := by omega
   rw [L_110_2, S_110_2, cond_dtt (by omega), wi64 (by omega) (by omega), gd_sl3 (by omega) (by omega) (by omega), e1, Int.toNat_natCast, Int.toNat_natCast, e2, j_w0 _ (by omega) _ _ _ _ _ _ (by omega) h2]
   simp only [B_110_121_0_1]
   rw [j_w1 _ (by omega)]
   simp only [B_110_121_1_1]
   rw [j_rn _ (by omega)]
   simp only [B_110_121_2_1]
   rw [j_ad _ (by omega)]
   simp only [B_110_121_3_1]
   have := j_main q m (j + 1) o (Sp.addS s (Sp.rnds Sp.K64 (Sp.w1 ((l.drop (64 * j)).take 64)) s)) l (by omega) h2 (by omega)
   rw [show j + 1 + q = j + (q + 1) by omega] at this
   rw [this, Sp.shaS, List.drop_drop]
   rfl
namespace Sp
/-- The bytes of a length. -/
noncomputable def szB (n : Int) : List Int := [wrap .u8 (Int.fdiv n (2 ^ 56)), wrap .u8 (Int.fdiv n (2 ^ 48)), wrap .u8 (Int.fdiv n (2 ^ 40)), wrap .u8 (Int.fdiv n (2 ^ 32)), wrap .u8 (Int.fdiv n (2 ^ 24)), wrap .u8 (Int.fdiv n (2 ^ 16)), wrap .u8 (Int.fdiv n (2 ^ 8)), wrap .u8 (Int.fdiv n (2 ^ 0))]
noncomputable def padB (b : List Int) (c : Nat) : List Int := b ++ [128] ++ replicate c 0 ++ szB (b.length * 8)
end Sp
set_option maxRecDepth 100000
set_option maxHeartbeats 4000000
namespace Sp
noncomputable def H0 : List Int := [1779033703, 3144134277, 1013904242, 2773480762, 1359893119, 2600822924, 528734635, 1541459225]
/-- The bytes of the state. -/
noncomputable def outB (s : List Int) : List Int := foldB (fun i o => (((o.set (4 * i) (wrap .u8 (Int.fdiv (s.getD i 0) 16777216))).set (4 * i + 1) (wrap .u8 (Int.fdiv (s.getD i 0) 65536))).set (4 * i + 2) (wrap .u8 (Int.fdiv (s.getD i 0) 256))).set (4 * i + 3) (wrap .u8 (s.getD i 0))) 0 8 (replicate 32 0)
/-- SHA-256. -/
noncomputable def sha (b : List Int) : List Int := outB (shaS ((b.length + 72) / 64) (padB b ((119 - b.length % 64) % 64)) H0)
end Sp
theorem i_out (m : Nat) (hm : 8 < m) (s p2 : List Int) : L_110_3 m s 0 p2 (replicate 32 0) = some (.e0 p2 (Sp.outB s)) := by
 refine (cnt0 (fun m j a => L_110_3 m s j p2 a) (n := 8) (inv := fun _ a => True) (step := fun i o => (((o.set (4 * i) (wrap .u8 (Int.fdiv (s.getD i 0) 16777216))).set (4 * i + 1) (wrap .u8 (Int.fdiv (s.getD i 0) 65536))).set (4 * i + 2) (wrap .u8 (Int.fdiv (s.getD i 0) 256))).set (4 * i + 3) (wrap .u8 (s.getD i 0))) (ex := fun a => some (.e0 p2 a)) (m := m) trivial hm ?_ ?_ ?_)
 · intro m j a hj _
   show L_110_3 (m + 1) s j p2 a = _
   rw [L_110_3, S_110_3]
   have h1 : (4 * (j : Int)).toNat = 4 * j := by omega
   simp (disch := first | omega | (simp only [List.length_drop, List.length_take, List.length_set, List.length_append, List.length_replicate, List.length_cons, List.length_nil]; omega)) only [gd_and, gd_tt, gd_dec, gd_beq, gd_inB, gd_sl3, gd_room, cond_dtt, cond_dff, cond_ett, cond_eff, cond_ntt, cond_nff, cond_t, cond_f, wi64, Int.toNat_natCast, h1, Nat.add_zero]
   rfl
 · intro j a hj _; trivial
 · intro m a _
   show L_110_3 (m + 1) s 8 p2 a = _
   rw [L_110_3, S_110_3, cond_dff (by decide)]
namespace Sp
noncomputable def stO (s : List Int) (j : Nat) (o : List Int) : List Int := o.set j (wrap .u8 (Int.fdiv (s.getD (j / 4) 0) (2 ^ (24 - j % 4 * 8))))
end Sp
theorem fdiv1 (x : Int) : Int.fdiv x (2 ^ 0) = x := by simp
set_option maxRecDepth 100000
set_option maxHeartbeats 4000000
theorem set8 (A C : List Int) (c0 c1 c2 c3 c4 c5 c6 c7 x0 x1 x2 x3 x4 x5 x6 x7 : Int) (n : Nat) (hn : A.length = n) :
   ((((((((A ++ c0 :: c1 :: c2 :: c3 :: c4 :: c5 :: c6 :: c7 :: C).set (n + 0) x0).set (n + 1) x1).set (n + 2) x2).set (n + 3) x3).set (n + 4) x4).set (n + 5) x5).set (n + 6) x6).set (n + 7) x7 = A ++ x0 :: x1 :: x2 :: x3 :: x4 :: x5 :: x6 :: x7 :: C := by
 subst hn
 simp only [List.set_append, Nat.lt_irrefl, Nat.add_sub_cancel_left, if_false, show ∀ k, ¬ (A.length + k < A.length) from fun k => by omega, List.set_cons_zero, List.set_cons_succ]
theorem size_eq (n : Int) (h0 : 0 ≤ n) (h1 : n < 18446744073709551616) : [wrap .u8 (Int.fdiv (wrap .u32 (Int.fdiv n 4294967296)) 16777216), wrap .u8 (Int.fdiv (wrap .u32 (Int.fdiv n 4294967296)) 65536), wrap .u8 (Int.fdiv (wrap .u32 (Int.fdiv n 4294967296)) 256), wrap .u8 (wrap .u32 (Int.fdiv n 4294967296)), wrap .u8 (Int.fdiv (wrap .u32 n) 16777216), wrap .u8 (Int.fdiv (wrap .u32 n) 65536), wrap .u8 (Int.fdiv (wrap .u32 n) 256), wrap .u8 (wrap .u32 n)] = Sp.szB n := by
 unfold Sp.szB
 simp only [u8_mod, u32_mod, Int.fdiv_eq_ediv_of_nonneg _ (show (0 : Int) ≤ 4294967296 by decide), Int.fdiv_eq_ediv_of_nonneg _ (show (0 : Int) ≤ 16777216 by decide), Int.fdiv_eq_ediv_of_nonneg _ (show (0 : Int) ≤ 65536 by decide), Int.fdiv_eq_ediv_of_nonneg _ (show (0 : Int) ≤ 256 by decide),
   Int.fdiv_eq_ediv_of_nonneg _ (show (0 : Int) ≤ 2 ^ 56 by decide), Int.fdiv_eq_ediv_of_nonneg _ (show (0 : Int) ≤ 2 ^ 48 by decide), Int.fdiv_eq_ediv_of_nonneg _ (show (0 : Int) ≤ 2 ^ 40 by decide), Int.fdiv_eq_ediv_of_nonneg _ (show (0 : Int) ≤ 2 ^ 32 by decide), Int.fdiv_eq_ediv_of_nonneg _ (show (0 : Int) ≤ 2 ^ 24 by decide), Int.fdiv_eq_ediv_of_nonneg _ (show (0 : Int) ≤ 2 ^ 16 by decide), Int.fdiv_eq_ediv_of_nonneg _ (show (0 : Int) ≤ 2 ^ 8 by decide), fdiv1]
 simp only [List.cons.injEq, and_true]
 refine ⟨?_, ?_, ?_, ?_, ?_, ?_, ?_, ?_⟩ <;> omega
theorem last_eq (rest : List Int) (e : Nat) (he : e = 64 ∨ e = 128) (hn : rest.length + 9 ≤ e) : (over (replicate 128 0) 0 (rest.take 128)).set rest.length 128 = (rest ++ [128] ++ replicate (e - 9 - rest.length) 0) ++ (0 : Int) :: 0 :: 0 :: 0 :: 0 :: 0 :: 0 :: 0 :: replicate (128 - e) 0 := by
 have h1 : rest.take 128 = rest := List.take_of_length_le (by omega)
 have h2 : over (replicate 128 (0 : Int)) 0 rest = rest ++ 0 :: replicate (127 - rest.length) 0 := by
   unfold over
   simp only [List.take_zero, List.nil_append, List.drop_replicate]
   rw [show 128 - (0 + rest.length) = (127 - rest.length) + 1 by omega, List.replicate_succ]
 rw [h1, h2, List.set_append, if_neg (by omega), Nat.sub_self, List.set_cons_zero]
 rw [show 127 - rest.length = (e - 9 - rest.length) + (8 + (128 - e)) by omega, ← List.replicate_append_replicate, ← List.replicate_append_replicate]
 simp [replicate]
theorem J_ok (b o st rest : List Int) (e : Nat) (he : e = 64 ∨ e = 128) (hn : rest.length + 9 ≤ e) (hb : b.length < 100000000000) :
   J_110_1 b e (replicate 32 0) st Sp.K64 ((over (replicate 128 0) 0 (rest.take 128)).set rest.length 128) = some (.e0 (Sp.outB (Sp.shaS (e / 64) (rest ++ [128] ++ replicate (e - 9 - rest.length) 0 ++ Sp.szB (b.length * 8)) st))) := by
 have e8 : ((e : Int) - 8).toNat = e - 8 := by omega
 have e4 : ((e : Int) - 4).toNat = e - 4 := by omega
 rw [last_eq rest e he hn]
 unfold J_110_1 S_110_1
 simp (disch := first | omega | (simp only [List.length_drop, List.length_take, List.length_set, List.length_append, List.length_replicate, List.length_cons, List.length_nil]; omega)) only [gd_and, gd_tt, gd_dec, gd_beq, gd_inB, gd_sl3, gd_room, cond_dtt, cond_dff, cond_ett, cond_eff, cond_ntt, cond_nff, cond_t, cond_f, wi64, Int.toNat_natCast, e8, e4]
 rw [wu64 (n := (b.length : Int)) (by omega) (by omega), wu64 (n := (b.length : Int) * 8) (by omega) (by omega)]
 rw [show e - 4 + 0 = e - 8 + 4 by omega, show e - 4 + 1 = e - 8 + 5 by omega, show e - 4 + 2 = e - 8 + 6 by omega, show e - 4 + 3 = e - 8 + 7 by omega]
 rw [set8 _ _ _ _ _ _ _ _ _ _ _ _ _ _ _ _ _ _ (e - 8) (by simp; omega)]
 have hsz := size_eq ((b.length : Int) * 8) (by omega) (by omega)
 generalize hA : rest ++ [128] ++ replicate (e - 9 - rest.length) (0 : Int) = A
 have hAl : A.length = e - 8 := by rw [← hA]; simp; omega
 generalize hx : (wrap .u8 (Int.fdiv (wrap .u32 (Int.fdiv ((b.length : Int) * 8) 4294967296)) 16777216)) = x0 at hsz ⊢
 generalize (wrap .u8 (Int.fdiv (wrap .u32 (Int.fdiv ((b.length : Int) * 8) 4294967296)) 65536)) = x1 at hsz ⊢
 generalize (wrap .u8 (Int.fdiv (wrap .u32 (Int.fdiv ((b.length : Int) * 8) 4294967296)) 256)) = x2 at hsz ⊢
 generalize (wrap .u8 (wrap .u32 (Int.fdiv ((b.length : Int) * 8) 4294967296))) = x3 at hsz ⊢
 generalize (wrap .u8 (Int.fdiv (wrap .u32 ((b.length : Int) * 8)) 16777216)) = x4 at hsz ⊢
 generalize (wrap .u8 (Int.fdiv (wrap .u32 ((b.length : Int) * 8)) 65536)) = x5 at hsz ⊢
 generalize (wrap .u8 (Int.fdiv (wrap .u32 ((b.length : Int) * 8)) 256)) = x6 at hsz ⊢
 generalize (wrap .u8 (wrap .u32 ((b.length : Int) * 8))) = x7 at hsz ⊢
 have hl : (A ++ x0 :: x1 :: x2 :: x3 :: x4 :: x5 :: x6 :: x7 :: replicate (128 - e) 0).length = 128 := by simp [hAl]; omega
 have hm := j_main (e / 64) 4611686018427387904 0 (replicate 32 0) st _ (by omega) hl (by omega)
 rw [show 64 * (0 + e / 64) = e by omega, show ((64 * 0 : Nat) : Int) = 0 from rfl] at hm
 rw [hm]
 simp only [B_110_2]
 rw [List.drop_zero, i_out _ (by omega)]
 simp only [B_110_3]
 rw [← hsz, shaS_congr (e / 64) _ (A ++ [x0, x1, x2, x3, x4, x5, x6, x7])]
 rw [show 64 * (e / 64) = (A ++ [x0, x1, x2, x3, x4, x5, x6, x7]).length by simp [hAl]; omega, List.take_length,
   show A ++ x0 :: x1 :: x2 :: x3 :: x4 :: x5 :: x6 :: x7 :: replicate (128 - e) 0 = (A ++ [x0, x1, x2, x3, x4, x5, x6, x7]) ++ replicate (128 - e) 0 by simp, List.take_left]
theorem i_sum (b : List Int) (h3 : b.length < 100000000000) : F_110 b = some (Sp.sha b, ()) := by
 unfold F_110
 rw [pq_32, gd_tt]
 have hq := i_main (b.length / 64) 4611686018427387904 b b (replicate 32 0) Sp.H0 (by omega) (by omega) (by omega) (by omega)
 show B_110_0 (L_110_0 _ b b (replicate 32 0) Sp.H0 Sp.K64) _ = _
 rw [hq]
 simp only [B_110_0]
 have hrl : (b.drop (64 * (b.length / 64))).length = b.length % 64 := by simp; omega
 generalize hr : b.drop (64 * (b.length / 64)) = rest at hrl ⊢
 rw [nmin_l (by omega), gd_inB (by omega) (by omega), Int.toNat_natCast, gd_and, gd_dec (by omega), gd_tt, wi64 (by omega) (by omega)]
 have hN : (b.length + 72) / 64 = b.length / 64 + ((if rest.length ≤ 55 then 64 else 128) / 64) := by split <;> omega
 have hfin : ∀ e : Nat, e = (if rest.length ≤ 55 then 64 else 128) → Sp.outB (Sp.shaS (e / 64) (rest ++ [128] ++ replicate (e - 9 - rest.length) 0 ++ Sp.szB (b.length * 8)) (Sp.shaS (b.length / 64) b Sp.H0)) = Sp.sha b := by
   intro e he
   unfold Sp.sha
   rw [hN, ← he, shaS_app]
   have hc : (119 - b.length % 64) % 64 = e - 9 - rest.length := by rw [hrl] at he ⊢; split at he <;> omega
   have e1 : (Sp.padB b ((119 - b.length % 64) % 64)).drop (64 * (b.length / 64)) = rest ++ [128] ++ replicate (e - 9 - rest.length) 0 ++ Sp.szB (b.length * 8) := by
     rw [hc, Sp.padB]
     simp only [List.append_assoc]
     rw [List.drop_append_of_le_length (by omega), hr]
   have e2 : Sp.shaS (b.length / 64) (Sp.padB b ((119 - b.length % 64) % 64)) Sp.H0 = Sp.shaS (b.length / 64) b Sp.H0 := by
     refine shaS_congr _ _ _ _ ?_
     rw [Sp.padB]
     simp only [List.append_assoc]
     rw [List.take_append_of_le_length (by omega)]
   rw [e1, e2]
 by_cases h : rest.length ≤ 55
 · rw [cond_dff (by omega)]
   have := J_ok b (replicate 32 0) (Sp.shaS (b.length / 64) b Sp.H0) rest 64 (.inl rfl) (by omega) h3
   rw [show ((64 : Nat) : Int) = 64 from rfl] at this
   rw [this]
   simp only [B_110_1]
   rw [hfin 64 (by rw [if_pos h])]
 · rw [cond_dtt (by omega)]
   have := J_ok b (replicate 32 0) (Sp.shaS (b.length / 64) b Sp.H0) rest 128 (.inr rfl) (by omega) h3
   rw [show ((128 : Nat) : Int) = 128 from rfl] at this
   rw [this]
   simp only [B_110_1]
   rw [hfin 128 (by rw [if_neg h])]
/-! digits -/
namespace Sp
noncomputable def hi4 (x : Int) : Int := wrap .i64 (Int.fdiv x 16)
noncomputable def lo4 (x : Int) : Int := wrap .i64 (andI .u8 x 15)
noncomputable def dig (h : List Int) (j : Nat) : Int := if j % 2 = 0 then hi4 (h.getD (j / 2) 0) else lo4 (h.getD (j / 2) 0)
noncomputable def digs (h : List Int) (n : Nat) : List Int := (List.range n).map (dig h)
noncomputable def dsum (h : List Int) : Nat → Int
 | 0 => 0
 | n + 1 => dsum h n + (15 - dig h n)
end Sp
theorem and15 (x : Int) : Sp.andI .u8 x 15 = x % 16 := by
 unfold Sp.andI
 rw [u8_mod]
 have h : (BitVec.ofInt 8 x &&& BitVec.ofInt 8 15).toNat = (BitVec.ofInt 8 x).toNat % 16 := by
   rw [BitVec.toNat_and]
   show (BitVec.ofInt 8 x).toNat &&& 15 = _
   exact Nat.and_two_pow_sub_one_eq_mod _ 4
 show (((BitVec.ofInt 8 x &&& BitVec.ofInt 8 15).toNat : Nat) : Int) % 256 = x % 16
 rw [h, BitVec.toNat_ofInt]
 omega
theorem hi_b (x : Int) (h0 : 0 ≤ x) (h1 : x ≤ 255) : 0 ≤ Sp.hi4 x ∧ Sp.hi4 x ≤ 15 := by
 unfold Sp.hi4
 rw [Int.fdiv_eq_ediv_of_nonneg _ (by decide), wi64 (by omega) (by omega)]
 omega
theorem lo_b (x : Int) : 0 ≤ Sp.lo4 x ∧ Sp.lo4 x ≤ 15 := by
 unfold Sp.lo4
 rw [and15, wi64 (by omega) (by omega)]
 omega
abbrev bytes (h : List Int) : Prop := ∀ x ∈ h, 0 ≤ x ∧ x ≤ 255
theorem bytes_get {h : List Int} (hb : bytes h) (i : Nat) : 0 ≤ h.getD i 0 ∧ h.getD i 0 ≤ 255 := by
 rcases Nat.lt_or_ge i h.length with hi | hi
 · rw [List.getD_eq_getElem?_getD, List.getElem?_eq_getElem hi]; exact hb _ (List.getElem_mem hi)
 · rw [List.getD_eq_getElem?_getD, List.getElem?_eq_none hi]; simp
theorem dig_b {h : List Int} (hb : bytes h) (j : Nat) : 0 ≤ Sp.dig h j ∧ Sp.dig h j ≤ 15 := by
 unfold Sp.dig
 split
 · exact hi_b _ (bytes_get hb _).1 (bytes_get hb _).2
 · exact lo_b _
theorem dsum_b {h : List Int} (hb : bytes h) : ∀ n, 0 ≤ Sp.dsum h n ∧ Sp.dsum h n ≤ 15 * n
 | 0 => by simp [Sp.dsum]
 | n + 1 => by
   have h1 := dsum_b hb n
   have h2 := dig_b hb n
   simp only [Sp.dsum]; omega
theorem digs_len (h : List Int) (n : Nat) : (Sp.digs h n).length = n := by simp [Sp.digs]
theorem digs_succ (h : List Int) (n : Nat) : Sp.digs h (n + 1) = Sp.digs h n ++ [Sp.dig h n] := by simp [Sp.digs, List.range_succ]
theorem i_dig1 (m : Nat) (hm : 2 < m) (s : Int) (h : List Int) (hb : bytes h) (q : Nat) (x y : Int) (hx : x = Sp.dig h (2 * q)) (hy : y = Sp.dig h (2 * q + 1)) (i : Int) (hs : s = Sp.dsum h (2 * q)) (hq : q < 32) : L_86_1 m s h i [x, y] 0 (Sp.digs h (2 * q)) = some (.e0 (Sp.dsum h (2 * q + 2)) h i (Sp.digs h (2 * q + 2))) := by
 obtain ⟨m, rfl⟩ : ∃ k, m = k + 3 := ⟨m - 3, by omega⟩
 have b0 := dsum_b hb (2 * q)
 have b1 := dig_b hb (2 * q)
 have b2 := dig_b hb (2 * q + 1)
 subst hs hx hy
 rw [L_86_1, S_86_1, cond_dtt (by decide), gd_inB (by decide) (by decide), gd_room (by rw [digs_len]; omega) (by rw [digs_len]; omega)]
 show L_86_1 (m + 2) (wrap .i64 (Sp.dsum h (2 * q) + wrap .i64 (15 - Sp.dig h (2 * q)))) h i _ 1 (Sp.digs h (2 * q) ++ [Sp.dig h (2 * q)]) = _
 rw [wi64 (n := 15 - Sp.dig h (2 * q)) (by omega) (by omega), wi64 (by omega) (by omega), ← digs_succ, L_86_1, S_86_1, cond_dtt (by decide), gd_inB (by decide) (by decide), gd_room (by rw [digs_len]; omega) (by rw [digs_len]; omega)]
 show L_86_1 (m + 1) (wrap .i64 (Sp.dsum h (2 * q) + (15 - Sp.dig h (2 * q)) + wrap .i64 (15 - Sp.dig h (2 * q + 1)))) h i _ 2 (Sp.digs h (2 * q + 1) ++ [Sp.dig h (2 * q + 1)]) = _
 rw [wi64 (n := 15 - Sp.dig h (2 * q + 1)) (by omega) (by omega), wi64 (by omega) (by omega), ← digs_succ, L_86_1, S_86_1, cond_dff (by decide)]
 rfl
theorem i_dig0 : ∀ (d m q : Nat) (h : List Int), bytes h → q + d = 32 → d < m → L_86_0 m (Sp.dsum h (2 * q)) h (q : Nat) (Sp.digs h (2 * q)) = some (.e0 (Sp.dsum h 64) (Sp.digs h 64))
 | 0, m + 1, q, h, hb, hq, _ => by
   rw [L_86_0, S_86_0, cond_dff (by omega), show 2 * q = 64 by omega]
 | d + 1, m + 1, q, h, hb, hq, hm => by
   rw [L_86_0, S_86_0, cond_dtt (by omega), gd_inB (by omega) (by omega), Int.toNat_natCast]
   rw [i_dig1 _ (by omega) _ h hb q _ _ (by simp [Sp.dig, Sp.hi4]) (by simp [Sp.dig, Sp.lo4, show (2 * q + 1) / 2 = q by omega, show (2 * q + 1) % 2 = 1 by omega]) _ rfl (by omega)]
   simp only [B_86_1]
   rw [wi64 (by omega) (by omega)]
   exact i_dig0 d m (q + 1) h hb (by omega) (by omega)
theorem and15' (x : Int) : Sp.andI .i64 x 15 = x % 16 := by
 unfold Sp.andI
 have h : (BitVec.ofInt 64 x &&& BitVec.ofInt 64 15).toNat = (BitVec.ofInt 64 x).toNat % 16 := by
   rw [BitVec.toNat_and]
   show (BitVec.ofInt 64 x).toNat &&& 15 = _
   exact Nat.and_two_pow_sub_one_eq_mod _ 4
 show wrap .i64 (((BitVec.ofInt 64 x &&& BitVec.ofInt 64 15).toNat : Nat) : Int) = x % 16
 rw [h, BitVec.toNat_ofInt, wi64 (by omega) (by omega)]
 omega
namespace Sp
noncomputable def digL (h : List Int) : List Int := digs h 64 ++ [dsum h 64 / 256, dsum h 64 / 16 % 16, dsum h 64 % 16]
end Sp
theorem i_digits (h : List Int) (hb : bytes h) : F_86 h = some (Sp.digL h, ()) := by
 have b0 := dsum_b hb 64
 unfold F_86
 have := i_dig0 32 4611686018427387904 0 h hb (by omega) (by omega)
 rw [show L_86_0 4611686018427387904 0 h 0 [] = some (.e0 (Sp.dsum h 64) (Sp.digs h 64)) from this]
 simp only [B_86_0]
 rw [gd_room (by rw [digs_len]; omega) (by rw [digs_len]; omega), Int.fdiv_eq_ediv_of_nonneg _ (by decide), Int.fdiv_eq_ediv_of_nonneg _ (by decide), and15', and15']
 rfl
set_option maxRecDepth 100000
set_option maxHeartbeats 4000000
abbrev BayT := FlT × List Int × Unit
namespace Sp
noncomputable def cntB (n : Nat) : Bool := decide (n % 2 = 0) && (decide (18 ≤ n) && decide (n ≤ 64))
noncomputable def bvb (a : BayT) : Bool := fv a.1 && cntB a.1.2.1.length
noncomputable def hlf (a : BayT) : Nat := a.1.2.1.length * 32
noncomputable def wds (a : BayT) (k : Nat) : List Int := (a.1.1.drop (k * hlf a)).take (hlf a)
end Sp
theorem cnt_ok (n : Nat) (hn : n < 1000000) : F_70 n = some (Sp.cntB n, ()) := by
 unfold F_70 Sp.cntB
 rw [Int.tmod_eq_emod_of_nonneg (by omega)]
 by_cases h : n % 2 = 0
 · rw [cond_ett (by omega), decide_eq_true h, Bool.true_and]
   by_cases h : 18 ≤ n
   · rw [cond_dtt (by omega), decide_eq_true h, Bool.true_and, show decide ((n : Int) ≤ 64) = decide (n ≤ 64) from decide_eq_decide.2 (by omega)]
   · rw [cond_dff (by omega), decide_eq_false h, Bool.false_and]
 · rw [cond_eff (by omega), decide_eq_false h, Bool.false_and]
theorem val_ok (a : BayT) : F_33 a = some (Sp.bvb a, ()) := by
 unfold F_33 Sp.bvb
 rw [(fv_pv a.1).1, (fv_pv a.1).2, gd_tt]
 cases h : Sp.fv a.1
 · rfl
 · have hv := fv_iff.1 h
   have hc := pv_70 _ (cnt_ok a.1.2.1.length (by omega))
   rw [cond_t, hc.1, hc.2, gd_tt, Bool.true_and]
theorem val_pv (a : BayT) : p_33 a = true ∧ v_33 a = (Sp.bvb a, ()) := pv_33 a (val_ok a)
theorem bank_ok (k : Int) : F_97 k = some (k == 0 || k == 1, ()) := by
 unfold F_97
 cases k == 0 <;> rfl
theorem bank_pv (k : Int) : p_97 k = true ∧ v_97 k = (k == 0 || k == 1, ()) := pv_97 k (bank_ok k)
theorem bank_nat (k : Nat) (h : k < 2) : (((k : Nat) : Int) == 0 || ((k : Nat) : Int) == 1) = true := by
 match k, h with
 | 0, _ => rfl
 | 1, _ => rfl
structure BV (a : BayT) : Prop where
 v : Sp.fv a.1 = true
 e : a.1.2.1.length % 2 = 0
 lo : 18 ≤ a.1.2.1.length
 hi : a.1.2.1.length ≤ 64
 l : a.1.1.length = 2 * Sp.hlf a
 h0 : 576 ≤ Sp.hlf a
 h1 : Sp.hlf a ≤ 2048
theorem bv_of {a : BayT} (h : Sp.bvb a = true) : BV a := by
 unfold Sp.bvb Sp.cntB at h
 simp only [Bool.and_eq_true, decide_eq_true_eq] at h
 obtain ⟨h, e, lo, hi⟩ := h
 have hv := fv_iff.1 h
 refine ⟨h, e, lo, hi, ?_, ?_, ?_⟩ <;> unfold Sp.hlf <;> omega
theorem half_eq {a : BayT} (h : BV a) : wrap .i64 (Int.tdiv (a.1.1.length : Int) 2) = Sp.hlf a := by
 rw [h.l, show Int.tdiv ((2 * Sp.hlf a : Nat) : Int) 2 = Sp.hlf a by rw [Int.tdiv_eq_ediv_of_nonneg (by omega)]; omega]
 exact wi64 (by omega) (by have := h.h1; omega)
theorem off_eq {a : BayT} (h : BV a) (k : Nat) (hk : k < 3) : wrap .i64 ((k : Int) * (Sp.hlf a : Int)) = ((k * Sp.hlf a : Nat) : Int) := by
 have := h.h1
 have : k * Sp.hlf a ≤ 2 * Sp.hlf a := Nat.mul_le_mul_right _ (by omega)
 rw [← Int.natCast_mul, wi64 (by omega) (by omega)]
theorem off_lt {a : BayT} (h : BV a) (k : Nat) (hk : k < 2) : k * Sp.hlf a + Sp.hlf a ≤ a.1.1.length := by
 have := h.l
 match k, hk with
 | 0, _ => omega
 | 1, _ => omega
theorem wds_len {a : BayT} (h : BV a) (k : Nat) (hk : k < 2) : (Sp.wds a k).length = Sp.hlf a := by
 have := off_lt h k hk
 unfold Sp.wds
 rw [List.length_take, List.length_drop]
 omega
theorem words_ok {a : BayT} (h : BV a) (k : Nat) (hk : k < 2) : F_84 a k = some (Sp.wds a k, ()) := by
 have hl := off_lt h k hk
 have e : wrap .i64 ((k : Int) + 1) = ((k + 1 : Nat) : Int) := by rw [wi64 (by omega) (by omega)]; push_cast; rfl
 unfold F_84 Sp.wds
 rw [half_eq h, e, off_eq h k (by omega), off_eq h (k + 1) (by omega), gd_sl3 (by omega) (by rw [Nat.add_mul]; omega) (by rw [Nat.add_mul]; omega), Int.toNat_natCast, Int.toNat_natCast, show (k + 1) * Sp.hlf a - k * Sp.hlf a = Sp.hlf a by rw [Nat.add_mul]; omega]
theorem words_pv {a : BayT} (h : BV a) (k : Nat) (hk : k < 2) : p_84 a k = true ∧ v_84 a k = (Sp.wds a k, ()) := pv_84 a k (words_ok h k hk)
theorem wds_get {a : BayT} (h : BV a) (k : Nat) (hk : k < 2) : (Sp.wds a k).getD 0 0 = a.1.1.getD (k * Sp.hlf a) 0 := by
 have := off_lt h k hk
 have := h.h0
 unfold Sp.wds
 simp only [List.getD_eq_getElem?_getD, List.getElem?_take, List.getElem?_drop]
 rw [if_pos (by omega), Nat.add_zero]
theorem act_pv {a : BayT} (h : BV a) (k : Nat) (hk : k < 2) : p_93 a k = true ∧ v_93 a k = (a.1.1.getD (k * Sp.hlf a) 0 == 0, ()) := by
 refine pv_93 a k ?_
 have := h.h0
 unfold F_93
 rw [(words_pv h k hk).1, (words_pv h k hk).2, gd_tt, gd_inB (by decide) (by show (0 : Int) < ((Sp.wds a k).length : Int); rw [wds_len h k hk]; omega)]
 show some ((Sp.wds a k).getD 0 0 == 0, ()) = _
 rw [wds_get h k hk]
theorem cat_l0 (m : Nat) (x y : List Int) (hx : x.length < 1000000) (hy : y.length < 1000000) : L_119_0 (m + 3) [x, y] 0 [x, y] 2 0 = some (.e0 [x, y] ((x.length : Int) + (y.length : Int))) := by
 rw [L_119_0, S_119_0, cond_dtt (by decide), gd_inB (by decide) (by show (0 : Int) < ((2 : Nat) : Int); decide)]
 show (bif decide (wrap .i64 (0 + (x.length : Int)) < 0) then none else L_119_0 (m + 2) [x, y] (wrap .i64 (0 + (x.length : Int))) [x, y] 2 1) = _
 rw [wi64 (n := 0 + (x.length : Int)) (by omega) (by omega), cond_dff (by omega), L_119_0, S_119_0, cond_dtt (by decide), gd_inB (by decide) (by show (1 : Int) < ((2 : Nat) : Int); decide)]
 show (bif decide (wrap .i64 (0 + (x.length : Int) + (y.length : Int)) < 0) then none else L_119_0 (m + 1) [x, y] (wrap .i64 (0 + (x.length : Int) + (y.length : Int))) [x, y] 2 2) = _
 rw [wi64 (n := 0 + (x.length : Int) + (y.length : Int)) (by omega) (by omega), cond_dff (by omega), L_119_0, S_119_0, cond_dff (by decide), Int.zero_add]
theorem cat_l1 (m : Nat) (x y : List Int) (hx : x.length < 1000000) (hy : y.length < 1000000) : L_119_1 (m + 3) [x, y] 2 0 [] = some (.e0 (x ++ y)) := by
 rw [L_119_1, S_119_1, cond_dtt (by decide), gd_inB (by decide) (by show (0 : Int) < ((2 : Nat) : Int); decide), gd_room (by show (0 + x.length) * 4 ≤ _; omega) (by show 0 + x.length ≤ _; omega)]
 show L_119_1 (m + 2) [x, y] 2 1 x = _
 rw [L_119_1, S_119_1, cond_dtt (by decide), gd_inB (by decide) (by show (1 : Int) < ((2 : Nat) : Int); decide), gd_room (by show (x.length + y.length) * 4 ≤ _; omega) (by show x.length + y.length ≤ _; omega)]
 show L_119_1 (m + 1) [x, y] 2 2 (x ++ y) = _
 rw [L_119_1, S_119_1, cond_dff (by decide)]
theorem cat_ok (x y : List Int) (hx : x.length < 1000000) (hy : y.length < 1000000) : F_119 [x, y] = some (x ++ y, ()) := by
 unfold F_119
 refine (congrArg (fun z => B_119_0 z _) (cat_l0 4611686018427387901 x y hx hy)).trans ?_
 refine Eq.trans (b := gd (decide ((0 : Int) ≤ (x.length : Int) + (y.length : Int)) && room (toNat ((x.length : Int) + (y.length : Int))) 4) (B_119_1 (L_119_1 4611686018427387904 [x, y] 2 0 []) fun y5 => some (y5, ()))) rfl ?_
 rw [gd_and, gd_dec (by omega), gd_room (by omega) (by omega)]
 exact (congrArg (fun z => B_119_1 z _) (cat_l1 4611686018427387901 x y hx hy)).trans rfl
namespace Sp
noncomputable def w4 (x : Int) : List Int := [wrap .u8 (Int.fdiv x 16777216), wrap .u8 (Int.fdiv x 65536), wrap .u8 (Int.fdiv x 256), wrap .u8 x]
noncomputable def spr (l : List Int) : List Int := l.flatMap w4
end Sp
theorem spr_len (l : List Int) : (Sp.spr l).length = 4 * l.length := by
 induction l with
 | nil => rfl
 | cons x l ih => show (Sp.w4 x ++ Sp.spr l).length = _; rw [List.length_append, ih, List.length_cons]; show 4 + _ = _; omega
theorem spr_succ (l : List Int) (j : Nat) (hj : j < l.length) : Sp.spr (l.take (j + 1)) = Sp.spr (l.take j) ++ Sp.w4 (l.getD j 0) := by
 have e : l.getD j 0 = l[j] := by simp [List.getD_eq_getElem?_getD, List.getElem?_eq_getElem hj]
 unfold Sp.spr
 rw [e, List.take_succ_eq_append_getElem hj, List.flatMap_append, List.flatMap_cons, List.flatMap_nil, List.append_nil]
theorem spr_b (l : List Int) : bytes (Sp.spr l) := by
 intro x hx
 unfold Sp.spr at hx
 rw [List.mem_flatMap] at hx
 obtain ⟨y, _, hx⟩ := hx
 simp only [Sp.w4, List.mem_cons, List.not_mem_nil, or_false] at hx
 rcases hx with rfl | rfl | rfl | rfl <;> rw [u8_mod] <;> omega
theorem spr_loop (l : List Int) (hl : l.length < 1000000) : ∀ (d m j : Nat), j + d = l.length → d < m → L_116_0 m l l.length (j : Nat) (Sp.spr (l.take j)) = some (.e0 (Sp.spr l)) := by
 intro d
 induction d with
 | zero =>
   intro m j hj hm
   obtain ⟨m, rfl⟩ : ∃ k, m = k + 1 := ⟨m - 1, by omega⟩
   rw [L_116_0, S_116_0, cond_dff (by omega), List.take_of_length_le (by omega)]
 | succ d ih =>
   intro m j hj hm
   obtain ⟨m, rfl⟩ : ∃ k, m = k + 1 := ⟨m - 1, by omega⟩
   have hs := spr_len (l.take j)
   rw [List.length_take] at hs
   rw [L_116_0, S_116_0, cond_dtt (by omega), gd_inB (by omega) (by omega), gd_room (by omega) (by omega), wi64 (by omega) (by omega), Int.toNat_natCast]
   have := ih m (j + 1) (by omega) (by omega)
   rw [spr_succ l j (by omega)] at this
   push_cast at this
   exact this
theorem spr_eq (l : List Int) (hl : l.length < 1000000) : F_116 l = some (Sp.spr l, ()) := by
 unfold F_116
 exact (congrArg (fun z => B_116_0 z _) (spr_loop l hl l.length 4611686018427387904 0 (by omega) (by omega))).trans rfl
theorem spr_ok (l : List Int) (hl : l.length < 1000000) : ∃ o, F_116 l = some (o, ()) ∧ o.length = 4 * l.length ∧ bytes o := ⟨_, spr_eq l hl, spr_len l, spr_b l⟩
set_option maxRecDepth 100000
set_option maxHeartbeats 4000000
/-! chains -/
namespace Sp
noncomputable def link (j : Int) (h : List Int) : List Int := sha ([wrap .u8 j] ++ h.take 32)
noncomputable def chn : Nat → Int → List Int → List Int
 | 0, _, h => h
 | n + 1, j, h => chn n (j + 1) (link j h)
end Sp
theorem i_chain : ∀ (d m : Nat) (j e : Int) (h o : List Int), e = j + d → -1000 ≤ j → e ≤ 1000 → d < m → L_87_0 m e j h o = some (.e0 (Sp.chn d j h) o)
 | 0, m + 1, j, e, h, o, h1, h2, h3, _ => by
   rw [L_87_0, S_87_0, cond_dff (by omega)]
   rfl
 | d + 1, m + 1, j, e, h, o, h1, h2, h3, h4 => by
   have hl : (h.take 32).length ≤ 32 := by simp; omega
   have hs : p_110 ([wrap .u8 j] ++ h.take 32) = true ∧ v_110 ([wrap .u8 j] ++ h.take 32) = (Sp.link j h, ()) := pv_110 _ (i_sum _ (by rw [List.length_append, List.length_singleton]; omega))
   rw [L_87_0, S_87_0, cond_dtt (by omega), List.drop_zero, gd_room (by omega) (by omega), hs.1, hs.2, gd_tt, wi64 (by omega) (by omega)]
   rw [Sp.chn]
   dsimp only
   exact i_chain d m (j + 1) e (Sp.link j h) o (by omega) (by omega) h3 (by omega)
theorem chain_ok (h : List Int) (j e : Int) (h0 : 0 ≤ j) (h1 : j ≤ e) (h2 : e ≤ 15) : F_87 h j e = some (Sp.chn (e - j).toNat j h, ()) := by
 unfold F_87
 rw [i_chain (e - j).toNat _ j e h _ (by omega) (by omega) (by omega) (by omega)]
 rfl
set_option maxRecDepth 100000
set_option maxHeartbeats 4000000
namespace Sp
noncomputable def node (a b : List Int) : List Int := sha ([255] ++ a.take 32 ++ b.take 32)
noncomputable def sec (s : List Int) (k j : Int) : List Int := sha (s.take 32 ++ [wrap .u8 k, wrap .u8 j])
noncomputable def cat (l : List (List Int)) : List Int := l.flatMap fun h => h.take 32
noncomputable def leafE (l : List (List Int)) : List Int := sha (cat l)
noncomputable def ends (s : List Int) (k : Int) (n : Nat) : List (List Int) := (List.range n).map fun j : Nat => chn 15 0 (sec s k (j : Int))
noncomputable def leafS (s : List Int) (k : Int) : List Int := leafE (ends s k 67)
noncomputable def pubK (s : List Int) : List Int := node (node (leafS s 0) (leafS s 1)) (node (leafS s 2) (leafS s 3))
end Sp
theorem tk32 (a : List Int) : (a.take 32).length ≤ 32 := by rw [List.length_take]; omega
theorem above_ok (a b : List Int) : F_89 a b = some (Sp.node a b, ()) := by
 have h1 := tk32 a
 have h2 := tk32 b
 have hs : p_110 ([255] ++ a.take 32 ++ b.take 32) = true ∧ v_110 ([255] ++ a.take 32 ++ b.take 32) = (Sp.node a b, ()) := pv_110 _ (i_sum _ (by rw [List.length_append, List.length_append, List.length_singleton]; omega))
 unfold F_89
 rw [List.drop_zero, List.drop_zero, gd_room (by omega) (by omega), gd_room (by rw [List.length_append, List.length_singleton]; omega) (by rw [List.length_append, List.length_singleton]; omega), hs.1, hs.2, gd_tt]
theorem cat_len : ∀ l : List (List Int), (Sp.cat l).length ≤ 32 * l.length
 | [] => by simp [Sp.cat]
 | h :: l => by
   have h1 := cat_len l
   have h2 := tk32 h
   simp only [Sp.cat, List.flatMap_cons, List.length_append, List.length_cons] at h1 ⊢
   omega
theorem cat_succ (l : List (List Int)) (j : Nat) (hj : j < l.length) : Sp.cat (l.take (j + 1)) = Sp.cat (l.take j) ++ (l.getD j (Ty.dflt (.arr 32 (.int .u8)))).take 32 := by
 have e : l.getD j (Ty.dflt (.arr 32 (.int .u8))) = l[j] := by simp [List.getD_eq_getElem?_getD, hj]
 rw [List.take_succ_eq_append_getElem hj, e]
 simp only [Sp.cat, List.flatMap_append, List.flatMap_cons, List.flatMap_nil, List.append_nil]
theorem leafE_loop (o : List Int) (l : List (List Int)) (hl : l.length < 1000000) : ∀ (d m j : Nat), j + d = l.length → d < m → L_88_0 m l l.length (j : Nat) o (Sp.cat (l.take j)) = some (.e0 o (Sp.cat l))
 | 0, m + 1, j, hj, _ => by
   rw [L_88_0, S_88_0, cond_dff (by omega), List.take_of_length_le (by omega)]
 | d + 1, m + 1, j, hj, hm => by
   have h1 := cat_len (l.take j)
   have h2 := tk32 (l.getD j (Ty.dflt (.arr 32 (.int .u8))))
   have h3 : (l.take j).length ≤ 1000000 := by rw [List.length_take]; omega
   rw [L_88_0, S_88_0, cond_dtt (by omega), gd_inB (by omega) (by omega), Int.toNat_natCast, List.drop_zero, gd_room (by omega) (by omega), wi64 (by omega) (by omega), ← cat_succ l j (by omega)]
   exact leafE_loop o l hl d m (j + 1) (by omega) (by omega)
theorem leafE_ok (l : List (List Int)) (hl : l.length < 1000000) : F_88 l = some (Sp.leafE l, ()) := by
 have h1 := cat_len l
 have hs : p_110 (Sp.cat l) = true ∧ v_110 (Sp.cat l) = (Sp.leafE l, ()) := pv_110 _ (i_sum _ (by omega))
 unfold F_88
 rw [show L_88_0 4611686018427387904 l l.length 0 (replicate 32 0) [] = _ from leafE_loop (replicate 32 0) l hl l.length 4611686018427387904 0 (by omega) (by omega)]
 simp only [B_88_0]
 rw [hs.1, hs.2, gd_tt]
theorem above_pv (a b : List Int) : p_89 a b = true ∧ v_89 a b = (Sp.node a b, ()) := pv_89 a b (above_ok a b)
theorem digL_len (h : List Int) : (Sp.digL h).length = 67 := by simp [Sp.digL, digs_len]
theorem dig_get (h : List Int) (n j : Nat) (hj : j < n) : (Sp.digs h n).getD j 0 = Sp.dig h j := by
 simp [Sp.digs, List.getD_eq_getElem?_getD, hj]
theorem digL_get (h : List Int) (j : Nat) (hj : j < 64) : (Sp.digL h).getD j 0 = Sp.dig h j := by
 unfold Sp.digL
 rw [List.getD_eq_getElem?_getD, List.getElem?_append_left (by rw [digs_len]; exact hj), ← List.getD_eq_getElem?_getD, dig_get h 64 j hj]
theorem digL_top (h : List Int) : (Sp.digL h).getD 64 0 = Sp.dsum h 64 / 256 ∧ (Sp.digL h).getD 65 0 = Sp.dsum h 64 / 16 % 16 ∧ (Sp.digL h).getD 66 0 = Sp.dsum h 64 % 16 := by
 unfold Sp.digL
 refine ⟨?_, ?_, ?_⟩ <;> (rw [List.getD_eq_getElem?_getD, List.getElem?_append_right (by rw [digs_len]; omega), digs_len]; rfl)
theorem digL_b {h : List Int} (hb : bytes h) (j : Nat) (hj : j < 67) : 0 ≤ (Sp.digL h).getD j 0 ∧ (Sp.digL h).getD j 0 ≤ 15 := by
 have b0 := dsum_b hb 64
 have t := digL_top h
 rcases Nat.lt_or_ge j 64 with h1 | h1
 · rw [digL_get h j h1]; exact dig_b hb j
 · rcases (show j = 64 ∨ j = 65 ∨ j = 66 by omega) with rfl | rfl | rfl
   · rw [t.1]; omega
   · rw [t.2.1]; omega
   · rw [t.2.2]; omega
/-- Something among the first n. -/
noncomputable def anyB (p : Nat → Bool) : Nat → Bool
 | 0 => false
 | n + 1 => anyB p n || p n
set_option maxRecDepth 100000
set_option maxHeartbeats 4000000
abbrev SigT := Int × List (List Int) × List (List Int) × PUnit
abbrev h0 : List Int := Ty.dflt (.arr 32 (.int .u8))
namespace Sp
noncomputable def shp (s : SigT) : Bool := decide (0 ≤ s.1) && (decide (s.1 < 4) && ((s.2.1.length : Int) == 67 && (s.2.2.1.length : Int) == 2))
noncomputable def vend (d : List Int) (c : List (List Int)) (n : Nat) : List (List Int) := (List.range n).map fun j : Nat => chn (15 - d.getD j 0).toNat (d.getD j 0) (c.getD j h0)
noncomputable def up (i : Int) (p e : List Int) : List Int := if i = 1 then node p e else node e p
noncomputable def verF (key dg : List Int) (s : SigT) : Bool := shp s && (up (s.1 / 2) (s.2.2.1.getD 1 h0) (up (s.1 % 2) (s.2.2.1.getD 0 h0) (leafE (vend (digL dg) s.2.1 67))) == key)
end Sp
theorem shp_ok (s : SigT) : F_85 s = some (Sp.shp s, ()) := by
 unfold F_85 Sp.shp
 by_cases h1 : s.1 ≥ 0
 · by_cases h2 : s.1 < 4
   · rw [cond_dtt h1, cond_dtt h2, decide_eq_true (show 0 ≤ s.1 from h1), decide_eq_true h2]
     cases ((s.2.1.length : Int) == 67) <;> rfl
   · rw [cond_dtt h1, cond_dff h2, decide_eq_false h2]; simp
 · rw [cond_dff h1, decide_eq_false (show ¬ 0 ≤ s.1 from h1)]; rfl
theorem vend_len (d : List Int) (c : List (List Int)) (n : Nat) : (Sp.vend d c n).length = n := by simp [Sp.vend]
theorem vend_succ (d : List Int) (c : List (List Int)) (n : Nat) : Sp.vend d c (n + 1) = Sp.vend d c n ++ [Sp.chn (15 - d.getD n 0).toNat (d.getD n 0) (c.getD n h0)] := by simp [Sp.vend, List.range_succ]
theorem ver_loop (key dg : List Int) (hb : bytes dg) (s : SigT) (hs : s.2.1.length = 67) : ∀ (d m j : Nat), j + d = 67 → d < m → L_62_0 m (Sp.digL dg) 67 (j : Nat) key s (Sp.vend (Sp.digL dg) s.2.1 j) = some (.e0 key s (Sp.vend (Sp.digL dg) s.2.1 67))
 | 0, m + 1, j, hj, _ => by
   rw [L_62_0, S_62_0, cond_dff (by omega), show j = 67 by omega]
 | d + 1, m + 1, j, hj, hm => by
   have hl := digL_len dg
   have hd := digL_b hb j (by omega)
   have h2 := pv_87 _ _ _ (chain_ok (s.2.1.getD j h0) ((Sp.digL dg).getD j 0) 15 hd.1 hd.2 (by decide))
   rw [L_62_0, S_62_0, cond_dtt (by omega), gd_inB (by omega) (by omega), gd_inB (by omega) (by omega), Int.toNat_natCast, h2.1, h2.2, gd_tt, gd_room (by rw [vend_len]; omega) (by rw [vend_len]; omega), wi64 (by omega) (by omega)]
   dsimp only
   rw [← vend_succ]
   exact ver_loop key dg hb s hs d m (j + 1) (by omega) (by omega)
set_option maxRecDepth 100000
set_option maxHeartbeats 4000000
theorem bit_of (i : Int) (h0 : 0 ≤ i) (h1 : i < 4) : (Sp.andI .i64 (Int.fdiv i (2 ^ Nat.min 0 64)) 1 = i % 2) ∧ (Sp.andI .i64 (Int.fdiv i (2 ^ Nat.min 1 64)) 1 = i / 2) := by
 rcases (show i = 0 ∨ i = 1 ∨ i = 2 ∨ i = 3 by omega) with rfl | rfl | rfl | rfl <;> exact ⟨by kernel_rfl, by kernel_rfl⟩
theorem up_step (m : Nat) (p : List (List Int)) (hp : p.length = 2) (j : Nat) (hj : j < 2) (key : List Int) (s : SigT) (e : List Int) (b : Int) (hb : Sp.andI .i64 (Int.fdiv s.1 (2 ^ Nat.min j 64)) 1 = b) : L_62_1 (m + 1) p 2 (j : Nat) key s e = L_62_1 m p 2 ((j : Int) + 1) key s (Sp.up b (p.getD j h0) e) := by
 have a1 := above_pv (p.getD j h0) e
 have a2 := above_pv e (p.getD j h0)
 rw [L_62_1, S_62_1, cond_dtt (by omega), gd_inB (by omega) (by omega), gd_dec (by omega), Int.toNat_natCast, hb, wi64 (by omega) (by omega)]
 by_cases h : b = 1
 · rw [cond_ett h, a1.1, a1.2, gd_tt, Sp.up, if_pos h]
 · rw [cond_eff h, a2.1, a2.2, gd_tt, Sp.up, if_neg h]
theorem up_loop (m : Nat) (hm : 3 ≤ m) (p : List (List Int)) (hp : p.length = 2) (key : List Int) (s : SigT) (e : List Int) (h0' : 0 ≤ s.1) (h1' : s.1 < 4) : L_62_1 m p 2 0 key s e = some (.e0 key (Sp.up (s.1 / 2) (p.getD 1 h0) (Sp.up (s.1 % 2) (p.getD 0 h0) e))) := by
 obtain ⟨m, rfl⟩ : ∃ k, m = k + 3 := ⟨m - 3, by omega⟩
 have hb := bit_of s.1 h0' h1'
 have s1 := up_step (m + 2) p hp 0 (by omega) key s e _ hb.1
 have s2 := up_step (m + 1) p hp 1 (by omega) key s (Sp.up (s.1 % 2) (p.getD 0 h0) e) _ hb.2
 refine s1.trans (s2.trans ?_)
 show L_62_1 (m + 1) p 2 2 key s _ = _
 rw [L_62_1, S_62_1, cond_dff (by decide)]
theorem shp_spec {s : SigT} (h : Sp.shp s = true) : 0 ≤ s.1 ∧ s.1 < 4 ∧ s.2.1.length = 67 ∧ s.2.2.1.length = 2 := by
 simp only [Sp.shp, Bool.and_eq_true, decide_eq_true_eq, beq_iff_eq] at h
 omega
theorem verify_ok (key dg : List Int) (hb : bytes dg) (s : SigT) : F_62 key dg s = some (Sp.verF key dg s, ()) := by
 have a := pv_85 _ (shp_ok s)
 unfold F_62 Sp.verF
 rw [a.1, a.2, gd_tt]
 cases hs : Sp.shp s
 · rfl
 · obtain ⟨h1, h2, h3, h4⟩ := shp_spec hs
   have d := pv_86 _ (i_digits dg hb)
   have l := pv_88 _ (leafE_ok (Sp.vend (Sp.digL dg) s.2.1 67) (by rw [vend_len]; omega))
   rw [d.1, d.2, gd_tt]
   dsimp only
   rw [digL_len]
   simp only [Bool.not_true, cond_f]
   rw [show L_62_0 4611686018427387904 (Sp.digL dg) ((67 : Nat) : Int) 0 key s [] = _ from ver_loop key dg hb s h3 67 4611686018427387904 0 (by omega) (by omega)]
   simp only [B_62_0]
   rw [l.1, l.2, gd_tt]
   dsimp only
   rw [h4]
   rw [show L_62_1 4611686018427387904 s.2.2.1 ((2 : Nat) : Int) 0 key s (Sp.leafE (Sp.vend (Sp.digL dg) s.2.1 67)) = _ from up_loop _ (by omega) s.2.2.1 h4 key s _ h1 h2]
   simp only [B_62_1, arr_beq, Bool.true_and]
namespace Sp
noncomputable def wd (a b c d : Int) : Int := orI .u32 (orI .u32 (orI .u32 (wrap .u32 (wrap .u32 a * 16777216)) (wrap .u32 (wrap .u32 b * 65536))) (wrap .u32 (wrap .u32 c * 256))) (wrap .u32 d)
noncomputable def hwd (h : List Int) (i : Nat) : Int := wd (h.getD (4 * i) 0) (h.getD (4 * i + 1) 0) (h.getD (4 * i + 2) 0) (h.getD (4 * i + 3) 0)
noncomputable def hws (h : List Int) (n : Nat) : List Int := (List.range n).map (hwd h)
noncomputable def cws (l : List (List Int)) : List Int := l.flatMap fun h => hws h 8
noncomputable def wordsF (s : SigT) : List Int := [wrap .u32 s.1] ++ cws s.2.1 ++ cws s.2.2.1
end Sp
theorem hws_len (h : List Int) (n : Nat) : (Sp.hws h n).length = n := by simp [Sp.hws]
theorem hws_succ (h : List Int) (n : Nat) : Sp.hws h (n + 1) = Sp.hws h n ++ [Sp.hwd h n] := by simp [Sp.hws, List.range_succ]
theorem cws_len : ∀ l : List (List Int), (Sp.cws l).length = 8 * l.length
 | [] => rfl
 | h :: l => by
   have := cws_len l
   simp only [Sp.cws, List.flatMap_cons, List.length_append, List.length_cons, hws_len] at this ⊢
   omega
theorem cws_succ (l : List (List Int)) (j : Nat) (hj : j < l.length) : Sp.cws (l.take (j + 1)) = Sp.cws (l.take j) ++ Sp.hws (l.getD j h0) 8 := by
 rw [List.take_succ_eq_append_getElem hj, getD_at _ hj]
 simp only [Sp.cws, List.flatMap_append, List.flatMap_cons, List.flatMap_nil, List.append_nil]
theorem seg_get (h : List Int) (hl : h.length = 32) (i k : Nat) (hi : i < 8) (hk : k < 4) : (take (32 - 4 * i) (drop (4 * i) h)).getD k 0 = h.getD (4 * i + k) 0 := by
 rw [List.getD_eq_getElem?_getD, List.getD_eq_getElem?_getD, List.getElem?_take, if_pos (by omega), List.getElem?_drop]
theorem sword_ok (h : List Int) (hl : h.length = 32) (i : Nat) (hi : i < 8) : F_100 (take (32 - 4 * i) (drop (4 * i) h)) = some (Sp.hwd h i, ()) := by
 have hlen : (take (32 - 4 * i) (drop (4 * i) h)).length = 32 - 4 * i := by simp; omega
 unfold F_100
 rw [hlen, gd_inB (by omega) (by omega), gd_inB (by omega) (by omega), gd_inB (by omega) (by omega), gd_inB (by omega) (by omega), seg_get h hl i 0 hi (by omega), seg_get h hl i 1 hi (by omega), seg_get h hl i 2 hi (by omega), seg_get h hl i 3 hi (by omega)]
 rfl
set_option maxRecDepth 100000
set_option maxHeartbeats 4000000
namespace Sp
noncomputable def byt (w : List Int) (k i : Nat) : Int := wrap .u8 (Int.fdiv (w.getD (1 + 8 * k + i / 4) 0) (2 ^ (24 - 8 * (i % 4))))
noncomputable def rdp (w : List Int) (k n : Nat) : List Int := (List.range 32).map fun i => if i < n then byt w k i else 0
noncomputable def rdh (w : List Int) (k : Nat) : List Int := (List.range 32).map (byt w k)
noncomputable def rdC (w : List Int) (n : Nat) : List (List Int) := (List.range (min n 67)).map (rdh w)
noncomputable def rdP (w : List Int) (n : Nat) : List (List Int) := (List.range (n - 67)).map fun j => rdh w (67 + j)
noncomputable def rd (w : List Int) : SigT := (wrap .i64 (w.getD 0 0), rdC w 69, rdP w 69, ())
noncomputable def okw (w : List Int) : Bool := decide (w.length = 553) && decide (w.getD 0 0 < 4)
end Sp
theorem rdp_zero (w : List Int) (k : Nat) : Sp.rdp w k 0 = replicate 32 0 := by
 unfold Sp.rdp
 apply List.ext_getElem
 · simp
 · intro i h1 h2; rw [List.getElem_replicate, List.getElem_map, List.getElem_range, if_neg (by omega)]
theorem rdp_full (w : List Int) (k : Nat) : Sp.rdp w k 32 = Sp.rdh w k := by
 unfold Sp.rdp Sp.rdh
 refine List.map_congr_left fun i hi => ?_
 rw [if_pos (by simpa using hi)]
theorem set_map (f : Nat → Int) (n a : Nat) (v : Int) : ((List.range n).map f).set a v = (List.range n).map fun i => if i = a then v else f i := by
 apply List.ext_getElem
 · simp
 · intro i h1 h2
   simp only [List.getElem_set, List.getElem_map, List.getElem_range]
   by_cases h : a = i
   · subst h; simp
   · rw [if_neg h, if_neg (fun e => h e.symm)]
theorem rdp_set (w : List Int) (k n : Nat) : (Sp.rdp w k n).set n (Sp.byt w k n) = Sp.rdp w k (n + 1) := by
 unfold Sp.rdp
 rw [set_map]
 refine List.map_congr_left fun i _ => ?_
 by_cases h : i = n
 · subst h; rw [if_pos rfl, if_pos (by omega)]
 · rw [if_neg h]
   by_cases h2 : i < n
   · rw [if_pos h2, if_pos (by omega)]
   · rw [if_neg h2, if_neg (by omega)]
theorem byt_at (w : List Int) (k j r : Nat) (hr : r < 4) : Sp.byt w k (4 * j + r) = wrap .u8 (Int.fdiv (w.getD (1 + 8 * k + j) 0) (2 ^ (24 - 8 * r))) := by
 unfold Sp.byt
 rw [show (4 * j + r) / 4 = j by omega, show (4 * j + r) % 4 = r by omega]
theorem fdiv_one (x : Int) : Int.fdiv x (2 ^ 0) = x := by simp
theorem rd_inner (w : List Int) (hw : w.length = 553) (k : Nat) (hk : k < 69) (p2 p4 : Int) (p5 p6 : List (List Int)) (p7 : Int) (p8 p9 : List (List Int)) : L_117_1 4611686018427387904 w k p2 0 p4 p5 p6 p7 p8 p9 (replicate 32 0) = some (.e0 w k p2 p4 p5 p6 p7 p8 p9 (Sp.rdh w k)) := by
 have := run0 (fun m i s => L_117_1 m w k p2 i p4 p5 p6 p7 p8 p9 s) (n := 8) (fun j => Sp.rdp w k (4 * j)) (r := some (.e0 w k p2 p4 p5 p6 p7 p8 p9 (Sp.rdh w k))) (by decide) (fun m j hj => by
   show L_117_1 (m + 1) w k p2 (j : Int) p4 p5 p6 p7 p8 p9 (Sp.rdp w k (4 * j)) = _
   have e0 : wrap .i64 (4 * (j : Int)) = 4 * (j : Int) := wi64 (by omega) (by omega)
   have e1 : wrap .i64 (wrap .i64 (1 + wrap .i64 (8 * (k : Int))) + (j : Int)) = ((1 + 8 * k + j : Nat) : Int) := by
     rw [wi64 (n := 8 * (k : Int)) (by omega) (by omega), wi64 (n := 1 + 8 * (k : Int)) (by omega) (by omega), wi64 (by omega) (by omega)]; omega
   have e2 : toNat (4 * (j : Int)) = 4 * j := by omega
   rw [L_117_1, S_117_1, cond_dtt (by omega), e0, e1, e2, Int.toNat_natCast, gd_sl3 (by omega) (by omega) (by omega), gd_inB (by omega) (by omega), gd_inB (by omega) (by omega), gd_inB (by omega) (by omega), gd_inB (by omega) (by omega), gd_inB (by omega) (by omega), Bool.and_true, Bool.and_true, Bool.and_true, Bool.and_true, gd_dec (by omega), gd_dec (by omega), gd_dec (by omega), gd_dec (by omega), wi64 (n := (j : Int) + 1) (by omega) (by omega)]
   have b0 := byt_at w k j 0 (by decide)
   have b1 := byt_at w k j 1 (by decide)
   have b2 := byt_at w k j 2 (by decide)
   have b3 := byt_at w k j 3 (by decide)
   rw [show (24 - 8 * 3 : Nat) = 0 from rfl, fdiv_one] at b3
   have f0 : (16777216 : Int) = 2 ^ (24 - 8 * 0) := by decide
   have f1 : (65536 : Int) = 2 ^ (24 - 8 * 1) := by decide
   have f2 : (256 : Int) = 2 ^ (24 - 8 * 2) := by decide
   have s0 : (Sp.rdp w k (4 * j)).set (4 * j + 0) (Sp.byt w k (4 * j + 0)) = Sp.rdp w k (4 * j + 1) := rdp_set w k (4 * j)
   have s1 : (Sp.rdp w k (4 * j + 1)).set (4 * j + 1) (Sp.byt w k (4 * j + 1)) = Sp.rdp w k (4 * j + 2) := rdp_set w k (4 * j + 1)
   have s2 : (Sp.rdp w k (4 * j + 2)).set (4 * j + 2) (Sp.byt w k (4 * j + 2)) = Sp.rdp w k (4 * j + 3) := rdp_set w k (4 * j + 2)
   have s3 : (Sp.rdp w k (4 * j + 3)).set (4 * j + 3) (Sp.byt w k (4 * j + 3)) = Sp.rdp w k (4 * (j + 1)) := rdp_set w k (4 * j + 3)
   rw [f0, f1, f2, ← b0, ← b1, ← b2, ← b3, s0, s1, s2, s3]
   rfl) (fun m => by
   show L_117_1 (m + 1) w k p2 8 p4 p5 p6 p7 p8 p9 (Sp.rdp w k 32) = _
   rw [L_117_1, S_117_1, cond_dff (by decide), rdp_full])
 rw [← rdp_zero w k]
 exact this
theorem rdC_len (w : List Int) (n : Nat) : (Sp.rdC w n).length = min n 67 := by simp [Sp.rdC]
theorem rdP_len (w : List Int) (n : Nat) : (Sp.rdP w n).length = n - 67 := by simp [Sp.rdP]
theorem rd_succ (w : List Int) (k : Nat) : (k < 67 → Sp.rdC w (k + 1) = Sp.rdC w k ++ [Sp.rdh w k] ∧ Sp.rdP w (k + 1) = Sp.rdP w k) ∧ (67 ≤ k → Sp.rdC w (k + 1) = Sp.rdC w k ∧ Sp.rdP w (k + 1) = Sp.rdP w k ++ [Sp.rdh w k]) := by
 refine ⟨fun h => ?_, fun h => ?_⟩
 · unfold Sp.rdC Sp.rdP
   rw [Nat.min_eq_left (by omega), Nat.min_eq_left (by omega), show k + 1 - 67 = 0 by omega, show k - 67 = 0 by omega, List.range_succ, List.map_append]
   exact ⟨rfl, rfl⟩
 · unfold Sp.rdC Sp.rdP
   rw [Nat.min_eq_right (by omega), Nat.min_eq_right (by omega), show k + 1 - 67 = (k - 67) + 1 by omega, List.range_succ (n := k - 67), List.map_append]
   refine ⟨rfl, ?_⟩
   simp only [List.map_cons, List.map_nil, show 67 + (k - 67) = k by omega]
theorem rd_outer (w : List Int) (hw : w.length = 553) (x : Int) : L_117_0 4611686018427387904 w 0 0 [] [] x [] [] = some (.e0 0 [] [] x (Sp.rdC w 69) (Sp.rdP w 69)) := by
 have := run0 (fun m i (s : List (List Int) × List (List Int)) => L_117_0 m w i 0 [] [] x s.1 s.2) (n := 69) (fun j => (Sp.rdC w j, Sp.rdP w j)) (r := some (.e0 0 [] [] x (Sp.rdC w 69) (Sp.rdP w 69))) (by decide) (fun m j hj => by
   show L_117_0 (m + 1) w (j : Int) 0 [] [] x (Sp.rdC w j) (Sp.rdP w j) = L_117_0 m w ((j + 1 : Nat) : Int) 0 [] [] x (Sp.rdC w (j + 1)) (Sp.rdP w (j + 1))
   have l1 := rdC_len w j
   have l2 := rdP_len w j
   rw [L_117_0, S_117_0, cond_dtt (by omega), rd_inner w hw j hj]
   simp only [B_117_1]
   rw [wi64 (by omega) (by omega)]
   by_cases h : j < 67
   · rw [cond_dtt (by omega), gd_room (by omega) (by omega), ((rd_succ w j).1 h).1, ((rd_succ w j).1 h).2]; rfl
   · rw [cond_dff (by omega), gd_room (by omega) (by omega), ((rd_succ w j).2 (by omega)).1, ((rd_succ w j).2 (by omega)).2]; rfl) (fun m => by
   show L_117_0 (m + 1) w 69 0 [] [] x (Sp.rdC w 69) (Sp.rdP w 69) = _
   rw [L_117_0, S_117_0, cond_dff (by decide)])
 exact this
theorem read_ok (w : List Int) : F_117 w = some (if Sp.okw w = true then (Sp.rd w, 0, ()) else ((0, [], [], ()), 3, ())) := by
 unfold F_117 Sp.okw
 by_cases h1 : w.length = 553
 · rw [cond_nff (by omega), decide_eq_true h1, gd_inB (by omega) (by omega)]
   by_cases h2 : w.getD 0 0 < 4
   · rw [cond_dff (by omega), decide_eq_true h2, gd_inB (by omega) (by omega), rd_outer w h1]
     rfl
   · rw [cond_dtt (by omega), decide_eq_false h2]; rfl
 · rw [cond_ntt (by omega), decide_eq_false h1]; rfl
set_option maxRecDepth 100000
set_option maxHeartbeats 4000000
abbrev HdT := (Int × Int × List Int × (Int × List (List Int) × List (List Int) × Unit) × Unit) × Bool × Unit
structure HdO (n : Nat) (v : HdT) : Prop where
 v0 : 1 ≤ v.1.1
 v1 : v.1.1 ≤ 2147483647
 s0 : 1 ≤ v.1.2.1
 s1 : v.1.2.1 ≤ (n : Int) - 564
 b : bytes v.1.2.2.1
abbrev hdF : HdT := ((0, 0, replicate 32 0, (0, [], [], ()), ()), false, ())
theorem hdF_o {n : Nat} (h : hdF.2.1 = true) : HdO n hdF := Bool.noConfusion h
theorem over_b {x y : List Int} {n : Nat} (hx : bytes x) (hy : bytes y) : bytes (over x n y) := by
 intro z hz
 unfold over at hz
 rcases List.mem_append.1 hz with h | h
 · rcases List.mem_append.1 h with h | h
   · exact hx z (List.mem_of_mem_take h)
   · exact hy z h
 · exact hx z (List.mem_of_mem_drop h)
theorem head_ok (w : List Int) (h0 : 576 ≤ w.length) (h1 : w.length ≤ 2048) : ∃ v, F_98 w = some v ∧ (v.2.1 = true → HdO w.length v) := by
 have t1 : (take 1 (drop 1 w)).length = 1 := by rw [List.length_take, List.length_drop]; omega
 have t2 : (take 1 (drop 2 w)).length = 1 := by rw [List.length_take, List.length_drop]; omega
 obtain ⟨o, hs, hl, hb⟩ := spr_ok (take 8 (drop 3 w)) (by rw [List.length_take]; omega)
 have hs := pv_116 _ hs
 have hr := pv_117 _ (read_ok (take 553 (drop 11 w)))
 unfold F_98
 rw [gd_sl3 (by omega) (by omega) (by omega), gd_dec (by omega), gd_inB (by omega) (by rw [t1]; decide), gd_dec (by omega), gd_inB (by omega) (by rw [t2]; decide), gd_dec (by omega), hs.1, hs.2, gd_tt, gd_sl3 (by omega) (by omega) (by omega), hr.1, gd_tt, wi64 (n := (w.length : Int) - 564) (by omega) (by omega)]
 generalize v_117 (take 553 (drop 11 w)) = r
 generalize wrap .i64 (getD (take 1 (drop 1 w)) 0 0) = ver
 generalize wrap .i64 (getD (take 1 (drop 2 w)) 0 0) = sz
 by_cases e : r.2.1 = 0
 rotate_left
 · exact ⟨hdF, by rw [cond_ntt e], hdF_o⟩
 rw [cond_nff e]
 by_cases e1 : ver < 1
 · exact ⟨hdF, by rw [cond_dtt e1], hdF_o⟩
 rw [cond_dff e1]
 by_cases e2 : ver > 2147483647
 · exact ⟨hdF, by rw [cond_dtt e2], hdF_o⟩
 rw [cond_dff e2]
 by_cases e3 : sz < 1
 · exact ⟨hdF, by rw [cond_dtt e3], hdF_o⟩
 rw [cond_dff e3]
 by_cases e4 : sz > (w.length : Int) - 564
 · exact ⟨hdF, by rw [cond_dtt e4], hdF_o⟩
 rw [cond_dff e4]
 refine ⟨_, rfl, fun _ => ⟨by show 1 ≤ ver; omega, by show ver ≤ 2147483647; omega, by show 1 ≤ sz; omega, by show sz ≤ _; omega, ?_⟩⟩
 refine over_b ?_ ?_
 · intro x hx; rw [List.eq_of_mem_replicate hx]; decide
 · exact fun x hx => hb x (List.mem_of_mem_take hx)
theorem hdr_ok {a : BayT} (h : BV a) (hb : Sp.bvb a = true) (k : Nat) (hk : k < 2) : ∃ v, F_71 a k = some v ∧ (v.2.1 = true → HdO (Sp.hlf a) v) := by
 obtain ⟨v, hv, ho⟩ := head_ok (Sp.wds a k) (by rw [wds_len h k hk]; exact h.h0) (by rw [wds_len h k hk]; exact h.h1)
 rw [wds_len h k hk] at ho
 have hv := pv_98 _ hv
 refine ⟨v, ?_, ho⟩
 unfold F_71
 rw [(val_pv a).1, (val_pv a).2, gd_tt, (bank_pv k).1, (bank_pv k).2, gd_tt, (words_pv h k hk).1, (words_pv h k hk).2, gd_tt, hv.1, hv.2, gd_tt, hb, bank_nat k hk]
 rfl
theorem hdr_pv {a : BayT} (h : BV a) (hb : Sp.bvb a = true) (k : Nat) (hk : k < 2) : p_71 a k = true ∧ ((v_71 a k).2.1 = true → HdO (Sp.hlf a) (v_71 a k)) := by
 obtain ⟨v, hv, ho⟩ := hdr_ok h hb k hk
 have := pv_71 a k hv
 exact ⟨this.1, by rw [this.2]; exact ho⟩
theorem good_ok {a : BayT} (h : BV a) (hb : Sp.bvb a = true) (k : Nat) (hk : k < 2) : ∃ g : Bool, F_109 a k = some (g, ()) ∧ (g = true → (v_71 a k).2.1 = true) := by
 have hh := hdr_pv h hb k hk
 have hl := wds_len h k hk
 have h0 := h.h0
 have h1 := h.h1
 unfold F_109
 rw [hh.1, gd_tt]
 cases e : (v_71 a k).2.1
 · exact ⟨false, rfl, id⟩
 have o := hh.2 e
 have o1 := o.s0
 have o2 := o.s1
 rw [(words_pv h k hk).1, (words_pv h k hk).2, gd_tt]
 have c := pv_119 _ (cat_ok (take 2 (drop 1 (Sp.wds a k))) (take (toNat (wrap .i64 (564 + (v_71 a k).1.2.1)) - 564) (drop 564 (Sp.wds a k))) (by rw [List.length_take]; omega) (by rw [List.length_take, List.length_drop]; omega))
 have cl : (take 2 (drop 1 (Sp.wds a k)) ++ take (toNat (wrap .i64 (564 + (v_71 a k).1.2.1)) - 564) (drop 564 (Sp.wds a k))).length ≤ 10000 := by rw [List.length_append, List.length_take, List.length_take, List.length_drop, List.length_drop]; omega
 obtain ⟨q, hq, ql, qb⟩ := spr_ok (take 2 (drop 1 (Sp.wds a k)) ++ take (toNat (wrap .i64 (564 + (v_71 a k).1.2.1)) - 564) (drop 564 (Sp.wds a k))) (by omega)
 have hq := pv_116 _ hq
 have hs := pv_110 _ (i_sum q (by omega))
 have hv := pv_62 _ _ _ (verify_ok a.2.1 (v_71 a k).1.2.2.1 o.b (v_71 a k).1.2.2.2.1)
 dsimp only
 rw [gd_sl3 (by omega) (by omega) (by omega), gd_sl3 (lo := 564) (by omega) (by rw [wi64 (by omega) (by omega)]; omega) (by rw [wi64 (by omega) (by omega)]; omega), c.1, c.2, gd_tt, show ((take 2 (drop 1 (Sp.wds a k)) ++ take (toNat (wrap .i64 (564 + (v_71 a k).1.2.1)) - 564) (drop 564 (Sp.wds a k))), ()).1 = (take 2 (drop 1 (Sp.wds a k)) ++ take (toNat (wrap .i64 (564 + (v_71 a k).1.2.1)) - 564) (drop 564 (Sp.wds a k))) from rfl, hq.1, hq.2, gd_tt, hs.1, hs.2, gd_tt, hv.1, hv.2, gd_tt]
 cases Ty.beq (.arr 32 (.int .u8)) (Sp.sha q) (v_71 a k).1.2.2.1
 · exact ⟨false, rfl, fun _ => rfl⟩
 · exact ⟨_, rfl, fun _ => rfl⟩
theorem good_pv {a : BayT} (h : BV a) (hb : Sp.bvb a = true) (k : Nat) (hk : k < 2) : p_109 a k = true ∧ ((v_109 a k).1 = true → (v_71 a k).2.1 = true) := by
 obtain ⟨g, hg, ho⟩ := good_ok h hb k hk
 have := pv_109 a k hg
 exact ⟨this.1, by rw [this.2]; exact ho⟩
namespace Sp
noncomputable def acb (a : BayT) (k : Nat) : Bool := a.1.1.getD (k * hlf a) 0 == 0
noncomputable def gdb (a : BayT) (k : Nat) : Bool := (v_109 a k).1
noncomputable def vr (a : BayT) (k : Nat) : Int := (v_71 a k).1.1
noncomputable def cnd (a : BayT) (k : Nat) : Bool := acb a k && gdb a k
noncomputable def sel (a : BayT) : Int × Int × Unit := bif cnd a 0 then (bif cnd a 1 && decide (vr a 1 > vr a 0) then (1, 0, ()) else (0, 0, ())) else bif cnd a 1 then (1, 0, ()) else (0, 7, ())
end Sp
structure BB (a : BayT) : Prop where
 v : BV a
 b : Sp.bvb a = true
theorem BB.vr1 {a : BayT} (h : BB a) (k : Nat) (hk : k < 2) (hg : Sp.gdb a k = true) : (v_71 a k).2.1 = true ∧ 1 ≤ Sp.vr a k := by
 have o := (good_pv h.v h.b k hk).2 hg
 exact ⟨o, ((hdr_pv h.v h.b k hk).2 o).v0⟩
theorem sel_step {a : BayT} (h : BB a) (k : Nat) (hk : k < 2) (m : Nat) (b v : Int) : L_82_0 (m + 1) b v k a = bif decide (Sp.vr a k > v) && Sp.cnd a k then L_82_0 m k (Sp.vr a k) ((k + 1 : Nat) : Int) a else L_82_0 m b v ((k + 1 : Nat) : Int) a := by
 have e : wrap .i64 ((k : Int) + 1) = ((k + 1 : Nat) : Int) := by rw [wi64 (by omega) (by omega)]; push_cast; rfl
 have hg := h.vr1 k hk
 rw [L_82_0, S_82_0, cond_dtt (by omega), (hdr_pv h.v h.b k hk).1, gd_tt, (act_pv h.v k hk).1, (act_pv h.v k hk).2, gd_tt, (good_pv h.v h.b k hk).1, gd_tt, e]
 show (bif (v_71 a k).2.1 then bif decide (Sp.vr a k > v) then bif Sp.acb a k then bif Sp.gdb a k then _ else _ else _ else _ else _) = _
 unfold Sp.cnd
 cases e1 : Sp.gdb a k
 · cases (v_71 a k).2.1 <;> cases decide (Sp.vr a k > v) <;> cases Sp.acb a k <;> rfl
 · rw [(hg e1).1]
   cases decide (Sp.vr a k > v) <;> cases Sp.acb a k <;> rfl
theorem sel_ok {a : BayT} (h : BB a) : F_82 a = some (Sp.sel a) := by
 have l : ∃ b v, L_82_0 4611686018427387904 0 0 0 a = some (.e0 b v) ∧ (bif v == 0 then (0, 7, ()) else (b, 0, ())) = Sp.sel a := by
   have s0 := sel_step h 0 (by decide) 4611686018427387903 0 0
   have s1 := fun b v => sel_step h 1 (by decide) 4611686018427387902 b v
   have s2 : ∀ b v, L_82_0 4611686018427387902 b v ((2 : Nat) : Int) a = some (.e0 b v) := fun b v => by
     show L_82_0 (4611686018427387901 + 1) b v 2 a = _
     rw [L_82_0, S_82_0, cond_dff (by decide)]
   have g0 := h.vr1 0 (by decide)
   have g1 := h.vr1 1 (by decide)
   have k0 : Sp.cnd a 0 = true → 1 ≤ Sp.vr a 0 := fun e => (g0 ((Bool.and_eq_true_iff.1 e).2)).2
   have k1 : Sp.cnd a 1 = true → 1 ≤ Sp.vr a 1 := fun e => (g1 ((Bool.and_eq_true_iff.1 e).2)).2
   unfold Sp.sel
   cases c0 : Sp.cnd a 0 <;> cases c1 : Sp.cnd a 1
   · rw [c0, Bool.and_false, cond_f] at s0
     have s1 := s1 0 0
     rw [c1, Bool.and_false, cond_f] at s1
     exact ⟨0, 0, s0.trans (s1.trans (s2 ..)), rfl⟩
   · rw [c0, Bool.and_false, cond_f] at s0
     have s1 := s1 0 0
     rw [c1, Bool.and_true, cond_dtt (by have := k1 c1; omega)] at s1
     exact ⟨1, Sp.vr a 1, s0.trans (s1.trans (s2 ..)), by rw [cond_eff (by have := k1 c1; omega)]; rfl⟩
   · rw [c0, Bool.and_true, cond_dtt (by have := k0 c0; omega)] at s0
     have s1 := s1 0 (Sp.vr a 0)
     rw [c1, Bool.and_false, cond_f] at s1
     exact ⟨0, Sp.vr a 0, s0.trans (s1.trans (s2 ..)), by rw [cond_eff (by have := k0 c0; omega)]; rfl⟩
   · rw [c0, Bool.and_true, cond_dtt (by have := k0 c0; omega)] at s0
     have s1 := s1 0 (Sp.vr a 0)
     rw [c1, Bool.and_true] at s1
     by_cases e : Sp.vr a 1 > Sp.vr a 0
     · rw [cond_dtt e] at s1
       exact ⟨1, Sp.vr a 1, s0.trans (s1.trans (s2 ..)), by rw [cond_eff (by have := k1 c1; omega), decide_eq_true e]; rfl⟩
     · rw [cond_dff e] at s1
       exact ⟨0, Sp.vr a 0, s0.trans (s1.trans (s2 ..)), by rw [cond_eff (by have := k0 c0; omega), decide_eq_false e]; rfl⟩
 obtain ⟨b, v, hl, hr⟩ := l
 unfold F_82
 rw [(val_pv a).1, (val_pv a).2, gd_tt, h.b, ← hr, show (!(true, ()).1) = false from rfl, cond_f]
 refine (congrArg (fun z => B_82_0 z _) hl).trans ?_
 show (bif v == 0 then some (0, 7, ()) else some (b, 0, ())) = _
 cases v == 0 <;> rfl
theorem sel_pv {a : BayT} (h : BB a) : p_82 a = true ∧ v_82 a = Sp.sel a := pv_82 a (sel_ok h)
theorem atv_pv {a : BayT} (h : BB a) : p_54 a = true ∧ v_54 a = ((Sp.sel a).1, (Sp.sel a).2.1 == 0, ()) := by
 refine pv_54 a ?_
 unfold F_54
 rw [(sel_pv h).1, (sel_pv h).2, gd_tt]
namespace Sp
/-- The selected bank. -/
noncomputable def sb (a : BayT) : Nat := bif cnd a 0 then (bif cnd a 1 && decide (vr a 1 > vr a 0) then 1 else 0) else bif cnd a 1 then 1 else 0
noncomputable def has (a : BayT) : Bool := cnd a 0 || cnd a 1
noncomputable def lst (a : BayT) : Int := bif has a then vr a (sb a) else 0
end Sp
theorem sb_lt (a : BayT) : Sp.sb a < 2 := by
 unfold Sp.sb
 cases Sp.cnd a 0 <;> cases Sp.cnd a 1 <;> cases decide (Sp.vr a 1 > Sp.vr a 0) <;> decide
theorem sel_eq (a : BayT) : (Sp.sel a).1 = (Sp.sb a : Int) ∧ ((Sp.sel a).2.1 == 0) = Sp.has a := by
 unfold Sp.sb Sp.sel Sp.has
 cases Sp.cnd a 0 <;> cases Sp.cnd a 1 <;> cases decide (Sp.vr a 1 > Sp.vr a 0) <;> exact ⟨rfl, rfl⟩
theorem atv {a : BayT} (h : BB a) : p_54 a = true ∧ v_54 a = ((Sp.sb a : Int), Sp.has a, ()) := by
 rw [← (sel_eq a).1, ← (sel_eq a).2]
 exact atv_pv h
theorem lst_pv {a : BayT} (h : BB a) : p_34 a = true ∧ v_34 a = (Sp.lst a, ()) := by
 refine pv_34 a ?_
 unfold F_34 Sp.lst
 rw [(atv h).1, (atv h).2, gd_tt]
 show (bif !(Sp.has a) then some (0, ()) else gd (p_71 a (Sp.sb a)) (some ((v_71 a (Sp.sb a)).1.1, ()))) = _
 rw [(hdr_pv h.v h.b _ (sb_lt a)).1, gd_tt]
 cases Sp.has a <;> rfl
theorem cnd_sb {a : BayT} (h : Sp.has a = true) : Sp.cnd a (Sp.sb a) = true := by
 unfold Sp.has at h
 unfold Sp.sb
 cases c0 : Sp.cnd a 0 <;> cases c1 : Sp.cnd a 1
 · rw [c0, c1] at h; exact Bool.noConfusion h
 · exact c1
 · exact c0
 · cases decide (Sp.vr a 1 > Sp.vr a 0)
   · exact c0
   · exact c1
set_option maxRecDepth 100000
set_option maxHeartbeats 4000000
theorem hloop (h : List Int) (hl : h.length = 32) (p1 p2 : Int) (p3 : List (List Int)) (p4 p5 : Int) (p6 : List Int) (h6 : p6.length ≤ 1000000) (p8 : List (List (List Int))) : L_74_2 4611686018427387904 0 p1 p2 p3 p4 p5 p6 h p8 = some (.e0 p1 p2 p3 p4 p5 (p6 ++ Sp.hws h 8) p8) := by
 have := run0 (fun m i s => L_74_2 m (4 * i) p1 p2 p3 p4 p5 s h p8) (n := 8) (fun j => p6 ++ Sp.hws h j) (r := some (.e0 p1 p2 p3 p4 p5 (p6 ++ Sp.hws h 8) p8)) (by decide) (fun m j hj => by
   have hp := pv_100 _ (sword_ok h hl j hj)
   have e : toNat (4 * (j : Int)) = 4 * j := by omega
   show L_74_2 (m + 1) (4 * (j : Int)) p1 p2 p3 p4 p5 (p6 ++ Sp.hws h j) h p8 = _
   rw [L_74_2, S_74_2, cond_dtt (by omega), gd_sl3 (by omega) (by omega) (by omega), e, hp.1, hp.2, Bool.and_true, Bool.and_true, gd_dec (by omega), gd_room (by rw [List.length_append, hws_len]; omega) (by rw [List.length_append, hws_len]; omega), wi64 (by omega) (by omega), hws_succ, List.append_assoc, show 4 * (j : Int) + 4 = 4 * ((j + 1 : Nat) : Int) by omega]) (fun m => by
   show L_74_2 (m + 1) 32 p1 p2 p3 p4 p5 (p6 ++ Sp.hws h 8) h p8 = _
   rw [L_74_2, S_74_2, cond_dff (by decide)])
 simpa [Sp.hws] using this
theorem cloop (p0 p1 : Int) (l : List (List Int)) (hl : ∀ h ∈ l, h.length = 32) (hn : l.length ≤ 1000) (p5 : List Int) (h5 : p5.length ≤ 100000) (p6 : List (List (List Int))) : L_74_1 4611686018427387904 p0 p1 l l.length 0 p5 p6 = some (.e0 p0 p1 (p5 ++ Sp.cws l) p6) := by
 have := run0 (fun m i s => L_74_1 m p0 p1 l l.length i s p6) (n := l.length) (fun j => p5 ++ Sp.cws (l.take j)) (r := some (.e0 p0 p1 (p5 ++ Sp.cws l) p6)) (by omega) (fun m j hj => by
   have hg : (l.getD j h0).length = 32 := by rw [getD_at _ hj]; exact hl _ (List.getElem_mem hj)
   have hc : (Sp.cws (l.take j)).length ≤ 8000 := by rw [cws_len, List.length_take]; omega
   show L_74_1 (m + 1) p0 p1 l l.length j (p5 ++ Sp.cws (l.take j)) p6 = _
   rw [L_74_1, S_74_1, cond_dtt (by omega), gd_inB (by omega) (by omega), Int.toNat_natCast, hloop _ hg _ _ _ _ _ _ (by rw [List.length_append]; omega)]
   simp only [B_74_2]
   rw [wi64 (by omega) (by omega), cws_succ l j hj, List.append_assoc]
   rfl) (fun m => by
   show L_74_1 (m + 1) p0 p1 l l.length l.length (p5 ++ Sp.cws (l.take l.length)) p6 = _
   rw [L_74_1, S_74_1, cond_dff (by omega), List.take_length])
 simpa [Sp.cws] using this
theorem swords_ok (s : SigT) (h1 : ∀ h ∈ s.2.1, h.length = 32) (h2 : ∀ h ∈ s.2.2.1, h.length = 32) : F_74 s = some (if Sp.shp s = true then (Sp.wordsF s, 0, ()) else ([], 1, ())) := by
 have a := pv_85 _ (shp_ok s)
 unfold F_74
 rw [a.1, a.2, gd_tt]
 cases hs : Sp.shp s
 · rfl
 · obtain ⟨_, _, h3, h4⟩ : 0 ≤ s.1 ∧ s.1 < 4 ∧ s.2.1.length = 67 ∧ s.2.2.1.length = 2 := by
     simp only [Sp.shp, Bool.and_eq_true, decide_eq_true_eq, beq_iff_eq] at hs
     omega
   have l1 := cws_len s.2.1
   simp only [Bool.not_true, cond_f, if_true]
   have e0 : L_74_0 4611686018427387904 ((2 : Nat) : Int) 0 [wrap .u32 s.1] [s.2.1, s.2.2.1] = some (.e0 (Sp.wordsF s)) := by
     show L_74_0 (4611686018427387901 + 1 + 1 + 1) ((2 : Nat) : Int) 0 [wrap .u32 s.1] [s.2.1, s.2.2.1] = _
     rw [L_74_0, S_74_0, cond_dtt (by decide), gd_inB (by simp) (by simp)]
     simp only [Int.toNat_zero, List.getD_cons_zero, List.length_cons, List.length_nil, Nat.zero_add]
     rw [Bool.and_true, gd_dec (by decide), cloop _ _ _ h1 (by omega) _ (by simp)]
     simp only [B_74_1]
     rw [show wrap .i64 (0 + 1) = 1 from by decide, L_74_0, S_74_0, cond_dtt (by decide), gd_inB (by simp) (by simp)]
     simp only [show toNat 1 = 1 from rfl, List.getD_cons_succ, List.getD_cons_zero, List.length_cons, List.length_nil]
     rw [Bool.and_true, gd_dec (by decide), cloop _ _ _ h2 (by omega) _ (by rw [List.length_append, l1, List.length_singleton]; omega)]
     simp only [B_74_1]
     rw [show wrap .i64 (1 + 1) = 2 from by decide, L_74_0, S_74_0, cond_dff (by decide)]
     rfl
   rw [e0]
   rfl
abbrev HdrT := Int × Int × List Int × SigT × Unit
abbrev DlT := Int × Int × Int × HdrT × Unit
/-- The hashes of a header have 32 bytes. -/
structure H32 (h : HdrT) : Prop where
 d : h.2.2.1.length = 32
 c : ∀ x ∈ h.2.2.2.1.2.1, x.length = 32
 p : ∀ x ∈ h.2.2.2.1.2.2.1, x.length = 32
namespace Sp
noncomputable def z32 : List Int := replicate 32 0
noncomputable def zsg (s : SigT) : Bool := s.1 == 0 && (s.2.1.length == 0 && s.2.2.1.length == 0)
noncomputable def zhd (h : HdrT) : Bool := h.1 == 0 && (h.2.1 == 0 && (h.2.2.1 == z32 && zsg h.2.2.2.1))
noncomputable def zdl (d : DlT) : Bool := d.1 == 0 && (d.2.1 == 0 && (d.2.2.1 == 0 && zhd d.2.2.2.1))
noncomputable def rgt (h : HdrT) (n : Int) : Bool := decide (1 ≤ h.1) && (decide (h.1 ≤ 2147483647) && (decide (1 ≤ h.2.1) && (decide (h.2.1 ≤ n) && shp h.2.2.2.1)))
noncomputable def vst (d : DlT) : Bool := bif d.1 == 1 then decide (0 ≤ d.2.2.1) && (decide (d.2.2.1 < d.2.2.2.1.2.1) && Int.tmod d.2.2.1 32 == 0) else bif d.1 == 2 then d.2.2.1 == d.2.2.2.1.2.1 else false
noncomputable def vdl (d : DlT) : Bool := zdl d || ((d.2.1 == 0 || d.2.1 == 1) && (rgt d.2.2.2.1 1484 && vst d))
end Sp
theorem right_ok {h : HdrT} (hh : H32 h) (n : Int) : F_38 h n = some (Sp.rgt h n, ()) := by
 have w := pv_74 _ (swords_ok h.2.2.2.1 hh.c hh.p)
 unfold F_38 Sp.rgt
 rw [w.1, w.2, gd_tt]
 have e : ((if Sp.shp h.2.2.2.1 = true then (Sp.wordsF h.2.2.2.1, 0, ()) else (([] : List Int), (1 : Int), ())).2.1 == 0) = Sp.shp h.2.2.2.1 := by
   cases Sp.shp h.2.2.2.1 <;> rfl
 rw [e]
 show (bif decide (1 ≤ h.1) then bif decide (h.1 ≤ 2147483647) then bif decide (1 ≤ h.2.1) then bif decide (h.2.1 ≤ n) then some (Sp.shp h.2.2.2.1, ()) else some (false, ()) else some (false, ()) else some (false, ()) else some (false, ())) = _
 cases decide (1 ≤ h.1) <;> cases decide (h.1 ≤ 2147483647) <;> cases decide (1 ≤ h.2.1) <;> cases decide (h.2.1 ≤ n) <;> rfl
set_option maxRecDepth 100000
set_option maxHeartbeats 4000000
theorem odd_pv (h : HdrT) : p_9 h = true ∧ v_9 h = (decide ((h.2.2.2.1.2.1.length : Int) > 100) || decide ((h.2.2.2.1.2.2.1.length : Int) > 100), ()) := by
 refine pv_9 h ?_
 unfold F_9
 cases decide ((h.2.2.2.1.2.1.length : Int) > 100) <;> rfl
theorem h32 {h : HdrT} (w : wfD (.pair (.int .i64) (.pair (.int .i64) (.pair (.arr 32 (.int .u8)) (.pair (.pair (.int .i64) (.pair (.slice (.arr 32 (.int .u8))) (.pair (.slice (.arr 32 (.int .u8))) .unit))) .unit)))) h) : H32 h :=
 ⟨w.2.2.1.1, fun x hx => (w.2.2.2.1.2.1 x hx).1, fun x hx => (w.2.2.2.1.2.2.1 x hx).1⟩
namespace Sp
noncomputable def zD : DlT := (0, 0, 0, (0, 0, replicate 32 0, (0, [], [], ()), ()), ())
noncomputable def zB : BayT := (([], [], 0, ()), replicate 32 0, ())
noncomputable def fl (e : Int) : DlT × BayT × PwT × Int × Unit := (zD, zB, (0, 0, ()), e, ())
noncomputable def pok (p : PwT) : Bool := decide (0 ≤ p.1) && decide (p.1 ≤ 1099511627776)
end Sp
theorem aw7 : F_8 = some (true, ()) := by kernel_rfl
theorem aw_pv : p_8 = true ∧ v_8 = (true, ()) := pv_8 aw7
theorem u32_b {n : Int} (h : (Lit.int .u32 n).wf = true) : 0 ≤ n ∧ n < 4294967296 := by
 simp [Lit.wf, IntKind.min, IntKind.max, IntKind.signed, IntKind.bits] at h; omega
abbrev W32 (a : BayT) : Prop := ∀ x ∈ a.1.1, 0 ≤ x ∧ x < 4294967296
theorem fail_pv (e : Int) : p_41 e = true ∧ v_41 e = Sp.fl e := pv_41 e rfl
theorem great_pv (b : BayT) : p_15 b = true ∧ v_15 b = (decide ((b.1.2.1.length : Int) > 20) && decide ((b.1.2.1.length : Int) ≤ 64), ()) := by
 refine pv_15 b ?_
 unfold F_15
 cases decide ((b.1.2.1.length : Int) > 20) <;> rfl
theorem zsame_pv : p_32 Sp.zB Sp.zB = true ∧ v_32 Sp.zB Sp.zB = (true, ()) := pv_32 _ _ (by kernel_rfl)
theorem size_pv (b : BayT) : p_44 b = true ∧ v_44 b = (wrap .i64 (Int.tdiv (b.1.1.length : Int) 2), ()) := pv_44 b rfl
theorem power_pv (p : PwT) : p_61 p = true ∧ v_61 p = (Sp.pok p, ()) := by
 refine pv_61 p ?_
 unfold F_61 Sp.pok
 by_cases h : 0 ≤ p.1
 · rw [cond_dtt (by omega), decide_eq_true h, Bool.true_and]
 · rw [cond_dff (by omega), decide_eq_false h, Bool.false_and]
theorem right_pv {h : HdrT} (hh : H32 h) (n : Int) : p_38 h n = true ∧ v_38 h n = (Sp.rgt h n, ()) := pv_38 h n (right_ok hh n)
theorem new_pv : p_11 = true ∧ v_11 = (Sp.zD, ()) := pv_11 rfl
theorem vnew : p_13 Sp.zD = true ∧ v_13 Sp.zD = (true, ()) := pv_13 _ (by kernel_rfl)
theorem znew : p_37 Sp.zD = true ∧ v_37 Sp.zD = (true, ()) := pv_37 _ (by kernel_rfl)
theorem beg_pv {b : BayT} (hb : Sp.bvb b = true) {h : HdrT} (hh : H32 h) (hv : h.1 ≤ Sp.lst b) (p : PwT) : ∃ e : Int, (e = 1 ∨ e = 20) ∧ p_27 Sp.zD b h p = true ∧ v_27 Sp.zD b h p = Sp.fl e := by
 have B : BB b := ⟨bv_of hb, hb⟩
 have key : ∃ e : Int, (e = 1 ∨ e = 20) ∧ F_27 Sp.zD b h p = some (Sp.fl e) := by
   unfold F_27
   rw [vnew.1, vnew.2, gd_tt, show (!(true, ()).1) = false from rfl, cond_f, (val_pv b).1, (val_pv b).2, gd_tt, hb, show (!(true, ()).1) = false from rfl, cond_f, (power_pv p).1, (power_pv p).2, gd_tt]
   dsimp only
   cases Sp.pok p
   · exact ⟨1, .inl rfl, by rw [show (!false) = true from rfl, cond_t, (fail_pv 1).1, (fail_pv 1).2, gd_tt]; try rfl⟩
   rw [show (!true) = false from rfl, cond_f, (size_pv b).1, (size_pv b).2, gd_tt, (right_pv hh _).1, (right_pv hh _).2, gd_tt]
   dsimp only
   cases Sp.rgt h _
   · exact ⟨1, .inl rfl, by rw [show (!false) = true from rfl, cond_t, (fail_pv 1).1, (fail_pv 1).2, gd_tt]; try rfl⟩
   rw [show (!true) = false from rfl, cond_f, znew.1, znew.2, gd_tt]
   dsimp only
   rw [show (!true) = false from rfl, cond_f, (lst_pv B).1, (lst_pv B).2, gd_tt]
   dsimp only
   rw [cond_dtt hv, (fail_pv 20).1, (fail_pv 20).2, gd_tt]
   exact ⟨20, .inr rfl, rfl⟩
 obtain ⟨e, h1, h2⟩ := key
 exact ⟨e, h1, pv_27 _ _ _ _ h2⟩
theorem ins_pv {b : BayT} (hb : Sp.bvb b = true) {h : HdrT} (hh : H32 h) (hv : h.1 ≤ Sp.lst b) (w : List Int) (hw : w.length ≤ 100) (p : PwT) : ∃ e : Int, (e = 1 ∨ e = 20) ∧ p_31 b h w p = true ∧ v_31 b h w p = (Sp.zB, (0, 0, ()), e, ()) := by
 have key : ∃ e : Int, (e = 1 ∨ e = 20) ∧ F_31 b h w p = some (Sp.zB, (0, 0, ()), e, ()) := by
   unfold F_31
   rw [(val_pv b).1, (val_pv b).2, gd_tt, hb, show (!(true, ()).1) = false from rfl, cond_f, (power_pv p).1, (power_pv p).2, gd_tt]
   dsimp only
   cases Sp.pok p
   · exact ⟨1, .inl rfl, rfl⟩
   rw [show (!true) = false from rfl, cond_f, (size_pv b).1, (size_pv b).2, gd_tt, (right_pv hh _).1, (right_pv hh _).2, gd_tt]
   dsimp only
   cases Sp.rgt h _
   · exact ⟨1, .inl rfl, rfl⟩
   rw [show (!true) = false from rfl, cond_f]
   cases ((w.length : Int) != h.2.1)
   rotate_left
   · exact ⟨1, .inl rfl, rfl⟩
   rw [cond_f, new_pv.1, new_pv.2, gd_tt]
   obtain ⟨e, he, b1, b2⟩ := beg_pv hb hh hv p
   refine ⟨e, he, ?_⟩
   dsimp only
   rw [b1, b2, gd_tt]
   have e0 : e ≠ 0 := by rcases he with rfl | rfl <;> decide
   rw [L_31_94_0_0, S_31_94_0_0]
   by_cases hl : w.length = 0
   · rw [cond_dff (by omega)]
     show B_31_0 (J_31_0 _ _ _ _ [] [] _ _ e) _ = _
     unfold J_31_0 S_31_0
     rw [cond_eff e0]
     rfl
   · have hX : wrap .i64 (0 + if ((drop (toNat 0) w).length : Int) < 32 then ((drop (toNat 0) w).length : Int) else 32) = ((if w.length < 32 then w.length else 32 : Nat) : Int) := by
       rw [show toNat 0 = 0 from rfl, List.drop_zero]
       by_cases h3 : w.length < 32
       · rw [if_pos (by omega), if_pos h3, wi64 (by omega) (by omega)]; omega
       · rw [if_neg (by omega), if_neg h3]; rfl
     have hY : (if w.length < 32 then w.length else 32 : Nat) ≤ w.length := by split <;> omega
     rw [cond_dtt (by omega), gd_sl3 (by omega) (by omega) (by omega), hX, gd_and, gd_sl3 (by omega) (by omega) (by omega), gd_dec (by omega), show ((Sp.fl e).2.2.2.1 != 0) = true from bne_iff_ne.2 e0, gd_tt]
     show B_31_0 (J_31_0 _ _ _ _ [] [] _ _ e) _ = _
     unfold J_31_0 S_31_0
     rw [cond_eff e0]
     rfl
 obtain ⟨e, h1, h2⟩ := key
 exact ⟨e, h1, pv_31 _ _ _ _ h2⟩
theorem lst_b {b : BayT} (hb : Sp.bvb b = true) : 0 ≤ Sp.lst b ∧ Sp.lst b ≤ 2147483647 := by
 have B : BB b := ⟨bv_of hb, hb⟩
 unfold Sp.lst
 cases hs : Sp.has b
 · exact ⟨Int.le_refl 0, (by decide : (0 : Int) ≤ 2147483647)⟩
 · have c := cnd_sb hs
   have o := B.vr1 _ (sb_lt b) ((Bool.and_eq_true_iff.1 c).2)
   have h := ((hdr_pv B.v B.b _ (sb_lt b)).2 o.1)
   exact ⟨by have := h.v0; show 0 ≤ Sp.vr b _; unfold Sp.vr; omega, h.v1⟩
theorem plain_7 (b : BayT) (h : HdrT) (w : List Int) (p : PwT) (k : Int) (_ : wfD (.pair (.pair (.slice (.int .u32)) (.pair (.slice (.int .i64)) (.pair (.int .i64) .unit))) (.pair (.arr 32 (.int .u8)) .unit)) b) (wh : wfD (.pair (.int .i64) (.pair (.int .i64) (.pair (.arr 32 (.int .u8)) (.pair (.pair (.int .i64) (.pair (.slice (.arr 32 (.int .u8))) (.pair (.slice (.arr 32 (.int .u8))) .unit))) .unit)))) h)
   (_ : wfD (.slice (.int .u32)) w) (_ : wfD (.pair (.int .i64) (.pair (.int .u32) .unit)) p) (wk : wfD (.int .u32) k) : F_7 b h w p k = some true := by
 have o := odd_pv h
 unfold F_7
 rw [aw_pv.1, aw_pv.2, gd_tt, (great_pv b).1, (great_pv b).2, gd_tt, o.1, o.2, gd_tt, (val_pv b).1, (val_pv b).2, gd_tt]
 dsimp only
 rw [show (!true) = false from rfl, cond_f]
 cases decide ((b.1.2.1.length : Int) > 20) && decide ((b.1.2.1.length : Int) ≤ 64)
 rotate_left
 · rfl
 cases decide ((h.2.2.2.1.2.1.length : Int) > 100) || decide ((h.2.2.2.1.2.2.1.length : Int) > 100)
 rotate_left
 · rfl
 rw [cond_f, cond_f]
 by_cases hw : (w.length : Int) > 100
 · rw [cond_dtt hw]
 rw [cond_dff hw]
 cases hb : Sp.bvb b
 · rfl
 rw [show (!true) = false from rfl, cond_f]
 have B : BB b := ⟨bv_of hb, hb⟩
 have kb := u32_b wk
 have lb := lst_b hb
 have hh := h32 wh
 have e1 : wrap .i64 k = k := wi64 (by omega) (by omega)
 have e2 : wrap .i64 (Sp.lst b - k) = Sp.lst b - k := wi64 (by omega) (by omega)
 rw [(lst_pv B).1, (lst_pv B).2, gd_tt]
 dsimp only
 rw [e1, e2]
 have hh2 : H32 (Sp.lst b - k, h.2) := ⟨hh.1, hh.2, hh.3⟩
 obtain ⟨e, he, i1, i2⟩ := ins_pv hb hh2 (show Sp.lst b - k ≤ Sp.lst b by omega) w (by omega) p
 rw [i1, i2, gd_tt]
 dsimp only
 have z : p_32 Sp.zB (([], [], 0, ()), replicate 32 0, ()) = true ∧ v_32 Sp.zB (([], [], 0, ()), replicate 32 0, ()) = (true, ()) := zsame_pv
 rcases he with rfl | rfl
 · rw [cond_ett rfl, z.1, z.2, gd_tt, cond_t]; rfl
 · rw [cond_eff (by decide), cond_ett rfl, z.1, z.2, gd_tt, cond_t]; rfl
end Go.Ev
