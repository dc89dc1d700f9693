/- Helpers: functions of the program as Lean functions, and what they compute. No condition. -/
import Derived.Test.YtnmiibgmjfiknaaE3P4
import Derived.Test.YtnmiibgmjfiknaaG3P1
import Derived.Test.YtnmiibgmjfiknaaE3P2
import Derived.Test.YtnmiibgmjfiknaaG3P2
set_option maxRecDepth 10000
set_option linter.unusedVariables false
set_option linter.unusedSimpArgs false
open Go.IntKind (wrap i64 i32 i16 i8 u64 u32 u16 u8)
open List (getD length take drop replicate)
open Int (toNat)
open Go.Ev.Sp
set_option linter.unusedSimpArgs false
set_option linter.unusedVariables false
namespace Go.Ev
open Go
set_option maxRecDepth 100000
set_option maxHeartbeats 4000000
abbrev FlT := List Int × List Int × Int × Unit
abbrev PwT := Int × Int × Unit
abbrev OpT := Bool × Int × Int × Unit
abbrev RsT := FlT × PwT × Int × Unit
namespace Sp
noncomputable def wb (f : FlT) (j : Nat) : Bool := decide (f.2.1.getD j 0 < 0) || decide (f.2.1.getD j 0 > f.2.2.1)
noncomputable def fv (f : FlT) : Bool := decide (1 ≤ f.2.1.length) && (decide (f.2.1.length ≤ 64) && (decide (f.1.length = f.2.1.length * 64) && (decide (1 ≤ f.2.2.1) && (decide (f.2.2.1 ≤ 1000000) && (fnd (wb f) f.2.1.length 0).isNone))))
noncomputable def pw (f : FlT) (k : Nat) (w bits : Int) : FlT := (f.1.set k (andnI .u32 (f.1.getD k 0) (andnI .u32 bits w)), f.2.1, f.2.2.1, ())
noncomputable def prg (f : FlT) (k : Nat) (w : Int) (p : PwT) : RsT := if p.1 = 0 then (f, p, 18, ()) else if p.1 = 1 then (pw f k w p.2.1, (0, p.2), 18, ()) else (pw f k w 4294967295, (p.1 - 1, p.2), 0, ())
noncomputable def orW (ws : List Int) (o : Nat) (bits : Int) (n : Nat) : List Int := ws.mapIdx (fun i x => if o ≤ i ∧ i < o + n then orI .u32 x bits else x)
noncomputable def ew (f : FlT) (s : Nat) (bits : Int) : FlT := (orW f.1 (s * 64) bits 64, f.2.1.set s (f.2.1.getD s 0 + 1), f.2.2.1, ())
noncomputable def ers (f : FlT) (s : Nat) (p : PwT) : RsT := if f.2.1.getD s 0 = f.2.2.1 then (([], [], 0, ()), (0, 0, ()), 19, ()) else if p.1 = 0 then (f, p, 18, ()) else if p.1 = 1 then (ew f s p.2.1, (0, p.2), 18, ()) else (ew f s 4294967295, (p.1 - 1, p.2), 0, ())
end Sp
theorem full_pv : p_8 = true ∧ v_8 = ((1099511627776, 0, ()), ()) := pv_8 rfl
theorem fv_iff {f : FlT} : Sp.fv f = true ↔ 1 ≤ f.2.1.length ∧ f.2.1.length ≤ 64 ∧ f.1.length = f.2.1.length * 64 ∧ 1 ≤ f.2.2.1 ∧ f.2.2.1 ≤ 1000000 ∧ ∀ j, j < f.2.1.length → 0 ≤ f.2.1.getD j 0 ∧ f.2.1.getD j 0 ≤ f.2.2.1 := by
 simp only [Sp.fv, Bool.and_eq_true, decide_eq_true_eq, Option.isNone_iff_eq_none, fnd_none, Sp.wb, Bool.or_eq_false_iff, decide_eq_false_iff_not]
 constructor
 · rintro ⟨a, b, c, d, e, g⟩
   refine ⟨a, b, c, d, e, fun j hj => ?_⟩
   have := g j (by omega) (by omega)
   omega
 · rintro ⟨a, b, c, d, e, g⟩
   refine ⟨a, b, c, d, e, fun j _ hj => ?_⟩
   have := g j (by omega)
   omega
theorem fv_ok (f : FlT) : F_14 f = some (Sp.fv f, ()) := by
 unfold F_14 Sp.fv
 by_cases h1 : (f.2.1.length : Int) < 1
 · rw [cond_dtt h1, decide_eq_false (by omega)]; rfl
 rw [cond_dff h1, decide_eq_true (p := 1 ≤ f.2.1.length) (by omega), Bool.true_and]
 by_cases h2 : (f.2.1.length : Int) > 64
 · rw [cond_dtt h2, decide_eq_false (by omega)]; rfl
 rw [cond_dff h2, decide_eq_true (p := f.2.1.length ≤ 64) (by omega), Bool.true_and, wi64 (by omega) (by omega)]
 by_cases h3 : (f.1.length : Int) = (f.2.1.length : Int) * 64
 rotate_left
 · rw [cond_ntt h3, decide_eq_false (p := f.1.length = _) (by omega)]; rfl
 rw [cond_nff h3, decide_eq_true (p := f.1.length = _) (by omega), Bool.true_and]
 by_cases h4 : f.2.2.1 < 1
 · rw [cond_dtt h4, decide_eq_false (by omega)]; rfl
 rw [cond_dff h4, decide_eq_true (p := 1 ≤ f.2.2.1) (by omega), Bool.true_and]
 by_cases h5 : f.2.2.1 > 1000000
 · rw [cond_dtt h5, decide_eq_false (by omega)]; rfl
 rw [cond_dff h5, decide_eq_true (p := f.2.2.1 ≤ 1000000) (by omega), Bool.true_and]
 have hf := find0 (fun m i => L_14_53_0_0 m f.2.1 f.2.1.length i f) (n := f.2.1.length) (Sp.wb f) (ex := fun j => some (.e0 (j : Int) f)) (e1 := some (.e1 f)) (by omega) (fun m j hj => by
   show L_14_53_0_0 (m + 1) f.2.1 f.2.1.length j f = bif Sp.wb f j then some (.e0 (j : Int) f) else L_14_53_0_0 m f.2.1 f.2.1.length ((j + 1 : Nat) : Int) f
   rw [L_14_53_0_0, S_14_53_0_0, cond_dtt (by omega), gd_inB (by omega) (by omega), Int.toNat_natCast, wi64 (by omega) (by omega)]
   unfold Sp.wb
   push_cast
   grind) (fun m => by
   show L_14_53_0_0 (m + 1) f.2.1 f.2.1.length f.2.1.length f = _
   rw [L_14_53_0_0, S_14_53_0_0, cond_dff (by omega)])
 rw [hf]
 cases fnd (Sp.wb f) f.2.1.length 0 with
 | none => rfl
 | some k =>
   simp only [B_14_53_0_0, Option.isNone]
   rw [decide_eq_true (by omega)]
   rfl
theorem fv_pv (f : FlT) : p_14 f = true ∧ v_14 f = (Sp.fv f, ()) := pv_14 f (fv_ok f)
theorem chk_pv {f : FlT} {p : PwT} {a n : Int} (h : Sp.fv f = true) (h0 : 0 ≤ p.1) (h1 : p.1 ≤ 1099511627776) (h2 : 0 ≤ a) (h3 : a < n) : p_56 f p a n = true ∧ v_56 f p a n = (0, ()) := by
 refine pv_56 f p a n ?_
 unfold F_56
 rw [(fv_pv f).1, (fv_pv f).2, gd_tt, h, Bool.not_true, cond_f, cond_dff (by omega), cond_dff (by omega), cond_dff (by omega), cond_dff (by omega)]
theorem prg_ok {f : FlT} {p : PwT} {k : Nat} {w : Int} (h : Sp.fv f = true) (h0 : 0 ≤ p.1) (h1 : p.1 ≤ 1099511627776) (h2 : k < f.1.length) : F_44 f k w p = some (Sp.prg f k w p) := by
 have hv := fv_iff.1 h
 unfold F_44 Sp.prg Sp.pw
 rw [(chk_pv h h0 h1 (by omega) (by omega)).1, (chk_pv h h0 h1 (by omega) (by omega)).2, gd_tt, cond_nff rfl, gd_room (by omega) (by omega), gd_room (by omega) (by omega)]
 simp only [gd_inB (show (0 : Int) ≤ (k : Int) by omega) (show (k : Int) < ((f.1.length : Nat) : Int) by omega), Int.toNat_natCast, Bool.and_true, gd_dec h2]
 by_cases e0 : p.1 = 0
 · rw [cond_ett e0, if_pos e0]
 rw [cond_eff e0, if_neg e0]
 by_cases e1 : p.1 = 1
 · rw [cond_ett e1, if_pos e1]
 rw [cond_eff e1, if_neg e1, wi64 (by omega) (by omega)]
theorem prg_pv {f : FlT} {p : PwT} {k : Nat} {w : Int} (h : Sp.fv f = true) (h0 : 0 ≤ p.1) (h1 : p.1 ≤ 1099511627776) (h2 : k < f.1.length) : p_44 f k w p = true ∧ v_44 f k w p = Sp.prg f k w p := pv_44 f k w p (prg_ok h h0 h1 h2)
theorem getD_set {α : Type} (l : List α) (i j : Nat) (x d : α) (h : i < l.length) : (l.set i x).getD j d = if i = j then x else l.getD j d := by
 simp only [List.getD_eq_getElem?_getD, List.getElem?_set]
 split
 · simp [h]
 · rfl
set_option maxRecDepth 100000
set_option maxHeartbeats 4000000
abbrev MeT := FlT × Int × Int × Unit
abbrev EnT := Int × List Int × Unit
abbrev W32f (f : FlT) : Prop := ∀ x ∈ f.1, 0 ≤ x ∧ x < 4294967296
theorem W32f.at {f : FlT} (h : W32f f) (k : Nat) : 0 ≤ f.1.getD k 0 ∧ f.1.getD k 0 < 4294967296 := by
 rw [List.getD_eq_getElem?_getD]
 cases e : f.1[k]? with
 | none => decide
 | some x => exact h x (List.mem_of_getElem? e)
namespace Sp
/-- The pair word of a number. -/
noncomputable def prw (n : Int) : Int := n * 65536 + (65535 - n)
noncomputable def nmb (w : Int) : Int × Bool := (w / 65536, prw (w / 65536) == w)
noncomputable def plc (m : MeT) : Bool := decide (2 ≤ m.2.2.1) && (decide (m.2.2.1 ≤ 16) && ((m.2.2.1 % 2 == 0) && (decide (0 ≤ m.2.1) && decide (m.2.1 ≤ (m.1.2.1.length : Int) - m.2.2.1))))
/-- The number of words of a half, and where it begins. -/
noncomputable def hsz (m : MeT) : Nat := 32 * m.2.2.1.toNat
noncomputable def hbs (m : MeT) (k : Nat) : Nat := 64 * m.2.1.toNat + k * hsz m
noncomputable def hwr (m : MeT) (k : Nat) : List Int := take (hsz m) (drop (hbs m k) m.1.1)
noncomputable def gnr (m : MeT) (k : Nat) : Int := bif (nmb ((hwr m k).getD 0 0)).2 then (nmb ((hwr m k).getD 0 0)).1 else 0
/-- The half in use, and whether there is one. -/
noncomputable def acv (m : MeT) : Nat := bif decide (gnr m 1 > gnr m 0) then 1 else 0
noncomputable def acb (m : MeT) : Bool := decide (gnr m 1 > gnr m 0) || decide (gnr m 0 > 0)
noncomputable def mvl (m : MeT) : Bool := fv m.1 && (plc m && acb m)
noncomputable def stp (s w : Int) : Int := (31 * s + w / 65536 + 7 * (w % 65536)) % 65536
noncomputable def smw (l : List Int) : Int := l.foldl stp 0
end Sp
theorem xor_n {n : Nat} (h : n < 65536) : Sp.andI .i64 (Sp.xorI .i64 (-1) (n : Int)) 65535 = 65535 - (n : Int) := by
 have e0 : (BitVec.ofInt 64 (-1) ^^^ BitVec.ofInt 64 (n : Int)).toNat = 18446744073709551615 - n := by
   have : BitVec.ofInt 64 (-1) ^^^ BitVec.ofInt 64 (n : Int) = ~~~ BitVec.ofInt 64 (n : Int) := by
     rw [show BitVec.ofInt 64 (-1) = BitVec.allOnes 64 from rfl, BitVec.allOnes_xor]
   rw [this, BitVec.toNat_not]
   have : (BitVec.ofInt 64 (n : Int)).toNat = n := by
     rw [BitVec.ofInt_natCast, BitVec.toNat_ofNat]; omega
   omega
 have e1 : Sp.xorI .i64 (-1) (n : Int) = -1 - (n : Int) := by
   unfold Sp.xorI
   show wrap .i64 ((BitVec.ofInt 64 (-1) ^^^ BitVec.ofInt 64 (n : Int)).toNat : Int) = _
   rw [e0, IntKind.wrap_i64]
   omega
 rw [e1]
 unfold Sp.andI
 show wrap .i64 ((BitVec.ofInt 64 (-1 - (n : Int)) &&& BitVec.ofInt 64 65535).toNat : Int) = _
 have e2 : (BitVec.ofInt 64 (-1 - (n : Int))).toNat = 18446744073709551615 - n := by
   rw [BitVec.toNat_ofInt]; omega
 rw [BitVec.toNat_and, e2, show (BitVec.ofInt 64 65535).toNat = 2 ^ 16 - 1 from rfl, Nat.and_two_pow_sub_one_eq_mod, wi64 (by omega) (by omega)]
 omega
theorem pair_pv {n : Int} (h0 : 0 ≤ n) (h1 : n < 65536) : p_24 n = true ∧ v_24 n = (Sp.prw n, ()) := by
 refine pv_24 n ?_
 obtain ⟨k, rfl⟩ := Int.eq_ofNat_of_zero_le h0
 unfold F_24 Sp.prw
 have h1' : k < 65536 := by omega
 rw [xor_n h1', u32_wrap_nat (by omega), show (k : Int) * 65536 = ((k * 65536 : Nat) : Int) from (Int.natCast_mul k 65536).symm, u32_wrap_nat (by omega), show 65535 - (k : Int) = ((65535 - k : Nat) : Int) by omega, u32_wrap_nat (by omega), orU_nat (by omega) (by omega), show k * 65536 = k * 2 ^ 16 from rfl, or_add 16 (by omega)]
 congr 2
theorem num_pv {w : Int} (h0 : 0 ≤ w) (h1 : w < 4294967296) : p_54 w = true ∧ v_54 w = ((Sp.nmb w).1, (Sp.nmb w).2, ()) := by
 refine pv_54 w ?_
 unfold F_54
 have e : Int.fdiv w 65536 = w / 65536 := Int.fdiv_eq_ediv_of_nonneg _ (by decide)
 rw [e, wi64 (by omega) (by omega), (pair_pv (n := w / 65536) (by omega) (by omega)).1, (pair_pv (n := w / 65536) (by omega) (by omega)).2, gd_tt]
 rfl
theorem nmb_b {w : Int} (h0 : 0 ≤ w) (h1 : w < 4294967296) : 0 ≤ (Sp.nmb w).1 ∧ (Sp.nmb w).1 < 65536 := by
 unfold Sp.nmb
 dsimp only
 omega
theorem plc_pv (m : MeT) (h : m.1.2.1.length ≤ 1000000) : p_16 m = true ∧ v_16 m = (Sp.plc m, ()) := by
 refine pv_16 m ?_
 unfold F_16 Sp.plc
 by_cases h1 : 2 ≤ m.2.2.1
 rotate_left
 · rw [cond_dff (by omega), decide_eq_false h1]; rfl
 rw [cond_dtt (by omega), decide_eq_true h1, Bool.true_and]
 by_cases h2 : m.2.2.1 ≤ 16
 rotate_left
 · rw [cond_dff h2, decide_eq_false h2]; rfl
 rw [cond_dtt h2, decide_eq_true h2, Bool.true_and, Int.tmod_eq_emod_of_nonneg (by omega), wi64 (by omega) (by omega)]
 by_cases h3 : m.2.2.1 % 2 = 0
 rotate_left
 · rw [cond_eff h3, beq_eq_false_iff_ne.2 h3]; rfl
 rw [cond_ett h3, beq_iff_eq.2 h3, Bool.true_and]
 by_cases h4 : 0 ≤ m.2.1
 · rw [cond_dtt (by omega), decide_eq_true h4, Bool.true_and]
 · rw [cond_dff (by omega), decide_eq_false h4]; rfl
theorem plc_iff {m : MeT} : Sp.plc m = true ↔ 2 ≤ m.2.2.1 ∧ m.2.2.1 ≤ 16 ∧ m.2.2.1 % 2 = 0 ∧ 0 ≤ m.2.1 ∧ m.2.1 ≤ (m.1.2.1.length : Int) - m.2.2.1 := by
 unfold Sp.plc
 simp only [Bool.and_eq_true, decide_eq_true_eq, beq_iff_eq]
/-- What is known of a memory whose sectors exist. -/
theorem pl_b {m : MeT} (hv : Sp.fv m.1 = true) (hp : Sp.plc m = true) : 64 ≤ Sp.hsz m ∧ Sp.hsz m ≤ 512 ∧ Sp.hbs m 1 + Sp.hsz m ≤ m.1.1.length ∧ Sp.hbs m 0 + Sp.hsz m ≤ m.1.1.length ∧ m.1.1.length ≤ 4096 ∧ (Sp.hsz m : Int) = 32 * m.2.2.1 ∧ (Sp.hbs m 0 : Int) = 64 * m.2.1 ∧ (Sp.hbs m 1 : Int) = 64 * m.2.1 + 32 * m.2.2.1 := by
 obtain ⟨p1, p2, p3, p4, p5⟩ := plc_iff.1 hp
 have v := fv_iff.1 hv
 unfold Sp.hbs Sp.hsz
 omega
theorem pl_k {m : MeT} (hv : Sp.fv m.1 = true) (hp : Sp.plc m = true) {k : Nat} (hk : k < 2) : Sp.hbs m k + Sp.hsz m ≤ m.1.1.length ∧ (Sp.hbs m k : Int) = 64 * m.2.1 + (k : Int) * (32 * m.2.2.1) := by
 have := pl_b hv hp
 match k, hk with
 | 0, _ => exact ⟨this.2.2.2.1, by rw [this.2.2.2.2.2.2.1]; simp⟩
 | 1, _ => exact ⟨this.2.2.1, by rw [this.2.2.2.2.2.2.2]; simp⟩
theorem msz_pv {m : MeT} (hv : Sp.fv m.1 = true) (hp : Sp.plc m = true) : p_67 m = true ∧ v_67 m = ((Sp.hsz m : Int), ()) := by
 obtain ⟨p1, p2, p3, p4, p5⟩ := plc_iff.1 hp
 have b := pl_b hv hp
 refine pv_67 m ?_
 unfold F_67
 rw [wi64 (n := 64 * m.2.2.1) (by omega) (by omega), Int.tdiv_eq_ediv_of_nonneg (by omega), wi64 (by omega) (by omega), b.2.2.2.2.2.1]
 congr 2
 omega
theorem adr_pv {m : MeT} (hv : Sp.fv m.1 = true) (hp : Sp.plc m = true) {k : Nat} (hk : k < 2) {i : Int} (h0 : 0 ≤ i) (h1 : i ≤ 1000000) : p_23 m k i = true ∧ v_23 m k i = ((Sp.hbs m k : Int) + i, ()) := by
 obtain ⟨p1, p2, p3, p4, p5⟩ := plc_iff.1 hp
 have v := fv_iff.1 hv
 have b := pl_b hv hp
 have bk := pl_k hv hp hk
 refine pv_23 m k i ?_
 unfold F_23
 have e : Int.tdiv (wrap .i64 ((k : Int) * m.2.2.1)) 2 = (k : Int) * (m.2.2.1 / 2) := by
   match k, hk with
   | 0, _ => simp; rfl
   | 1, _ => rw [show ((1 : Nat) : Int) = 1 from rfl, Int.one_mul, wi64 (by omega) (by omega), Int.tdiv_eq_ediv_of_nonneg (by omega), Int.one_mul]
 have e2 : 0 ≤ (k : Int) * (m.2.2.1 / 2) ∧ (k : Int) * (m.2.2.1 / 2) ≤ 8 ∧ 64 * ((k : Int) * (m.2.2.1 / 2)) = (k : Int) * (32 * m.2.2.1) := by
   match k, hk with
   | 0, _ => simp
   | 1, _ => simp; omega
 rw [e, wi64 (n := (k : Int) * (m.2.2.1 / 2)) (by omega) (by omega), wi64 (n := m.2.1 + (k : Int) * (m.2.2.1 / 2)) (by omega) (by omega), wi64 (n := 64 * (m.2.1 + (k : Int) * (m.2.2.1 / 2))) (by omega) (by omega), bk.2, wi64 (by omega) (by omega)]
 congr 2
 omega
theorem wrd_pv {m : MeT} (hv : Sp.fv m.1 = true) (hp : Sp.plc m = true) {k : Nat} (hk : k < 2) : p_55 m k = true ∧ v_55 m k = (Sp.hwr m k, ()) := by
 have b := pl_b hv hp
 have bk := pl_k hv hp hk
 have s := msz_pv hv hp
 have a := adr_pv hv hp hk (i := 0) (by omega) (by omega)
 have a2 := adr_pv hv hp hk (i := (Sp.hsz m : Int)) (by omega) (by omega)
 refine pv_55 m k ?_
 unfold F_55
 rw [a.1, a.2, gd_tt, s.1, s.2, gd_tt]
 dsimp only
 rw [a2.1, a2.2, gd_tt]
 dsimp only
 rw [gd_sl3 (by omega) (by omega) (by omega)]
 unfold Sp.hwr
 rw [show ((Sp.hbs m k : Int) + (Sp.hsz m : Int)).toNat - ((Sp.hbs m k : Int) + 0).toNat = Sp.hsz m by omega, show ((Sp.hbs m k : Int) + 0).toNat = Sp.hbs m k by omega]
theorem hwr_len {m : MeT} (hv : Sp.fv m.1 = true) (hp : Sp.plc m = true) {k : Nat} (hk : k < 2) : (Sp.hwr m k).length = Sp.hsz m := by
 have bk := pl_k hv hp hk
 unfold Sp.hwr
 rw [List.length_take, List.length_drop]
 omega
abbrev W32l (l : List Int) : Prop := ∀ x ∈ l, 0 ≤ x ∧ x < 4294967296
theorem W32l.at {l : List Int} (h : W32l l) (k : Nat) : 0 ≤ l.getD k 0 ∧ l.getD k 0 < 4294967296 := by
 rw [List.getD_eq_getElem?_getD]
 cases e : l[k]? with
 | none => decide
 | some x => exact h x (List.mem_of_getElem? e)
theorem W32l.td {l : List Int} (h : W32l l) (a b : Nat) : W32l (take a (drop b l)) := fun x hx => h x (List.mem_of_mem_drop (List.mem_of_mem_take hx))
theorem W32f.half {m : MeT} (h : W32f m.1) (k : Nat) : W32l (Sp.hwr m k) := W32l.td (l := m.1.1) h _ _
theorem gnr_pv {m : MeT} (hw : W32f m.1) (hv : Sp.fv m.1 = true) (hp : Sp.plc m = true) {k : Nat} (hk : k < 2) : p_42 m k = true ∧ v_42 m k = (Sp.gnr m k, ()) := by
 have w := wrd_pv hv hp hk
 have l := hwr_len hv hp hk
 have b := pl_b hv hp
 have h0 := (hw.half k).at 0
 have n := num_pv h0.1 h0.2
 refine pv_42 m k ?_
 unfold F_42 Sp.gnr
 rw [w.1, w.2, gd_tt]
 dsimp only
 rw [gd_inB (by omega) (by omega), n.1, n.2, gd_tt]
 dsimp only
 cases (Sp.nmb ((Sp.hwr m k).getD 0 0)).2 <;> rfl
theorem acv_pv {m : MeT} (hw : W32f m.1) (hv : Sp.fv m.1 = true) (hp : Sp.plc m = true) : p_17 m = true ∧ v_17 m = ((Sp.acv m : Int), Sp.acb m, ()) := by
 have g0 := gnr_pv hw hv hp (k := 0) (by decide)
 have g1 := gnr_pv hw hv hp (k := 1) (by decide)
 refine pv_17 m ?_
 unfold F_17 Sp.acv Sp.acb
 rw [show (0 : Int) = ((0 : Nat) : Int) from rfl, show (1 : Int) = ((1 : Nat) : Int) from rfl, g0.1, g0.2, gd_tt, g1.1, g1.2, gd_tt]
 dsimp only
 cases decide (Sp.gnr m 1 > Sp.gnr m 0) <;> rfl
theorem acv_lt (m : MeT) : Sp.acv m < 2 := by
 unfold Sp.acv
 cases decide (Sp.gnr m 1 > Sp.gnr m 0) <;> decide
theorem mvl_pv {m : MeT} (hw : W32f m.1) : p_25 m = true ∧ v_25 m = (Sp.mvl m, ()) := by
 have v := fv_pv m.1
 refine pv_25 m ?_
 unfold F_25 Sp.mvl
 rw [v.1, v.2, gd_tt]
 dsimp only
 cases hv : Sp.fv m.1
 · rfl
 have hl := fv_iff.1 hv
 have p := plc_pv m (by omega)
 rw [Bool.not_true, cond_f, p.1, p.2, gd_tt]
 dsimp only
 cases hp : Sp.plc m
 · rfl
 have a := acv_pv hw hv hp
 rw [Bool.not_true, cond_f, a.1, a.2, gd_tt]
 rfl
theorem mvl_d {m : MeT} (h : Sp.mvl m = true) : Sp.fv m.1 = true ∧ Sp.plc m = true ∧ Sp.acb m = true := by
 unfold Sp.mvl at h
 simpa only [Bool.and_eq_true] using h
theorem andU_mod {w : Int} (h0 : 0 ≤ w) (h1 : w < 4294967296) : Sp.andI .u32 w 65535 = w % 65536 := by
 obtain ⟨k, rfl⟩ := Int.eq_ofNat_of_zero_le h0
 have e : Sp.andI .u32 (k : Int) ((65535 : Nat) : Int) = ((k &&& 65535 : Nat) : Int) := andU_nat (by omega) (by decide)
 rw [show (65535 : Int) = ((65535 : Nat) : Int) from rfl, e, show 65535 = 2 ^ 16 - 1 from rfl, Nat.and_two_pow_sub_one_eq_mod, Int.natCast_emod]
 rfl
theorem sum_l {l : List Int} (hw : W32l l) (hl : l.length < 1000000) : ∀ (d m j : Nat) (s : Int), 0 ≤ s → s < 65536 → j + d = l.length → d < m → L_75_0 m s l l.length j = some (.e0 ((l.drop j).foldl Sp.stp s)) := by
 intro d
 induction d with
 | zero =>
   intro m j s _ _ hj hm
   obtain ⟨m, rfl⟩ : ∃ k, m = k + 1 := ⟨m - 1, by omega⟩
   rw [L_75_0, S_75_0, cond_dff (by omega), List.drop_of_length_le (by omega)]
   rfl
 | succ d ih =>
   intro m j s h0 h1 hj hm
   obtain ⟨m, rfl⟩ : ∃ k, m = k + 1 := ⟨m - 1, by omega⟩
   have hx := hw.at j
   have e : Int.fdiv (l.getD j 0) 65536 = l.getD j 0 / 65536 := Int.fdiv_eq_ediv_of_nonneg _ (by decide)
   have e3 : l.drop j = l.getD j 0 :: l.drop (j + 1) := by
     have hj' : j < l.length := by omega
     rw [List.drop_eq_getElem_cons hj', List.getD_eq_getElem?_getD, List.getElem?_eq_getElem hj']; rfl
   have r := ih m (j + 1) (Sp.stp s (l.getD j 0)) (by unfold Sp.stp; omega) (by unfold Sp.stp; omega) (by omega) (by omega)
   rw [L_75_0, S_75_0, cond_dtt (by omega), gd_inB (by omega) (by omega), Int.toNat_natCast, e, andU_mod hx.1 hx.2, e3, List.foldl_cons]
   generalize l.getD j 0 = x at *
   rw [wi64 (n := 31 * s) (by omega) (by omega), wi64 (n := x / 65536) (by omega) (by omega), wi64 (n := 31 * s + x / 65536) (by omega) (by omega), wi64 (n := x % 65536) (by omega) (by omega), wi64 (n := 7 * (x % 65536)) (by omega) (by omega), wi64 (n := 31 * s + x / 65536 + 7 * (x % 65536)) (by omega) (by omega), Int.tmod_eq_emod_of_nonneg (by omega), wi64 (by omega) (by omega), show (j : Int) + 1 = ((j + 1 : Nat) : Int) by push_cast; rfl]
   exact r
theorem sum_pv {l : List Int} (hw : W32l l) (hl : l.length < 1000000) : p_75 l = true ∧ v_75 l = (Sp.smw l, ()) := by
 refine pv_75 l ?_
 unfold F_75
 have := sum_l hw hl l.length 4611686018427387904 0 0 (by decide) (by decide) (by omega) (by omega)
 rw [List.drop_zero] at this
 exact (congrArg (fun z => B_75_0 z _) this).trans rfl
set_option maxRecDepth 100000
set_option maxHeartbeats 4000000
namespace Sp
noncomputable def dE : EnT := Ty.dflt (.pair (.int .i64) (.pair (.slice (.int .u32)) .unit))
/-- The first place, by halving, of a key that is not less. -/
noncomputable def bsl (es : List EnT) (key : Int) : Nat → Nat → Nat → Nat
 | 0, lo, _ => lo
 | f + 1, lo, hi => if lo < hi then (if (es.getD ((lo + hi) / 2) dE).1 < key then bsl es key f ((lo + hi) / 2 + 1) hi else bsl es key f lo ((lo + hi) / 2)) else lo
noncomputable def plE (es : List EnT) (key : Int) : Nat := bsl es key es.length 0 es.length
noncomputable def putE (es : List EnT) (key : Int) (data : List Int) : List EnT :=
 if plE es key < es.length ∧ (es.getD (plE es key) dE).1 = key then es.set (plE es key) (key, data, ()) else es.take (plE es key) ++ ([(key, data, ())] ++ es.drop (plE es key))
/-- The records of a half from a place on: where they end, and the entries. -/
noncomputable def rdl (l : List Int) : Nat → Nat → List EnT → Nat × List EnT
 | 0, i, es => (i, es)
 | f + 1, i, es => if i < l.length ∧ (nmb (l.getD i 0)).2 = true ∧ (nmb (l.getD i 0)).1 / 256 ≤ 254 ∧ (nmb (l.getD i 0)).1 % 256 ≤ 24 ∧ i + ((nmb (l.getD i 0)).1 % 256).toNat + 2 ≤ l.length then
     rdl l f (i + ((nmb (l.getD i 0)).1 % 256).toNat + 2)
       (if (nmb (l.getD (i + ((nmb (l.getD i 0)).1 % 256).toNat + 1) 0)).2 = true ∧ (nmb (l.getD (i + ((nmb (l.getD i 0)).1 % 256).toNat + 1) 0)).1 = smw (take (((nmb (l.getD i 0)).1 % 256).toNat + 1) (drop i l)) then putE es ((nmb (l.getD i 0)).1 / 256) (take ((nmb (l.getD i 0)).1 % 256).toNat (drop (i + 1) l)) else es)
   else (i, es)
noncomputable def blk (l : List Int) (e : Nat) : Bool := (drop e l).all (fun w => w == 4294967295)
noncomputable def rdv (l : List Int) : List EnT × Int × Int × Unit := ((rdl l l.length 1 []).2, ((rdl l l.length 1 []).1 : Int), (if blk l (rdl l l.length 1 []).1 = true then (l.length : Int) - ((rdl l l.length 1 []).1 : Int) else 0), ())
end Sp
/-- Keys within their range, and data that are words. -/
noncomputable def KOK (es : List EnT) : Prop := ∀ e ∈ es, (0 ≤ e.1 ∧ e.1 ≤ 254) ∧ e.2.1.length ≤ 24 ∧ W32l e.2.1
theorem KOK.at {es : List EnT} (h : KOK es) (j : Nat) : 0 ≤ (es.getD j Sp.dE).1 ∧ (es.getD j Sp.dE).1 ≤ 254 := by
 rw [List.getD_eq_getElem?_getD]
 cases e : es[j]? with
 | none =>
  exact ⟨Int.le_refl 0, (by decide : (0 : Int) ≤ 254)⟩
 | some x => exact (h x (List.mem_of_getElem? e)).1
theorem bsl_le (es : List EnT) (key : Int) : ∀ (f lo hi : Nat), lo ≤ hi → lo ≤ Sp.bsl es key f lo hi ∧ Sp.bsl es key f lo hi ≤ hi
 | 0, lo, hi, h => ⟨Nat.le_refl _, h⟩
 | f + 1, lo, hi, h => by
   rw [Sp.bsl]
   split
   · split
     · have := bsl_le es key f ((lo + hi) / 2 + 1) hi (by omega)
       omega
     · have := bsl_le es key f lo ((lo + hi) / 2) (by omega)
       omega
   · omega
theorem plE_le (es : List EnT) (key : Int) : Sp.plE es key ≤ es.length := (bsl_le es key es.length 0 es.length (Nat.zero_le _)).2
theorem putE_len (es : List EnT) (key : Int) (data : List Int) : (Sp.putE es key data).length ≤ es.length + 1 := by
 have := plE_le es key
 unfold Sp.putE
 split
 · rw [List.length_set]; omega
 · rw [List.length_append, List.length_append, List.length_take, List.length_drop, List.length_singleton]; omega
theorem KOK.put {es : List EnT} (h : KOK es) {key : Int} (h0 : 0 ≤ key) (h1 : key ≤ 254) {data : List Int} (hd : data.length ≤ 24) (hw : W32l data) : KOK (Sp.putE es key data) := by
 have hn : (0 ≤ key ∧ key ≤ 254) ∧ data.length ≤ 24 ∧ W32l data := ⟨⟨h0, h1⟩, hd, hw⟩
 intro e he
 unfold Sp.putE at he
 split at he
 · rcases List.mem_or_eq_of_mem_set he with h2 | rfl
   · exact h e h2
   · exact hn
 · rcases List.mem_append.1 he with h2 | h2
   · exact h e (List.mem_of_mem_take h2)
   · rcases List.mem_append.1 h2 with h3 | h3
     · rw [List.mem_singleton.1 h3]; exact hn
     · exact h e (List.mem_of_mem_drop h3)
theorem bs2 {es : List EnT} (hk : KOK es) {key : Int} (h0 : 0 ≤ key) (h1 : key ≤ 254) (hl : es.length ≤ 1000000) (n : Int) (p4 : MeT) (p5 p6 : PwT) (p7 : List Int) (p8 p10 : EnT) : ∀ (f m lo hi : Nat), hi - lo ≤ f → lo ≤ hi → hi ≤ es.length → f < m →
   L_63_76_0_2 m key n lo hi p4 p5 p6 p7 p8 es p10 = some (.e0 key n (Sp.bsl es key f lo hi) p4 p5 p6 p7 p8 es p10) := by
 intro f
 induction f with
 | zero =>
   intro m lo hi h2 h3 h4 hm
   obtain ⟨m, rfl⟩ : ∃ k, m = k + 1 := ⟨m - 1, by omega⟩
   rw [L_63_76_0_2, S_63_76_0_2, cond_dff (by omega), Sp.bsl]
 | succ f ih =>
   intro m lo hi h2 h3 h4 hm
   obtain ⟨m, rfl⟩ : ∃ k, m = k + 1 := ⟨m - 1, by omega⟩
   rw [Sp.bsl]
   by_cases c : lo < hi
   rotate_left
   · rw [L_63_76_0_2, S_63_76_0_2, cond_dff (by omega), if_neg c]
   have e : wrap .i64 (Int.fdiv (wrap .u64 (wrap .i64 ((lo : Int) + (hi : Int)))) 2) = (((lo + hi) / 2 : Nat) : Int) := by
     rw [wi64 (n := (lo : Int) + (hi : Int)) (by omega) (by omega), wu64 (by omega) (by omega), Int.fdiv_eq_ediv_of_nonneg _ (by decide), wi64 (by omega) (by omega)]
     omega
   have ka := hk.at ((lo + hi) / 2)
   have ka : 0 ≤ (es.getD ((lo + hi) / 2) Zd3).1 ∧ (es.getD ((lo + hi) / 2) Zd3).1 ≤ 254 := ka
   rw [L_63_76_0_2, S_63_76_0_2, cond_dtt (by omega), e, gd_inB (by omega) (by omega), Int.toNat_natCast, Bool.and_true, gd_dec (by omega), if_pos c, wi64 (n := (es.getD ((lo + hi) / 2) Zd3).1 - key) (by omega) (by omega)]
   by_cases c2 : (es.getD ((lo + hi) / 2) Sp.dE).1 < key
   · have c2' : (es.getD ((lo + hi) / 2) Zd3).1 < key := c2
     rw [cond_dtt (by omega), if_pos c2, wi64 (by omega) (by omega), show (((lo + hi) / 2 : Nat) : Int) + 1 = (((lo + hi) / 2 + 1 : Nat) : Int) by omega]
     exact ih m _ hi (by omega) (by omega) h4 (by omega)
   · have c2' : ¬ (es.getD ((lo + hi) / 2) Zd3).1 < key := c2
     rw [cond_dff (by omega), if_neg c2]
     exact ih m lo _ (by omega) (by omega) (by omega) (by omega)
theorem j2 {es : List EnT} (hk : KOK es) {key : Int} (h0 : 0 ≤ key) (h1 : key ≤ 254) (hl : es.length ≤ 1000) (i n : Nat) (hi : i ≤ 100000) (hn : n ≤ 100000) (p2 : MeT) (p3 p4 : PwT) (p5 : List Int) (data : List Int) (hd : data.length ≤ 100000) :
   J_63_74_1_2 i n p2 p3 p4 p5 (key, data, ()) es = some (if Sp.plE es key < es.length ∧ (es.getD (Sp.plE es key) Sp.dE).1 = key then .e0 i n (key, data, ()) (Sp.plE es key) p2 p3 (((i + n + 2 : Nat) : Int), p4.2) p5 (key, data, ()) es else .e1 i n (key, data, ()) (Sp.plE es key) p2 p3 (((i + n + 2 : Nat) : Int), p4.2) p5 (key, data, ()) es) := by
 have pl := plE_le es key
 have ka := hk.at (Sp.plE es key)
 have en : wrap .i64 ((i : Int) + wrap .i64 ((n : Int) + 2)) = ((i + n + 2 : Nat) : Int) := by
   rw [wi64 (n := (n : Int) + 2) (by omega) (by omega), wi64 (by omega) (by omega)]; omega
 have b := bs2 hk h0 h1 (by omega) (es.length : Int) p2 p3 (((i + n + 2 : Nat) : Int), p4.2) p5 (key, data, ()) (key, data, ()) es.length 4611686018427387904 0 es.length (by omega) (by omega) (by omega) (by omega)
 unfold J_63_74_1_2 S_63_74_1_2
 dsimp only
 rw [cond_dtt (by omega), en]
 refine (congrArg (fun z => B_63_76_0_2 z _) b).trans ?_
 unfold B_63_76_0_2
 dsimp only
 rw [show Sp.bsl es key es.length 0 es.length = Sp.plE es key from rfl]
 by_cases c : Sp.plE es key < es.length
 · rw [cond_dtt (by omega), gd_inB (by omega) (by omega), Int.toNat_natCast, Bool.and_true, gd_dec c, gd_room (by omega) (by omega), show (es.getD (Sp.plE es key) Zd3).1 = (es.getD (Sp.plE es key) Sp.dE).1 from rfl, wi64 (by omega) (by omega)]
   by_cases c2 : (es.getD (Sp.plE es key) Sp.dE).1 = key
   · rw [cond_ett (by omega), gd_inB (by omega) (by omega), Bool.and_true, gd_dec c, if_pos ⟨c, c2⟩]
   · rw [cond_eff (by omega), gd_and, gd_and, gd_dec (by omega), gd_dec (by omega), gd_room (by omega) (by omega), if_neg (fun a => c2 a.2)]
 · rw [cond_dff (by omega), gd_room (by omega) (by omega), gd_and, gd_and, gd_dec (by omega), gd_dec (by omega), gd_room (by omega) (by omega), if_neg (fun a => c a.1)]
theorem j0 {key : Int} (h0 : 0 ≤ key) (i n : Nat) (hi : i ≤ 100000) (hn : n ≤ 100000) (p2 : MeT) (p3 p4 : PwT) (p5 data : List Int) (hd : data.length ≤ 100000) :
   J_63_74_1_0 i n p2 p3 p4 p5 (key, data, ()) = some (.e0 i n (key, data, ()) p2 p3 (((i + n + 2 : Nat) : Int), p4.2) p5 (key, data, ())) := by
 have en : wrap .i64 ((i : Int) + wrap .i64 ((n : Int) + 2)) = ((i + n + 2 : Nat) : Int) := by
   rw [wi64 (n := (n : Int) + 2) (by omega) (by omega), wi64 (by omega) (by omega)]; omega
 have b : L_63_76_0_0 4611686018427387904 key 0 0 0 p2 p3 (((i + n + 2 : Nat) : Int), p4.2) p5 (key, data, ()) (key, data, ()) [] = some (.e0 key 0 0 p2 p3 (((i + n + 2 : Nat) : Int), p4.2) p5 (key, data, ()) (key, data, ()) []) := by
   show L_63_76_0_0 (4611686018427387903 + 1) key 0 0 0 p2 p3 (((i + n + 2 : Nat) : Int), p4.2) p5 (key, data, ()) (key, data, ()) [] = _
   rw [L_63_76_0_0, S_63_76_0_0, cond_dff (by decide)]
 unfold J_63_74_1_0 S_63_74_1_0
 dsimp only
 rw [cond_dtt (by omega), en]
 refine (congrArg (fun z => B_63_76_0_0 z _) b).trans ?_
 unfold B_63_76_0_0
 dsimp only
 rw [cond_dff (by decide), gd_room (by omega) (by omega)]
 rfl
set_option maxRecDepth 100000
set_option maxHeartbeats 4000000
/-- What is known of the word at i. -/
structure HD (l : List Int) (i n : Nat) (k : Int) (ok : Bool) : Prop where
 e : Sp.nmb (l.getD i 0) = (k * 256 + n, ok)
 n : n < 256
 k0 : 0 ≤ k
 k1 : k < 256
theorem hd_at {l : List Int} (hw : W32l l) (i : Nat) : ∃ n k ok, HD l i n k ok := by
 have h := hw.at i
 have b := nmb_b h.1 h.2
 refine ⟨((Sp.nmb (l.getD i 0)).1 % 256).toNat, (Sp.nmb (l.getD i 0)).1 / 256, (Sp.nmb (l.getD i 0)).2, ?_, by omega, by omega, by omega⟩
 refine Prod.ext ?_ rfl
 show (Sp.nmb (l.getD i 0)).1 = _
 omega
/-- One step of the closed form. -/
theorem rdl_s {l : List Int} {i n : Nat} {k : Int} {ok : Bool} (h : HD l i n k ok) (f : Nat) (es : List EnT) : Sp.rdl l (f + 1) i es = if i < l.length ∧ ok = true ∧ k ≤ 254 ∧ n ≤ 24 ∧ i + n + 2 ≤ l.length then
     Sp.rdl l f (i + n + 2) (if (Sp.nmb (l.getD (i + n + 1) 0)).2 = true ∧ (Sp.nmb (l.getD (i + n + 1) 0)).1 = Sp.smw (take (n + 1) (drop i l)) then Sp.putE es k (take n (drop (i + 1) l)) else es) else (i, es) := by
 have e1 : (k * 256 + (n : Int)) / 256 = k := by have := h.n; omega
 have e2 : (k * 256 + (n : Int)) % 256 = (n : Int) := by have := h.n; omega
 rw [Sp.rdl, h.e]
 dsimp only
 rw [e1, e2, Int.toNat_natCast]
 by_cases c : i < l.length ∧ ok = true ∧ k ≤ 254 ∧ n ≤ 24 ∧ i + n + 2 ≤ l.length
 · rw [if_pos c, if_pos ⟨c.1, c.2.1, c.2.2.1, by omega, c.2.2.2.2⟩]
 · rw [if_neg c, if_neg (fun a => c ⟨a.1, a.2.1, a.2.2.1, by omega, a.2.2.2.2⟩)]
theorem r1 {l : List Int} (hw : W32l l) (hl : l.length ≤ 600) (M : MeT) (z : PwT) (fr : Int × Unit) : ∀ (f m i : Nat) (es : List EnT), KOK es → es.length ≤ i → i ≤ l.length → l.length - i ≤ f → f < m →
   (L_63_74_0_1 m i M z ((i : Int), fr) l es = some (.e0 M z (((Sp.rdl l f i es).1 : Int), fr) l (Sp.rdl l f i es).2) ∨ L_63_74_0_1 m i M z ((i : Int), fr) l es = some (.e1 M z (((Sp.rdl l f i es).1 : Int), fr) l (Sp.rdl l f i es).2)) ∧ KOK (Sp.rdl l f i es).2 ∧ (Sp.rdl l f i es).2.length ≤ (Sp.rdl l f i es).1 ∧ i ≤ (Sp.rdl l f i es).1 ∧ (Sp.rdl l f i es).1 ≤ l.length := by
 intro f
 induction f with
 | zero =>
   intro m i es hk hn hi hf hm
   obtain ⟨m, rfl⟩ : ∃ k, m = k + 1 := ⟨m - 1, by omega⟩
   refine ⟨.inr ?_, hk, hn, Nat.le_refl _, hi⟩
   rw [L_63_74_0_1, S_63_74_0_1, cond_dff (by omega), Sp.rdl]
 | succ f ih =>
   intro m i es hk hn hi hf hm
   obtain ⟨m, rfl⟩ : ∃ k, m = k + 1 := ⟨m - 1, by omega⟩
   obtain ⟨n, k, ok, h⟩ := hd_at hw i
   have hn2 := h.n
   have hk0 := h.k0
   have hk1 := h.k1
   rw [rdl_s h]
   by_cases c1 : i < l.length
   rotate_left
   · rw [if_neg (fun a => c1 a.1)]
     refine ⟨.inr ?_, hk, hn, Nat.le_refl _, hi⟩
     rw [L_63_74_0_1, S_63_74_0_1, cond_dff (by omega)]
   have hx := hw.at i
   have nv := num_pv hx.1 hx.2
   rw [L_63_74_0_1, S_63_74_0_1, cond_dtt (by omega), gd_inB (by omega) (by omega), Int.toNat_natCast, nv.1, nv.2, gd_tt, h.e]
   dsimp only
   cases ok with
   | false =>
     rw [if_neg (fun a => Bool.noConfusion a.2.1), Bool.not_false, cond_t]
     exact ⟨.inl rfl, hk, hn, Nat.le_refl _, hi⟩
   | true =>
   have e1 : Int.tdiv (k * 256 + (n : Int)) 256 = k := by rw [Int.tdiv_eq_ediv_of_nonneg (by omega)]; omega
   have e2 : Int.tmod (k * 256 + (n : Int)) 256 = (n : Int) := by rw [Int.tmod_eq_emod_of_nonneg (by omega)]; omega
   rw [Bool.not_true, cond_f, e1, e2, wi64 (n := k) (by omega) (by omega)]
   by_cases c2 : k > 254
   · rw [cond_dtt c2, if_neg (fun a => by omega)]
     exact ⟨.inl rfl, hk, hn, Nat.le_refl _, hi⟩
   rw [cond_dff c2]
   by_cases c3 : (n : Int) > 24
   · rw [cond_dtt c3, if_neg (fun a => by omega)]
     exact ⟨.inl rfl, hk, hn, Nat.le_refl _, hi⟩
   rw [cond_dff c3, wi64 (n := (i : Int) + (n : Int)) (by omega) (by omega), wi64 (n := (i : Int) + (n : Int) + 2) (by omega) (by omega), wi64 (n := (i : Int) + (n : Int) + 1) (by omega) (by omega), wi64 (n := (i : Int) + 1) (by omega) (by omega)]
   by_cases c4 : (i : Int) + (n : Int) + 2 > (l.length : Int)
   · rw [cond_dtt c4, if_neg (fun a => by omega)]
     exact ⟨.inl rfl, hk, hn, Nat.le_refl _, hi⟩
   rw [cond_dff c4, if_pos (show i < l.length ∧ true = true ∧ k ≤ 254 ∧ n ≤ 24 ∧ i + n + 2 ≤ l.length from ⟨c1, rfl, by omega, by omega, by omega⟩), gd_inB (by omega) (by omega), show ((i : Int) + (n : Int) + 1).toNat = i + n + 1 by omega, show ((i : Int) + 1).toNat = i + 1 by omega]
   have hy := hw.at (i + n + 1)
   have ny := num_pv hy.1 hy.2
   have en : wrap .i64 ((i : Int) + wrap .i64 ((n : Int) + 2)) = ((i + n + 2 : Nat) : Int) := by
     rw [wi64 (n := (n : Int) + 2) (by omega) (by omega), wi64 (by omega) (by omega)]; omega
   have next : ∀ es', KOK es' → es'.length ≤ es.length + 1 → _ := fun es' g1 g2 => ih m (i + n + 2) es' g1 (by omega) (by omega) (by omega) (by omega)
   have j3 : J_63_74_1_3 i n M z ((i : Int), fr) l (-1) [] es = some (.e2 i n M z ((i : Int), fr) l (-1) [] es) := by
     unfold J_63_74_1_3 S_63_74_1_3
     rw [cond_dff (by decide)]
   rw [ny.1, ny.2, gd_tt]
   dsimp only
   cases hb : (Sp.nmb (l.getD (i + n + 1) 0)).2 with
   | false =>
     rw [cond_f, if_neg (fun a => Bool.noConfusion a.1), j3]
     unfold B_63_74_1_3
     dsimp only
     rw [en]
     have := next es hk (by omega)
     exact ⟨this.1, this.2.1, this.2.2.1, by omega, this.2.2.2.2⟩
   | true =>
   have s := sum_pv (W32l.td hw (n + 1) i) (by rw [List.length_take]; omega)
   rw [cond_t, gd_sl3 (by omega) (by omega) (by omega), show i + n + 1 - i = n + 1 by omega, s.1, s.2, gd_tt]
   dsimp only
   by_cases c5 : (Sp.nmb (l.getD (i + n + 1) 0)).1 = Sp.smw (take (n + 1) (drop i l))
   rotate_left
   · rw [cond_eff c5, if_neg (fun a => c5 a.2), j3]
     unfold B_63_74_1_3
     dsimp only
     rw [en]
     have := next es hk (by omega)
     exact ⟨this.1, this.2.1, this.2.2.1, by omega, this.2.2.2.2⟩
   rw [cond_ett c5, if_pos ⟨rfl, c5⟩, gd_sl3 (by omega) (by omega) (by omega), show i + n + 1 - (i + 1) = n by omega]
   have dl : (take n (drop (i + 1) l)).length ≤ 24 := by rw [List.length_take]; omega
   have := next (Sp.putE es k (take n (drop (i + 1) l))) (hk.put hk0 (by omega) dl (W32l.td hw n (i + 1))) (putE_len _ _ _)
   refine ⟨?_, this.2.1, this.2.2.1, by omega, this.2.2.2.2⟩
   rw [j2 hk hk0 (by omega) (by omega) i n (by omega) (by omega) M z ((i : Int), fr) l _ (by omega)]
   have this := this.1
   unfold Sp.putE at this
   by_cases c6 : Sp.plE es k < es.length ∧ (es.getD (Sp.plE es k) Sp.dE).1 = k
   · rw [if_pos c6] at this ⊢
     unfold B_63_74_1_2
     dsimp only
     rw [en, Int.toNat_natCast]
     unfold Sp.putE
     rw [if_pos c6]
     exact this
   · rw [if_neg c6] at this ⊢
     unfold B_63_74_1_2
     dsimp only
     rw [en, Int.toNat_natCast]
     unfold Sp.putE
     rw [if_neg c6]
     exact this
theorem putE_nil (k : Int) (d : List Int) : Sp.putE [] k d = [(k, d, ())] := by
 unfold Sp.putE
 rw [if_neg (fun a => Nat.not_lt_zero _ a.1)]
 rfl
theorem r0 {l : List Int} (hw : W32l l) (hl : l.length ≤ 600) (M : MeT) (z : PwT) (fr : Int × Unit) : ∀ (f m i : Nat), 1 ≤ i → i ≤ l.length → l.length - i ≤ f → f < m →
   ((L_63_74_0_0 m i M z ((i : Int), fr) l = some (.e0 M z (((Sp.rdl l f i []).1 : Int), fr) l) ∨ L_63_74_0_0 m i M z ((i : Int), fr) l = some (.e1 M z (((Sp.rdl l f i []).1 : Int), fr) l)) ∧ (Sp.rdl l f i []).2 = [] ∨
     (L_63_74_0_0 m i M z ((i : Int), fr) l = some (.e2 M z (((Sp.rdl l f i []).1 : Int), fr) l (Sp.rdl l f i []).2) ∨ L_63_74_0_0 m i M z ((i : Int), fr) l = some (.e3 M z (((Sp.rdl l f i []).1 : Int), fr) l (Sp.rdl l f i []).2))) ∧ KOK (Sp.rdl l f i []).2 ∧ (Sp.rdl l f i []).2.length ≤ (Sp.rdl l f i []).1 ∧ i ≤ (Sp.rdl l f i []).1 ∧ (Sp.rdl l f i []).1 ≤ l.length := by
 have kn : KOK [] := fun e he => by cases he
 intro f
 induction f with
 | zero =>
   intro m i h1 hi hf hm
   obtain ⟨m, rfl⟩ : ∃ k, m = k + 1 := ⟨m - 1, by omega⟩
   refine ⟨.inl ⟨.inr ?_, rfl⟩, kn, Nat.zero_le _, Nat.le_refl _, hi⟩
   rw [L_63_74_0_0, S_63_74_0_0, cond_dff (by omega), Sp.rdl]
 | succ f ih =>
   intro m i h1 hi hf hm
   obtain ⟨m, rfl⟩ : ∃ k, m = k + 1 := ⟨m - 1, by omega⟩
   obtain ⟨n, k, ok, h⟩ := hd_at hw i
   have hn2 := h.n
   have hk0 := h.k0
   have hk1 := h.k1
   rw [rdl_s h]
   by_cases c1 : i < l.length
   rotate_left
   · rw [if_neg (fun a => c1 a.1)]
     refine ⟨.inl ⟨.inr ?_, rfl⟩, kn, Nat.zero_le _, Nat.le_refl _, hi⟩
     rw [L_63_74_0_0, S_63_74_0_0, cond_dff (by omega)]
   have hx := hw.at i
   have nv := num_pv hx.1 hx.2
   rw [L_63_74_0_0, S_63_74_0_0, cond_dtt (by omega), gd_inB (by omega) (by omega), Int.toNat_natCast, nv.1, nv.2, gd_tt, h.e]
   dsimp only
   cases ok with
   | false =>
     rw [if_neg (fun a => Bool.noConfusion a.2.1), Bool.not_false, cond_t]
     exact ⟨.inl ⟨.inl rfl, rfl⟩, kn, Nat.zero_le _, Nat.le_refl _, hi⟩
   | true =>
   have e1 : Int.tdiv (k * 256 + (n : Int)) 256 = k := by rw [Int.tdiv_eq_ediv_of_nonneg (by omega)]; omega
   have e2 : Int.tmod (k * 256 + (n : Int)) 256 = (n : Int) := by rw [Int.tmod_eq_emod_of_nonneg (by omega)]; omega
   rw [Bool.not_true, cond_f, e1, e2, wi64 (n := k) (by omega) (by omega)]
   by_cases c2 : k > 254
   · rw [cond_dtt c2, if_neg (fun a => by omega)]
     exact ⟨.inl ⟨.inl rfl, rfl⟩, kn, Nat.zero_le _, Nat.le_refl _, hi⟩
   rw [cond_dff c2]
   by_cases c3 : (n : Int) > 24
   · rw [cond_dtt c3, if_neg (fun a => by omega)]
     exact ⟨.inl ⟨.inl rfl, rfl⟩, kn, Nat.zero_le _, Nat.le_refl _, hi⟩
   rw [cond_dff c3, wi64 (n := (i : Int) + (n : Int)) (by omega) (by omega), wi64 (n := (i : Int) + (n : Int) + 2) (by omega) (by omega), wi64 (n := (i : Int) + (n : Int) + 1) (by omega) (by omega), wi64 (n := (i : Int) + 1) (by omega) (by omega)]
   by_cases c4 : (i : Int) + (n : Int) + 2 > (l.length : Int)
   · rw [cond_dtt c4, if_neg (fun a => by omega)]
     exact ⟨.inl ⟨.inl rfl, rfl⟩, kn, Nat.zero_le _, Nat.le_refl _, hi⟩
   rw [cond_dff c4, if_pos (show i < l.length ∧ true = true ∧ k ≤ 254 ∧ n ≤ 24 ∧ i + n + 2 ≤ l.length from ⟨c1, rfl, by omega, by omega, by omega⟩), gd_inB (by omega) (by omega), show ((i : Int) + (n : Int) + 1).toNat = i + n + 1 by omega, show ((i : Int) + 1).toNat = i + 1 by omega]
   have hy := hw.at (i + n + 1)
   have ny := num_pv hy.1 hy.2
   have en : wrap .i64 ((i : Int) + wrap .i64 ((n : Int) + 2)) = ((i + n + 2 : Nat) : Int) := by
     rw [wi64 (n := (n : Int) + 2) (by omega) (by omega), wi64 (by omega) (by omega)]; omega
   have next := ih m (i + n + 2) (by omega) (by omega) (by omega) (by omega)
   have j1 : J_63_74_1_1 i n M z ((i : Int), fr) l (-1) [] = some (.e1 i n M z ((i : Int), fr) l (-1) []) := by
     unfold J_63_74_1_1 S_63_74_1_1
     rw [cond_dff (by decide)]
   rw [ny.1, ny.2, gd_tt]
   dsimp only
   cases hb : (Sp.nmb (l.getD (i + n + 1) 0)).2 with
   | false =>
     rw [cond_f, if_neg (fun a => Bool.noConfusion a.1), j1]
     unfold B_63_74_1_1
     dsimp only
     rw [en]
     exact ⟨next.1, next.2.1, next.2.2.1, by omega, next.2.2.2.2⟩
   | true =>
   have s := sum_pv (W32l.td hw (n + 1) i) (by rw [List.length_take]; omega)
   rw [cond_t, gd_sl3 (by omega) (by omega) (by omega), show i + n + 1 - i = n + 1 by omega, s.1, s.2, gd_tt]
   dsimp only
   by_cases c5 : (Sp.nmb (l.getD (i + n + 1) 0)).1 = Sp.smw (take (n + 1) (drop i l))
   rotate_left
   · rw [cond_eff c5, if_neg (fun a => c5 a.2), j1]
     unfold B_63_74_1_1
     dsimp only
     rw [en]
     exact ⟨next.1, next.2.1, next.2.2.1, by omega, next.2.2.2.2⟩
   rw [cond_ett c5, if_pos ⟨rfl, c5⟩, gd_sl3 (by omega) (by omega) (by omega), show i + n + 1 - (i + 1) = n by omega, putE_nil]
   have dl : (take n (drop (i + 1) l)).length ≤ 24 := by rw [List.length_take]; omega
   have k1 : KOK [(k, take n (drop (i + 1) l), ())] := by
     rw [← putE_nil]
     exact kn.put hk0 (by omega) dl (W32l.td hw n (i + 1))
   have r := r1 hw hl M z fr f m (i + n + 2) [(k, take n (drop (i + 1) l), ())] k1 (by simp only [List.length_singleton]; omega) (by omega) (by omega) (by omega)
   refine ⟨.inr ?_, r.2.1, r.2.2.1, by omega, r.2.2.2.2⟩
   rw [j0 hk0 i n (by omega) (by omega) M z ((i : Int), fr) l _ (by omega)]
   unfold B_63_74_1_0
   dsimp only
   rw [en]
   rcases r.1 with r | r
   · exact .inl ((congrArg (fun z => B_63_74_0_1 z _ _) r).trans rfl)
   · exact .inr ((congrArg (fun z => B_63_74_0_1 z _ _) r).trans rfl)
theorem blk_iff (l : List Int) (e : Nat) : (fnd (fun j => (drop e l).getD j 0 != 4294967295) (drop e l).length 0 = none) ↔ Sp.blk l e = true := by
 rw [fnd_none]
 unfold Sp.blk
 rw [List.all_eq_true]
 constructor
 · intro h x hx
   obtain ⟨i, hi, e2⟩ := List.mem_iff_getElem.1 hx
   have := h i (by omega) (by omega)
   rw [getD_at 0 hi, e2] at this
   simpa using this
 · intro h i _ hi
   rw [getD_at 0 (by omega)]
   have := h _ (List.getElem_mem (show i < (drop e l).length by omega))
   simpa using this
theorem c1_l (l : List Int) (e : Nat) (hl : l.length ≤ 1000) (M : MeT) (z st : PwT) (es : List EnT) : (Sp.blk l e = true → L_63_79_0_1 4611686018427387904 (drop e l) (drop e l).length 0 M z st l es = some (.e1 M z st l es)) ∧ (Sp.blk l e = false → ∃ k : Nat, L_63_79_0_1 4611686018427387904 (drop e l) (drop e l).length 0 M z st l es = some (.e0 k M z st l es)) := by
 have hd : (drop e l).length ≤ 1000 := by rw [List.length_drop]; omega
 have hf := find0 (fun m i => L_63_79_0_1 m (drop e l) (drop e l).length i M z st l es) (n := (drop e l).length) (fun j => (drop e l).getD j 0 != 4294967295) (ex := fun j => some (.e0 (j : Int) M z st l es)) (e1 := some (.e1 M z st l es)) (by omega) (fun m j hj => by
   show L_63_79_0_1 (m + 1) (drop e l) (drop e l).length (j : Int) M z st l es = bif (drop e l).getD j 0 != 4294967295 then some (.e0 (j : Int) M z st l es) else L_63_79_0_1 m (drop e l) (drop e l).length ((j + 1 : Nat) : Int) M z st l es
   rw [L_63_79_0_1, S_63_79_0_1, cond_dtt (by omega), gd_inB (by omega) (by omega), Int.toNat_natCast, wi64 (by omega) (by omega)]
   push_cast
   rfl) (fun m => by
   show L_63_79_0_1 (m + 1) (drop e l) (drop e l).length ((drop e l).length : Int) M z st l es = _
   rw [L_63_79_0_1, S_63_79_0_1, cond_dff (by omega)])
 constructor
 · intro hb
   rw [(blk_iff l e).2 hb] at hf
   exact hf
 · intro hb
   cases hq : fnd (fun j => (drop e l).getD j 0 != 4294967295) (drop e l).length 0 with
   | none => rw [(blk_iff l e).1 hq] at hb; cases hb
   | some k =>
     rw [hq] at hf
     exact ⟨k, hf⟩
theorem c0_l (l : List Int) (e : Nat) (hl : l.length ≤ 1000) (M : MeT) (z st : PwT) : (Sp.blk l e = true → L_63_79_0_0 4611686018427387904 (drop e l) (drop e l).length 0 M z st l = some (.e1 M z st l)) ∧ (Sp.blk l e = false → ∃ k : Nat, L_63_79_0_0 4611686018427387904 (drop e l) (drop e l).length 0 M z st l = some (.e0 k M z st l)) := by
 have hd : (drop e l).length ≤ 1000 := by rw [List.length_drop]; omega
 have hf := find0 (fun m i => L_63_79_0_0 m (drop e l) (drop e l).length i M z st l) (n := (drop e l).length) (fun j => (drop e l).getD j 0 != 4294967295) (ex := fun j => some (.e0 (j : Int) M z st l)) (e1 := some (.e1 M z st l)) (by omega) (fun m j hj => by
   show L_63_79_0_0 (m + 1) (drop e l) (drop e l).length (j : Int) M z st l = bif (drop e l).getD j 0 != 4294967295 then some (.e0 (j : Int) M z st l) else L_63_79_0_0 m (drop e l) (drop e l).length ((j + 1 : Nat) : Int) M z st l
   rw [L_63_79_0_0, S_63_79_0_0, cond_dtt (by omega), gd_inB (by omega) (by omega), Int.toNat_natCast, wi64 (by omega) (by omega)]
   push_cast
   rfl) (fun m => by
   show L_63_79_0_0 (m + 1) (drop e l) (drop e l).length ((drop e l).length : Int) M z st l = _
   rw [L_63_79_0_0, S_63_79_0_0, cond_dff (by omega)])
 constructor
 · intro hb
   rw [(blk_iff l e).2 hb] at hf
   exact hf
 · intro hb
   cases hq : fnd (fun j => (drop e l).getD j 0 != 4294967295) (drop e l).length 0 with
   | none => rw [(blk_iff l e).1 hq] at hb; cases hb
   | some k =>
     rw [hq] at hf
     exact ⟨k, hf⟩
/-- What is known of what read answers. -/
theorem rdv_b {l : List Int} (hw : W32l l) (hl : l.length ≤ 600) (h1 : 1 ≤ l.length) : KOK (Sp.rdv l).1 ∧ (Sp.rdv l).1.length ≤ l.length ∧ 1 ≤ (Sp.rdv l).2.1 ∧ (Sp.rdv l).2.1 ≤ l.length := by
 have r := r0 hw hl (([], [], 0, ()), 0, 0, ()) (0, 0, ()) (0, ()) l.length 4611686018427387904 1 (Nat.le_refl _) h1 (by omega) (by omega)
 unfold Sp.rdv
 dsimp only
 refine ⟨r.2.1, by omega, by omega, by omega⟩
theorem read_pv {m : MeT} (hw : W32f m.1) (hv : Sp.fv m.1 = true) (hp : Sp.plc m = true) {k : Nat} (hk : k < 2) : p_63 m k = true ∧ v_63 m k = (Sp.rdv (Sp.hwr m k), ()) := by
 have w := wrd_pv hv hp hk
 have ll := hwr_len hv hp hk
 have b := pl_b hv hp
 have hW := hw.half k
 refine pv_63 m k ?_
 unfold F_63
 rw [w.1, w.2, gd_tt]
 dsimp only
 generalize Sp.hwr m k = l at *
 have r := r0 hW (by omega) m (0, 0, ()) (0, ()) l.length 4611686018427387904 1 (Nat.le_refl _) (by omega) (by omega) (by omega)
 obtain ⟨r, _, _, h3, h4⟩ := r
 unfold Sp.rdv
 generalize Sp.rdl l l.length 1 [] = R at *
 obtain ⟨e, es⟩ := R
 dsimp only at *
 have nil : es = [] → gd (sl3 (e : Int) (l.length : Int) (l.length : Int)) (B_63_79_0_0 (L_63_79_0_0 4611686018427387904 (drop (toNat (e : Int)) l) (drop (toNat (e : Int)) l).length 0 m (0, 0, ()) ((e : Int), 0, ()) l) (fun y62 y63 y64 y65 y66 => bif !decide (y62 ≥ 0) then some (([], y65.1, wrap .i64 ((l.length : Int) - y65.1), y65.2.2), ()) else some (([], y65), ())) (fun y67 y68 y69 y70 => some (([], y69.1, wrap .i64 ((l.length : Int) - y69.1), y69.2.2), ()))) = some ((es, (e : Int), (if Sp.blk l e = true then (l.length : Int) - (e : Int) else 0), ()), ()) := by
   rintro rfl
   have c := c0_l l e (by omega) m (0, 0, ()) ((e : Int), 0, ())
   rw [gd_sl3 (by omega) (by omega) (by omega), Int.toNat_natCast]
   cases hb : Sp.blk l e with
   | true =>
     rw [c.1 hb, if_pos rfl]
     unfold B_63_79_0_0
     dsimp only
     rw [wi64 (by omega) (by omega)]
   | false =>
     obtain ⟨q, hq⟩ := c.2 hb
     rw [hq, if_neg Bool.false_ne_true]
     unfold B_63_79_0_0
     dsimp only
     rw [decide_eq_true (by omega), Bool.not_true, cond_f]
 have full : gd (sl3 (e : Int) (l.length : Int) (l.length : Int)) (B_63_79_0_1 (L_63_79_0_1 4611686018427387904 (drop (toNat (e : Int)) l) (drop (toNat (e : Int)) l).length 0 m (0, 0, ()) ((e : Int), 0, ()) l es) (fun y89 y90 y91 y92 y93 y94 => bif !decide (y89 ≥ 0) then some ((y94, y92.1, wrap .i64 ((l.length : Int) - y92.1), y92.2.2), ()) else some ((y94, y92), ())) (fun y95 y96 y97 y98 y99 => some ((y99, y97.1, wrap .i64 ((l.length : Int) - y97.1), y97.2.2), ()))) = some ((es, (e : Int), (if Sp.blk l e = true then (l.length : Int) - (e : Int) else 0), ()), ()) := by
   have c := c1_l l e (by omega) m (0, 0, ()) ((e : Int), 0, ()) es
   rw [gd_sl3 (by omega) (by omega) (by omega), Int.toNat_natCast]
   cases hb : Sp.blk l e with
   | true =>
     rw [c.1 hb, if_pos rfl]
     unfold B_63_79_0_1
     dsimp only
     rw [wi64 (by omega) (by omega)]
   | false =>
     obtain ⟨q, hq⟩ := c.2 hb
     rw [hq, if_neg Bool.false_ne_true]
     unfold B_63_79_0_1
     dsimp only
     rw [decide_eq_true (by omega), Bool.not_true, cond_f]
 rcases r with ⟨r | r, e0⟩ | r | r
 · exact (congrArg (fun z => B_63_74_0_0 z _ _ _ _) r).trans (nil e0)
 · exact (congrArg (fun z => B_63_74_0_0 z _ _ _ _) r).trans (nil e0)
 · exact (congrArg (fun z => B_63_74_0_0 z _ _ _ _) r).trans full
 · exact (congrArg (fun z => B_63_74_0_0 z _ _ _ _) r).trans full
namespace Sp
noncomputable def zM : MeT := (([], [], 0, ()), 0, 0, ())
noncomputable def ent (m : MeT) : List EnT := (rdv (hwr m (acv m))).1
noncomputable def entv (m : MeT) : List EnT × Int × Unit := if mvl m = true then (ent m, 0, ()) else ([], 1, ())
noncomputable def fky (es : List EnT) (key : Int) : Option Nat := fnd (fun j => (es.getD j dE).1 == key) es.length 0
noncomputable def rdk (m : MeT) (key : Int) : List Int × Int × Unit := if mvl m = true then (if key < 0 ∨ key > 254 then ([], 2, ()) else (match fky (ent m) key with | some j => (((ent m).getD j dE).2.1, 0, ()) | none => ([], 7, ()))) else ([], 1, ())
noncomputable def opn (f : FlT) (a n : Int) : MeT × Int × Unit := if fv f = true then (if plc (f, a, n, ()) = true then (if acb (f, a, n, ()) = true then ((f, a, n, ()), 0, ()) else (zM, 7, ())) else (zM, 2, ())) else (zM, 1, ())
end Sp
theorem half_1 {m : MeT} (hv : Sp.fv m.1 = true) (hp : Sp.plc m = true) : (Sp.hwr m (Sp.acv m)).length ≤ 600 ∧ 1 ≤ (Sp.hwr m (Sp.acv m)).length := by
 have l := hwr_len hv hp (acv_lt m)
 have b := pl_b hv hp
 omega
theorem ent_b {m : MeT} (hw : W32f m.1) (h : Sp.mvl m = true) : KOK (Sp.ent m) ∧ (Sp.ent m).length ≤ 600 := by
 obtain ⟨hv, hp, _⟩ := mvl_d h
 have l := half_1 hv hp
 have r := rdv_b (hw.half (Sp.acv m)) l.1 l.2
 exact ⟨r.1, by have := r.2.1; unfold Sp.ent; omega⟩
theorem ent_pv {m : MeT} (hw : W32f m.1) : p_49 m = true ∧ v_49 m = Sp.entv m := by
 have v := mvl_pv hw
 refine pv_49 m ?_
 unfold F_49 Sp.entv
 rw [v.1, v.2, gd_tt]
 dsimp only
 cases hm : Sp.mvl m
 · rfl
 obtain ⟨hv, hp, _⟩ := mvl_d hm
 have a := acv_pv hw hv hp
 rw [Bool.not_true, cond_f, if_pos rfl, a.1, a.2, gd_tt]
 dsimp only
 have r := read_pv hw hv hp (acv_lt m)
 rw [r.1, r.2, gd_tt]
 rfl
theorem rdk_pv {m : MeT} (hw : W32f m.1) (key : Int) : p_28 m key = true ∧ v_28 m key = Sp.rdk m key := by
 have e := ent_pv hw
 refine pv_28 m key ?_
 unfold F_28 Sp.rdk
 rw [e.1, e.2, gd_tt]
 unfold Sp.entv
 by_cases hm : Sp.mvl m = true
 rotate_left
 · rw [if_neg hm, if_neg hm]; rfl
 rw [if_pos hm, if_pos hm, cond_nff rfl]
 by_cases h0 : key < 0
 · rw [cond_dtt h0, if_pos (.inl h0)]
 rw [cond_dff h0]
 by_cases h1 : key > 254
 · rw [cond_dtt h1, if_pos (.inr h1)]
 rw [cond_dff h1, if_neg (fun a => a.elim h0 h1)]
 have b := ent_b hw hm
 dsimp only
 generalize Sp.ent m = es at *
 have hf := find0 (fun m i => L_28_0 m key es es.length i) (n := es.length) (fun j => (es.getD j Sp.dE).1 == key) (ex := fun j => some (.e0 es (j : Int))) (e1 := some .e1) (by omega) (fun m j hj => by
   show L_28_0 (m + 1) key es es.length (j : Int) = bif (es.getD j Sp.dE).1 == key then some (.e0 es (j : Int)) else L_28_0 m key es es.length ((j + 1 : Nat) : Int)
   rw [L_28_0, S_28_0, cond_dtt (by omega), gd_inB (by omega) (by omega), Int.toNat_natCast, wi64 (by omega) (by omega)]
   push_cast
   rfl) (fun m => by
   show L_28_0 (m + 1) key es es.length (es.length : Int) = _
   rw [L_28_0, S_28_0, cond_dff (by omega)])
 rw [show fnd (fun j => (es.getD j Sp.dE).1 == key) es.length 0 = Sp.fky es key from rfl] at hf
 refine (congrArg (fun z => B_28_0 z _ _) hf).trans ?_
 cases Sp.fky es key with
 | none => rfl
 | some j =>
   show some ((getD es (toNat (j : Int)) _).2.1, 0, ()) = _
   rw [Int.toNat_natCast]
   rfl
theorem rdk_b {m : MeT} (hw : W32f m.1) (key : Int) : W32l (Sp.rdk m key).1 ∧ (Sp.rdk m key).1.length ≤ 24 := by
 have nil : W32l [] ∧ ([] : List Int).length ≤ 24 := ⟨(fun x hx => by cases hx), Nat.zero_le _⟩
 unfold Sp.rdk
 by_cases hm : Sp.mvl m = true
 rotate_left
 · rw [if_neg hm]; exact nil
 rw [if_pos hm]
 by_cases h : key < 0 ∨ key > 254
 · rw [if_pos h]; exact nil
 rw [if_neg h]
 have b := ent_b hw hm
 cases hf : Sp.fky (Sp.ent m) key with
 | none => exact nil
 | some j =>
   unfold Sp.fky at hf
   have hj := (fnd_some hf).2.1
   have hj : j < (Sp.ent m).length := by omega
   have := b.1 _ (List.getElem_mem hj)
   show W32l ((Sp.ent m).getD j Sp.dE).2.1 ∧ _
   dsimp only
   rw [getD_at _ hj]
   exact ⟨this.2.2, this.2.1⟩
theorem cpy_pv {f : FlT} (h : Sp.fv f = true) : p_15 f = true ∧ v_15 f = (f, ()) := by
 have v := fv_iff.1 h
 refine pv_15 f ?_
 unfold F_15
 rw [gd_room (by omega) (by omega), gd_room (by omega) (by omega)]
theorem opn_pv {f : FlT} (hw : W32f f) (a n : Int) : p_6 f a n = true ∧ v_6 f a n = Sp.opn f a n := by
 have v := fv_pv f
 refine pv_6 f a n ?_
 unfold F_6 Sp.opn
 rw [v.1, v.2, gd_tt]
 dsimp only
 cases hv : Sp.fv f
 · rfl
 have c := cpy_pv hv
 have hl := fv_iff.1 hv
 have p := plc_pv (f, a, n, ()) (show f.2.1.length ≤ 1000000 by omega)
 rw [Bool.not_true, cond_f, if_pos rfl, c.1, c.2, gd_tt, p.1, p.2, gd_tt]
 dsimp only
 cases hp : Sp.plc (f, a, n, ())
 · rfl
 have t := acv_pv (m := (f, a, n, ())) hw hv hp
 rw [Bool.not_true, cond_f, if_pos rfl, t.1, t.2, gd_tt]
 dsimp only
 cases Sp.acb (f, a, n, ()) <;> rfl
set_option maxRecDepth 100000
set_option maxHeartbeats 4000000
theorem orW_len (ws : List Int) (o : Nat) (b : Int) (n : Nat) : (Sp.orW ws o b n).length = ws.length := by simp [Sp.orW]
theorem orW_get (ws : List Int) (o : Nat) (b : Int) (n i : Nat) (h : i < ws.length) : (Sp.orW ws o b n).getD i 0 = if o ≤ i ∧ i < o + n then Sp.orI .u32 (ws.getD i 0) b else ws.getD i 0 := by
 have hl : i < (Sp.orW ws o b n).length := by rw [orW_len]; exact h
 rw [getD_at 0 hl, getD_at 0 h]
 simp [Sp.orW]
theorem orW_zero (ws : List Int) (o : Nat) (b : Int) : Sp.orW ws o b 0 = ws := by
 refine list_ext 0 (orW_len ..) (fun j hj => ?_)
 rw [orW_len] at hj
 rw [orW_get _ _ _ _ _ hj, if_neg (by omega)]
theorem orW_succ (ws : List Int) (o : Nat) (b : Int) (n : Nat) (h : o + n < ws.length) : (Sp.orW ws o b n).set (o + n) (Sp.orI .u32 ((Sp.orW ws o b n).getD (o + n) 0) b) = Sp.orW ws o b (n + 1) := by
 refine list_ext 0 (by rw [List.length_set, orW_len, orW_len]) (fun j hj => ?_)
 rw [List.length_set, orW_len] at hj
 rw [getD_set _ _ _ _ _ (by rw [orW_len]; exact h), orW_get _ _ _ _ _ hj, orW_get _ _ _ _ _ hj, orW_get _ _ _ _ _ h]
 split
 · subst j
   rw [if_neg (by omega), if_pos (by omega)]
 · by_cases hh : o ≤ j ∧ j < o + n
   · rw [if_pos hh, if_pos (by omega)]
   · rw [if_neg hh, if_neg (by omega)]
theorem ers_ok {f : FlT} {p : PwT} {s : Nat} (h : Sp.fv f = true) (h0 : 0 ≤ p.1) (h1 : p.1 ≤ 1099511627776) (h2 : s < f.2.1.length) : F_43 f s p = some (Sp.ers f s p) := by
 have hv := fv_iff.1 h
 unfold F_43 Sp.ers Sp.ew
 rw [(chk_pv h h0 h1 (by omega) (by omega)).1, (chk_pv h h0 h1 (by omega) (by omega)).2, gd_tt, cond_nff rfl, gd_inB (by omega) (by omega), Int.toNat_natCast]
 by_cases e : f.2.1.getD s 0 = f.2.2.1
 · rw [cond_ett e, if_pos e]
 rw [cond_eff e, if_neg e, gd_room (by omega) (by omega), gd_room (by omega) (by omega)]
 have hb := hv.2.2.2.2.2 s h2
 by_cases e0 : p.1 = 0
 · rw [cond_ett e0, if_pos e0]
 rw [cond_eff e0, if_neg e0, wi64 (n := (s : Int) + 1) (by omega) (by omega), wi64 (n := (s : Int) * 64) (by omega) (by omega), wi64 (n := ((s : Int) + 1) * 64) (by omega) (by omega), gd_sl3 (by omega) (by omega) (by omega),
   show (((s : Int) + 1) * 64).toNat - ((s : Int) * 64).toNat = 64 by omega, show ((s : Int) * 64).toNat = s * 64 by omega]
 have hr : ∀ (b : Int) (p5 : FlT) (p6 : Int) (p7 : PwT) (p8 : Int × PUnit) (p9 : PwT) (p10 : FlT) (p11 : PwT) (p12 : Int × PUnit) (p13 : PwT) (p15 : List Int) (p16 p17 : Int × PUnit), L_43_58_0_0 4611686018427387904 b (s * 64) 64 ((64 : Nat) : Int) 0 p5 p6 p7 p8 p9 p10 p11 p12 p13 f.1 p15 p16 p17 = some (.e0 p5 p6 p7 p8 p9 p10 p11 p12 p13 (Sp.orW f.1 (s * 64) b 64) p15 p16 p17) := by
   intro b p5 p6 p7 p8 p9 p10 p11 p12 p13 p15 p16 p17
   have := run0 (fun m i ws => L_43_58_0_0 m b (s * 64) 64 ((64 : Nat) : Int) i p5 p6 p7 p8 p9 p10 p11 p12 p13 ws p15 p16 p17) (n := 64) (fun j => Sp.orW f.1 (s * 64) b j) (r := some (.e0 p5 p6 p7 p8 p9 p10 p11 p12 p13 (Sp.orW f.1 (s * 64) b 64) p15 p16 p17)) (by omega) (fun m j hj => by
     show L_43_58_0_0 (m + 1) b (s * 64) 64 ((64 : Nat) : Int) (j : Int) p5 p6 p7 p8 p9 p10 p11 p12 p13 (Sp.orW f.1 (s * 64) b j) p15 p16 p17 = _
     rw [L_43_58_0_0, S_43_58_0_0, cond_dtt (by omega)]
     simp only [gd_inB (show (0 : Int) ≤ (j : Int) by omega) (show (j : Int) < ((64 : Nat) : Int) by omega), Int.toNat_natCast, Bool.and_true, orW_len, gd_dec (show s * 64 + j < f.1.length by omega)]
     rw [orW_succ _ _ _ _ (by omega), wi64 (by omega) (by omega)]
     push_cast
     rfl) (fun m => by
     show L_43_58_0_0 (m + 1) b (s * 64) 64 ((64 : Nat) : Int) ((64 : Nat) : Int) p5 p6 p7 p8 p9 p10 p11 p12 p13 (Sp.orW f.1 (s * 64) b 64) p15 p16 p17 = _
     rw [L_43_58_0_0, S_43_58_0_0, cond_dff (by omega)])
   rw [orW_zero] at this
   exact this
 simp only [hr, B_43_58_0_0]
 simp only [gd_inB (show (0 : Int) ≤ (s : Int) by omega) (show (s : Int) < ((f.2.1.length : Nat) : Int) by omega), Int.toNat_natCast, Bool.and_true, gd_dec h2]
 rw [wi64 (n := f.2.1.getD s 0 + 1) (by omega) (by omega)]
 by_cases e1 : p.1 = 1
 · rw [cond_ett e1, if_pos e1]
 rw [cond_eff e1, if_neg e1, wi64 (by omega) (by omega), gd_sl3 (by omega) (by omega) (by omega)]
theorem ers_pv {f : FlT} {p : PwT} {s : Nat} (h : Sp.fv f = true) (h0 : 0 ≤ p.1) (h1 : p.1 ≤ 1099511627776) (h2 : s < f.2.1.length) : p_43 f s p = true ∧ v_43 f s p = Sp.ers f s p := pv_43 f s p (ers_ok h h0 h1 h2)
abbrev StT := Bool × Int × Int × Unit
abbrev OuM := MeT × PwT × Int × Unit
namespace Sp
noncomputable def pok (p : PwT) : Bool := decide (0 ≤ p.1) && decide (p.1 ≤ 1099511627776)
noncomputable def dop (s : RsT) (x : StT) : RsT := if x.1 = true then ers s.1 x.2.1.toNat s.2.1 else prg s.1 x.2.1.toNat x.2.2.1 s.2.1
/-- Steps until something fails. -/
noncomputable def dol : List StT → RsT → RsT
 | [], s => s
 | x :: l, s => if s.2.2.1 = 0 then dol l (dop s x) else s
noncomputable def dov (m : MeT) (l : List StT) (p : PwT) : OuM := if (dol l (m.1, p, 0, ())).2.2.1 = 0 ∨ (dol l (m.1, p, 0, ())).2.2.1 = 18 then (((dol l (m.1, p, 0, ())).1, m.2), (dol l (m.1, p, 0, ())).2.1, (dol l (m.1, p, 0, ())).2.2.1, ()) else (zM, (0, 0, ()), (dol l (m.1, p, 0, ())).2.2.1, ())
/-- The steps that erase n sectors from a on. -/
noncomputable def erl : Nat → Int → List StT
 | 0, _ => []
 | n + 1, a => (true, a, 0, ()) :: erl n (a + 1)
noncomputable def wor (f : FlT) : Nat → Nat → Bool
 | 0, _ => false
 | n + 1, a => decide (f.2.1.getD a 0 ≥ f.2.2.1) || wor f n (a + 1)
noncomputable def pgl : List Int → Int → List StT
 | [], _ => []
 | x :: l, a => (false, a, x, ()) :: pgl l (a + 1)
noncomputable def fmv (f : FlT) (a n : Int) (p : PwT) : OuM := if fv f = true ∧ pok p = true then (if plc (f, a, n, ()) = true then (if wor f n.toNat a.toNat = true then (zM, (0, 0, ()), 19, ()) else dov (f, a, n, ()) (erl n.toNat a ++ pgl [prw 1] (64 * a)) p) else (zM, (0, 0, ()), 2, ())) else (zM, (0, 0, ()), 1, ())
end Sp
theorem dol_stop (l : List StT) {s : RsT} (h : s.2.2.1 ≠ 0) : Sp.dol l s = s := by
 cases l with
 | nil => rfl
 | cons x l => rw [Sp.dol, if_neg h]
theorem bv_rng (b : BitVec 32) : 0 ≤ wrap .u32 ((b.toNat : Nat) : Int) ∧ wrap .u32 ((b.toNat : Nat) : Int) < 4294967296 := by
 have := b.isLt
 rw [u32_wrap_nat b.isLt]; omega
theorem W32f_orW {f : FlT} (h : W32f f) (o : Nat) (b : Int) (n : Nat) (r : List Int × Int × Unit) : W32f (Sp.orW f.1 o b n, r) := by
 intro x hx
 obtain ⟨i, hi, e⟩ := List.mem_iff_getElem.1 hx
 have hl : i < f.1.length := by rw [show (Sp.orW f.1 o b n, r).1 = Sp.orW f.1 o b n from rfl, orW_len] at hi; exact hi
 have g := orW_get f.1 o b n i hl
 rw [getD_at 0 (by rw [orW_len]; exact hl)] at g
 have e : (Sp.orW f.1 o b n)[i]'(by rw [orW_len]; exact hl) = x := e
 rw [e] at g
 rw [g]
 split
 · exact bv_rng _
 · exact h.at i
theorem fv_ew {f : FlT} {s : Nat} (b : Int) (h : Sp.fv f = true) (h1 : f.2.1.getD s 0 ≠ f.2.2.1) (h2 : s < f.2.1.length) : Sp.fv (Sp.ew f s b) = true := by
 have hv := fv_iff.1 h
 unfold Sp.ew
 refine fv_iff.2 ⟨?_, ?_, ?_, hv.2.2.2.1, hv.2.2.2.2.1, fun j hj => ?_⟩
 · simp only [List.length_set]; omega
 · simp only [List.length_set]; omega
 · simp only [List.length_set, orW_len]; omega
 · simp only [List.length_set] at hj
   have a := hv.2.2.2.2.2 j hj
   have c := hv.2.2.2.2.2 s h2
   dsimp only
   rw [getD_set _ _ _ _ _ h2]
   split
   · omega
   · exact a
/-- What stays true while steps are carried out. -/
structure SG (f0 : FlT) (s : RsT) : Prop where
 v : Sp.fv s.1 = true
 l : s.1.1.length = f0.1.length
 n : s.1.2.1.length = f0.2.1.length
 w : W32f s.1
 p0 : 0 ≤ s.2.1.1
 p1 : s.2.1.1 ≤ 1099511627776
 e : s.2.2.1 = 0 ∨ s.2.2.1 = 18
/-- A step within the flash memory. -/
noncomputable def SV (f0 : FlT) (x : StT) : Prop := 0 ≤ x.2.1 ∧ (x.1 = true → x.2.1 < f0.2.1.length) ∧ (x.1 = false → x.2.1 < f0.1.length)
theorem fv_pw (f : FlT) (k : Nat) (w b : Int) : Sp.fv (Sp.pw f k w b) = Sp.fv f := by
 unfold Sp.pw Sp.fv
 dsimp only
 rw [List.length_set]
 rfl
theorem prg_sg {f0 : FlT} {s : RsT} (h : SG f0 s) (k : Nat) (x : Int) : SG f0 (Sp.prg s.1 k x s.2.1) := by
 have hw : ∀ b, W32f (Sp.pw s.1 k x b) := fun b y hy => by
   rcases List.mem_or_eq_of_mem_set hy with h1 | rfl
   · exact h.w y h1
   · exact bv_rng _
 have hl : ∀ b, (Sp.pw s.1 k x b).1.length = f0.1.length := fun b => by unfold Sp.pw; dsimp only; rw [List.length_set]; exact h.l
 have p0 := h.p0
 have p1 := h.p1
 unfold Sp.prg
 split
 · exact ⟨h.v, h.l, h.n, h.w, h.p0, h.p1, .inr rfl⟩
 split
 · exact ⟨by rw [fv_pw]; exact h.v, hl _, h.n, hw _, Int.le_refl _, by show (0 : Int) ≤ _; decide, .inr rfl⟩
 · refine ⟨by rw [fv_pw]; exact h.v, hl _, h.n, hw _, ?_, ?_, .inl rfl⟩
   · show 0 ≤ s.2.1.1 - 1; omega
   · show s.2.1.1 - 1 ≤ _; omega
theorem ers_sg {f0 : FlT} {s : RsT} (h : SG f0 s) {k : Nat} (hk : k < f0.2.1.length) : SG f0 (Sp.ers s.1 k s.2.1) ∨ (Sp.ers s.1 k s.2.1).2.2.1 = 19 := by
 have p0 := h.p0
 have p1 := h.p1
 have hkl : k < s.1.2.1.length := by rw [h.n]; exact hk
 by_cases hn : s.1.2.1.getD k 0 = s.1.2.2.1
 · right
   unfold Sp.ers
   rw [if_pos hn]
 left
 have he : ∀ b, Sp.fv (Sp.ew s.1 k b) = true := fun b => fv_ew b h.v hn hkl
 have hl1 : ∀ b, (Sp.ew s.1 k b).1.length = f0.1.length := fun b => by unfold Sp.ew; dsimp only; rw [orW_len]; exact h.l
 have hw1 : ∀ b, W32f (Sp.ew s.1 k b) := fun b => W32f_orW h.w _ _ _ _
 have hn1 : ∀ b, (Sp.ew s.1 k b).2.1.length = f0.2.1.length := fun b => by unfold Sp.ew; dsimp only; rw [List.length_set]; exact h.n
 unfold Sp.ers
 rw [if_neg hn]
 split
 · exact ⟨h.v, h.l, h.n, h.w, p0, p1, .inr rfl⟩
 split
 · exact ⟨he _, hl1 _, hn1 _, hw1 _, Int.le_refl _, (by show (0 : Int) ≤ _; decide), .inr rfl⟩
 · exact ⟨he _, hl1 _, hn1 _, hw1 _, (by show 0 ≤ s.2.1.1 - 1; omega), (by show s.2.1.1 - 1 ≤ _; omega), .inl rfl⟩
theorem dop_sg {f0 : FlT} {s : RsT} (h : SG f0 s) {x : StT} (hx : SV f0 x) : SG f0 (Sp.dop s x) ∨ (Sp.dop s x).2.2.1 = 19 := by
 unfold Sp.dop
 cases hb : x.1
 · rw [if_neg Bool.false_ne_true]
   exact .inl (prg_sg h _ _)
 · rw [if_pos rfl]
   have := hx.2.1 hb
   have := hx.1
   exact ers_sg h (by omega)
theorem dol_sg {f0 : FlT} : ∀ (l : List StT) {s : RsT}, SG f0 s → (∀ x ∈ l, SV f0 x) → SG f0 (Sp.dol l s) ∨ (Sp.dol l s).2.2.1 = 19
 | [], s, h, _ => .inl h
 | x :: l, s, h, hv => by
   rw [Sp.dol]
   split
   · rcases dop_sg h (hv x (by simp)) with g | g
     · exact dol_sg l g (fun y hy => hv y (by simp [hy]))
     · rw [dol_stop _ (by rw [g]; decide)]; exact .inr g
   · exact .inl h
theorem drop_s {l : List StT} {j : Nat} (d : StT) (h : j < l.length) : l.drop j = l.getD j d :: l.drop (j + 1) := by
 rw [List.drop_eq_getElem_cons h, List.getD_eq_getElem?_getD, List.getElem?_eq_getElem h]; rfl
theorem dv_l {f0 : FlT} (l : List StT) (hv : ∀ x ∈ l, SV f0 x) (hl : l.length ≤ 1000000) (hf : f0.1.length ≤ 100000) (hf2 : f0.2.1.length ≤ 1000) (r : Int × Int × Unit) (p5 : Int × Unit) (p6 : PwT) (p7 p8 : List Int) (p9 : PwT) : ∀ (d m j : Nat) (s : RsT), SG f0 s → s.2.2.1 = 0 → j + d = l.length → d < m →
   L_21_0 m l l.length j (s.1, r) s.2.1 p5 p6 p7 p8 p9 = some (if (Sp.dol (l.drop j) s).2.2.1 = 0 then .e2 ((Sp.dol (l.drop j) s).1, r) (Sp.dol (l.drop j) s).2.1 p5 p6 p7 p8 p9 else if (Sp.dol (l.drop j) s).2.2.1 = 18 then .e0 18 ((Sp.dol (l.drop j) s).1, r) (Sp.dol (l.drop j) s).2.1 else .e1 (Sp.dol (l.drop j) s).2.2.1) := by
 intro d
 induction d with
 | zero =>
   intro m j s h e hj hm
   obtain ⟨m, rfl⟩ : ∃ k, m = k + 1 := ⟨m - 1, by omega⟩
   rw [L_21_0, S_21_0, cond_dff (by omega), List.drop_of_length_le (by omega), Sp.dol, if_pos e]
 | succ d ih =>
   intro m j s h e hj hm
   obtain ⟨m, rfl⟩ : ∃ k, m = k + 1 := ⟨m - 1, by omega⟩
   have hjl : j < l.length := by omega
   have hx := hv _ (List.getElem_mem hjl)
   rw [← getD_at Zd0 hjl] at hx
   have fl := h.l
   have fn := h.n
   rw [L_21_0, S_21_0, cond_dtt (by omega), gd_inB (by omega) (by omega), Int.toNat_natCast, drop_s Zd0 hjl, Sp.dol, if_pos e]
   generalize getD l j Zd0 = x at *
   have hg := dop_sg h hx
   have x0 := hx.1
   -- what comes behind the operation
   have fin : ∀ t : RsT, t = Sp.dop s x → B_21_1 (J_21_1 t.2.2.1 l l.length j (t.1, r) t.2.1 p5 p6 p7 p8 p9) (fun y30 y31 y32 => some (.e0 y30 y31 y32)) (fun y33 => some (.e1 y33)) (fun y34 y35 y36 y37 y38 y39 y40 y41 y42 y43 y44 => L_21_0 m y35 y36 (wrap .i64 (y37 + 1)) y38 y39 y40 y41 y42 y43 y44) = some (if (Sp.dol (l.drop (j + 1)) (Sp.dop s x)).2.2.1 = 0 then .e2 ((Sp.dol (l.drop (j + 1)) (Sp.dop s x)).1, r) (Sp.dol (l.drop (j + 1)) (Sp.dop s x)).2.1 p5 p6 p7 p8 p9 else if (Sp.dol (l.drop (j + 1)) (Sp.dop s x)).2.2.1 = 18 then .e0 18 ((Sp.dol (l.drop (j + 1)) (Sp.dop s x)).1, r) (Sp.dol (l.drop (j + 1)) (Sp.dop s x)).2.1 else .e1 (Sp.dol (l.drop (j + 1)) (Sp.dop s x)).2.2.1) := by
     rintro t rfl
     unfold J_21_1 S_21_1
     by_cases e18 : (Sp.dop s x).2.2.1 = 18
     · rw [cond_ett e18, dol_stop _ (by rw [e18]; decide), if_neg (by rw [e18]; decide), if_pos e18, e18]
       rfl
     rw [cond_eff e18]
     by_cases e0 : (Sp.dop s x).2.2.1 = 0
     · rw [cond_nff e0]
       unfold B_21_1
       dsimp only
       rw [wi64 (by omega) (by omega), show (j : Int) + 1 = ((j + 1 : Nat) : Int) by push_cast; rfl]
       rcases hg with g | g
       · exact ih m (j + 1) _ g e0 (by omega) (by omega)
       · rw [e0] at g; cases g
     · rw [cond_ntt e0, dol_stop _ e0, if_neg e0, if_neg e18]
       rfl
   cases hb : x.1 with
   | true =>
     have := hx.2.1 hb
     have pv := ers_pv (f := s.1) (p := s.2.1) (s := x.2.1.toNat) h.v h.p0 h.p1 (by omega)
     rw [show ((x.2.1.toNat : Nat) : Int) = x.2.1 by omega] at pv
     rw [cond_t, pv.1, pv.2, gd_tt]
     exact fin _ (by unfold Sp.dop; rw [if_pos hb])
   | false =>
     have := hx.2.2 hb
     have pv := prg_pv (f := s.1) (p := s.2.1) (k := x.2.1.toNat) (w := x.2.2.1) h.v h.p0 h.p1 (by omega)
     rw [show ((x.2.1.toNat : Nat) : Int) = x.2.1 by omega] at pv
     rw [cond_f, pv.1, pv.2, gd_tt]
     exact fin _ (by unfold Sp.dop; rw [if_neg (by rw [hb]; exact Bool.false_ne_true)])
theorem SG.init {f : FlT} {p : PwT} (h : Sp.fv f = true) (hw : W32f f) (h0 : 0 ≤ p.1) (h1 : p.1 ≤ 1099511627776) : SG f (f, p, 0, ()) := ⟨h, rfl, rfl, hw, h0, h1, .inl rfl⟩
theorem do_pv {m : MeT} {l : List StT} {p : PwT} (hv : Sp.fv m.1 = true) (hw : W32f m.1) (h0 : 0 ≤ p.1) (h1 : p.1 ≤ 1099511627776) (hs : ∀ x ∈ l, SV m.1 x) (hl : l.length ≤ 1000000) : p_21 m l p = true ∧ v_21 m l p = Sp.dov m l p := by
 have c := cpy_pv hv
 have v := fv_iff.1 hv
 refine pv_21 m l p ?_
 unfold F_21 Sp.dov
 rw [c.1, c.2, gd_tt]
 have t := dv_l (f0 := m.1) l hs hl (by omega) (by omega) m.2 (0, ()) (0, 0, ()) [] [] (0, 0, ()) l.length 4611686018427387904 0 _ (SG.init hv hw h0 h1) rfl (by omega) (by omega)
 rw [List.drop_zero] at t
 refine (congrArg (fun z => B_21_0 z _ _ _) t).trans ?_
 by_cases e0 : (Sp.dol l (m.1, p, 0, ())).2.2.1 = 0
 · rw [if_pos e0, if_pos (.inl e0), e0]
   rfl
 rw [if_neg e0]
 by_cases e1 : (Sp.dol l (m.1, p, 0, ())).2.2.1 = 18
 · rw [if_pos e1, if_pos (.inr e1), e1]
   rfl
 · rw [if_neg e1, if_neg (fun a => a.elim e0 e1)]
   rfl
theorem dov_w {m : MeT} {l : List StT} {p : PwT} (hv : Sp.fv m.1 = true) (hw : W32f m.1) (h0 : 0 ≤ p.1) (h1 : p.1 ≤ 1099511627776) (hs : ∀ x ∈ l, SV m.1 x) : W32f (Sp.dov m l p).1.1 := by
 unfold Sp.dov
 split
 · rename_i h
   rcases dol_sg l (SG.init hv hw h0 h1) hs with g | g
   · exact g.w
   · rw [g] at h; rcases h with h | h <;> cases h
 · intro x hx; cases hx
theorem erl_len : ∀ (n : Nat) (a : Int), (Sp.erl n a).length = n
 | 0, _ => rfl
 | n + 1, a => by rw [Sp.erl, List.length_cons, erl_len n]
theorem erl_snoc : ∀ (n : Nat) (a : Int), Sp.erl (n + 1) a = Sp.erl n a ++ [(true, a + n, 0, ())]
 | 0, a => by simp [Sp.erl]
 | n + 1, a => by
   rw [Sp.erl, erl_snoc n (a + 1), Sp.erl, List.cons_append]
   congr 3
   congr 2
   omega
theorem erl_sv {f0 : FlT} : ∀ (n : Nat) (a : Int), 0 ≤ a → a + n ≤ f0.2.1.length → ∀ x ∈ Sp.erl n a, SV f0 x
 | 0, a, _, _ => by simp [Sp.erl]
 | n + 1, a, h0, h1 => by
   intro x hx
   rw [Sp.erl] at hx
   rcases List.mem_cons.1 hx with rfl | hx
   · exact ⟨h0, (fun _ => by show a < _; omega), (fun h => by cases h)⟩
   · exact erl_sv n (a + 1) (by omega) (by omega) x hx
theorem pgl_sv {f0 : FlT} : ∀ (l : List Int) (a : Int), 0 ≤ a → a + l.length ≤ f0.1.length → ∀ x ∈ Sp.pgl l a, SV f0 x
 | [], a, _, _ => by simp [Sp.pgl]
 | w :: l, a, h0, h1 => by
   intro x hx
   rw [List.length_cons] at h1
   rw [Sp.pgl] at hx
   rcases List.mem_cons.1 hx with rfl | hx
   · exact ⟨h0, (fun h => by cases h), (fun _ => by show a < _; omega)⟩
   · exact pgl_sv l (a + 1) (by omega) (by omega) x hx
theorem pgl_len : ∀ (l : List Int) (a : Int), (Sp.pgl l a).length = l.length
 | [], _ => rfl
 | x :: l, a => by rw [Sp.pgl, List.length_cons, List.length_cons, pgl_len l]
theorem pgl_snoc : ∀ (l : List Int) (x a : Int), Sp.pgl (l ++ [x]) a = Sp.pgl l a ++ [(false, a + l.length, x, ())]
 | [], x, a => by simp [Sp.pgl]
 | y :: l, x, a => by
   rw [List.cons_append, Sp.pgl, pgl_snoc l x (a + 1), Sp.pgl, List.cons_append]
   congr 3
   congr 2
   rw [List.length_cons]; omega
/-- The steps that erase sectors, or that one of them is worn. -/
theorem erl_l {m : MeT} (hw : m.1.2.1.length ≤ 1000) (b : Nat) (hb : b ≤ m.1.2.1.length) : ∀ (d q i : Nat) (a : Nat) (acc : Nat), a + acc = i → i + d = b → d < q → L_20_0 q b i m (Sp.erl acc a) = some (if Sp.wor m.1 d i = true then .e0 else .e1 (Sp.erl (acc + d) a)) := by
 intro d
 induction d with
 | zero =>
   intro q i a acc h1 h2 h3
   obtain ⟨q, rfl⟩ : ∃ k, q = k + 1 := ⟨q - 1, by omega⟩
   rw [L_20_0, S_20_0, cond_dff (by omega), Sp.wor, if_neg Bool.false_ne_true]
   rfl
 | succ d ih =>
   intro q i a acc h1 h2 h3
   obtain ⟨q, rfl⟩ : ∃ k, q = k + 1 := ⟨q - 1, by omega⟩
   rw [L_20_0, S_20_0, cond_dtt (by omega), gd_inB (by omega) (by omega), Int.toNat_natCast, Sp.wor]
   by_cases c : m.1.2.1.getD i 0 ≥ m.1.2.2.1
   · rw [cond_dtt c, decide_eq_true c, Bool.true_or, if_pos rfl]
   · rw [cond_dff c, decide_eq_false c, Bool.false_or, erl_len, gd_room (by omega) (by omega), wi64 (by omega) (by omega), show (i : Int) + 1 = ((i + 1 : Nat) : Int) by push_cast; rfl]
     have := ih q (i + 1) a (acc + 1) (by omega) (by omega) (by omega)
     rw [erl_snoc, show (a : Int) + (acc : Int) = (i : Int) by omega] at this
     rw [this, show acc + 1 + d = acc + (d + 1) by omega]
theorem erl_pv {m : MeT} (hw : m.1.2.1.length ≤ 1000) (a n : Nat) (hb : a + n ≤ m.1.2.1.length) : p_20 m (a : Int) ((a + n : Nat) : Int) = true ∧ v_20 m (a : Int) ((a + n : Nat) : Int) = (if Sp.wor m.1 n a = true then ([], false, ()) else (Sp.erl n a, true, ())) := by
 refine pv_20 _ _ _ ?_
 unfold F_20
 have t := erl_l hw (a + n) hb n 4611686018427387904 a a 0 (by omega) rfl (by omega)
 refine (congrArg (fun z => B_20_0 z _ _) t).trans ?_
 cases Sp.wor m.1 n a
 · rw [if_neg Bool.false_ne_true, if_neg Bool.false_ne_true, Nat.zero_add]; rfl
 · rfl
theorem pgl_pv {l : List Int} (hl : l.length ≤ 100000) {a : Int} (h0 : 0 ≤ a) (h1 : a ≤ 1000000) : p_22 a l = true ∧ v_22 a l = (Sp.pgl l a, ()) := by
 refine pv_22 a l ?_
 unfold F_22
 have t := run0 (fun m i acc => L_22_0 m a l l.length i acc) (n := l.length) (fun j => Sp.pgl (l.take j) a) (r := some (.e0 (Sp.pgl l a))) (by omega) (fun m j hj => by
   have hlen : (Sp.pgl (l.take j) a).length = j := by rw [pgl_len, List.length_take]; omega
   show L_22_0 (m + 1) a l l.length (j : Int) (Sp.pgl (l.take j) a) = L_22_0 m a l l.length ((j + 1 : Nat) : Int) (Sp.pgl (l.take (j + 1)) a)
   rw [L_22_0, S_22_0, cond_dtt (by omega), gd_inB (by omega) (by omega), Int.toNat_natCast, hlen, gd_room (by omega) (by omega), wi64 (n := (j : Int) + 1) (by omega) (by omega), wi64 (n := a + (j : Int)) (by omega) (by omega), List.take_succ_eq_append_getElem hj, pgl_snoc, List.length_take, Nat.min_eq_left (by omega), getD_at 0 hj]
   rfl) (fun m => by
   show L_22_0 (m + 1) a l l.length (l.length : Int) (Sp.pgl (l.take l.length) a) = _
   rw [L_22_0, S_22_0, cond_dff (by omega), List.take_length])
 exact (congrArg (fun z => B_22_0 z _) t).trans rfl
theorem pow_pv (p : PwT) : p_19 p = true ∧ v_19 p = (Sp.pok p, ()) := by
 refine pv_19 p ?_
 unfold F_19 Sp.pok
 by_cases h : p.1 ≥ 0
 · rw [cond_dtt h, decide_eq_true (p := 0 ≤ p.1) h, Bool.true_and]
 · rw [cond_dff h, decide_eq_false (p := 0 ≤ p.1) h, Bool.false_and]
theorem fm_sv {f : FlT} {a n : Int} (hv : Sp.fv f = true) (hp : Sp.plc (f, a, n, ()) = true) : ∀ x ∈ Sp.erl n.toNat a ++ Sp.pgl [Sp.prw 1] (64 * a), SV f x := by
 obtain ⟨p1, p2, p3, p4, p5⟩ := plc_iff.1 hp
 dsimp only at p1 p2 p3 p4 p5
 have v := fv_iff.1 hv
 intro x hx
 rcases List.mem_append.1 hx with hx | hx
 · exact erl_sv _ a p4 (by omega) x hx
 · exact pgl_sv _ _ (by omega) (by rw [List.length_singleton]; omega) x hx
theorem fmt_pv {f : FlT} {a n : Int} {p : PwT} (hw : W32f f) : p_7 f a n p = true ∧ v_7 f a n p = Sp.fmv f a n p := by
 have v := fv_pv f
 have pw := pow_pv p
 refine pv_7 f a n p ?_
 unfold F_7 Sp.fmv
 rw [v.1, v.2, gd_tt, pw.1, pw.2, gd_tt]
 dsimp only
 cases hv : Sp.fv f
 · rw [if_neg (fun a => Bool.noConfusion a.1)]; rfl
 cases hp : Sp.pok p
 · rw [if_neg (fun a => Bool.noConfusion a.2)]; rfl
 have hpb : 0 ≤ p.1 ∧ p.1 ≤ 1099511627776 := by unfold Sp.pok at hp; simpa using hp
 have hl := fv_iff.1 hv
 have pl := plc_pv (f, a, n, ()) (show f.2.1.length ≤ 1000000 by omega)
 rw [Bool.not_true, cond_f, cond_f, if_pos ⟨rfl, rfl⟩, pl.1, pl.2, gd_tt]
 dsimp only
 cases hpl : Sp.plc (f, a, n, ())
 · rfl
 obtain ⟨p1, p2, p3, p4, p5⟩ := plc_iff.1 hpl
 dsimp only at p1 p2 p3 p4 p5
 have er := erl_pv (m := (f, a, n, ())) (show f.2.1.length ≤ 1000 by omega) a.toNat n.toNat (show a.toNat + n.toNat ≤ f.2.1.length by omega)
 rw [show ((a.toNat : Nat) : Int) = a by omega, show ((a.toNat + n.toNat : Nat) : Int) = a + n by omega] at er
 rw [Bool.not_true, cond_f, if_pos rfl, wi64 (by omega) (by omega), er.1, er.2, gd_tt]
 dsimp only
 cases hwo : Sp.wor f n.toNat a.toNat
 rotate_left
 · rfl
 have b := pl_b (m := (f, a, n, ())) hv hpl
 have ad := adr_pv (m := (f, a, n, ())) hv hpl (k := 0) (by decide) (i := 0) (by omega) (by omega)
 rw [b.2.2.2.2.2.2.1, Int.add_zero] at ad
 have ad : p_23 (f, a, n, ()) 0 0 = true ∧ v_23 (f, a, n, ()) 0 0 = (64 * a, ()) := ad
 have p1v := pair_pv (n := 1) (by decide) (by decide)
 have pg := pgl_pv (l := [Sp.prw 1]) (by simp) (a := 64 * a) (by omega) (by omega)
 rw [if_neg Bool.false_ne_true, if_neg Bool.false_ne_true, Bool.not_true, cond_f, ad.1, ad.2, gd_tt, p1v.1, p1v.2, gd_tt]
 dsimp only
 rw [pg.1, pg.2, gd_tt]
 dsimp only
 rw [erl_len, pgl_len, List.length_singleton, gd_room (by omega) (by omega)]
 have d := do_pv (m := (f, a, n, ())) (l := Sp.erl n.toNat a ++ Sp.pgl [Sp.prw 1] (64 * a)) (p := p) hv hw hpb.1 hpb.2 (fm_sv hv hpl) (by rw [List.length_append, erl_len, pgl_len, List.length_singleton]; omega)
 rw [d.1, d.2, gd_tt]
theorem fmv_w {f : FlT} {a n : Int} {p : PwT} (hw : W32f f) : W32f (Sp.fmv f a n p).1.1 := by
 have z : W32f Sp.zM.1 := fun x hx => by cases hx
 unfold Sp.fmv
 split
 · rename_i h
   have hpb : 0 ≤ p.1 ∧ p.1 ≤ 1099511627776 := by have := h.2; unfold Sp.pok at this; simpa using this
   split
   · rename_i hp
     split
     · exact z
     · exact dov_w (m := (f, a, n, ())) h.1 hw hpb.1 hpb.2 (fm_sv h.1 hp)
   · exact z
 · exact z
set_option maxRecDepth 100000
set_option maxHeartbeats 4000000
abbrev CfT := Int × Int × Int × Int × Int × Int × Bool × Int × Unit
abbrev FaT := Int × Int × Int × Int × Int × List Int × Int × Unit
abbrev FsT := List CfT × List FaT × Int × Bool × Unit
namespace Sp
noncomputable def inr (x l h : Int) : Bool := decide (x ≥ l) && decide (x ≤ h)
noncomputable def cfg (c : CfT) : Bool := inr c.1 1 16777215 && (inr c.2.1 1 100 && (inr c.2.2.1 1 100 && (inr c.2.2.2.1 1 100 && (inr c.2.2.2.2.1 c.2.2.2.1 255 && (inr c.2.2.2.2.2.1 0 255 && inr c.2.2.2.2.2.2.2.1 0 8)))))
noncomputable def val (x : Int) : Bool := inr x (-1099511627776) 1099511627776
noncomputable def vals (l : List Int) : Bool := (List.range l.length).all fun j => val (l.getD j 0)
/-- A bit of a status. -/
noncomputable def bt (f : FaT) (k : Int) : Bool := andI .i64 f.1 k == k
noncomputable def kno (f : FaT) : Bool := decide (f.2.2.2.2.1 ≥ 1) && (decide (f.2.2.1 ≥ 1) && decide (f.2.2.2.2.2.2.1 ≥ 1))
noncomputable def unk (f : FaT) : Bool := (f.2.2.1 == 0) && ((f.2.2.2.1 == 0) && ((f.2.2.2.2.1 == 0) && (f.2.2.2.2.2.2.1 == 0)))
noncomputable def q2 (f : FaT) : Bool := !(bt f 2 && (f.2.2.2.1 != 0))
noncomputable def q1 (c : CfT) (f : FaT) : Bool := (bt f 4 == (f.2.2.1 == 2)) && (!bt f 16 || (bt f 4 && c.2.2.2.2.2.2.1))
noncomputable def q0 (cyc : Int) (f : FaT) : Bool := !bt f 1 || ((bt f 2 && bt f 8) && (f.2.2.2.2.2.2.1 == cyc))
noncomputable def rngs (c : CfT) (f : FaT) (cyc : Int) : Bool := inr f.1 0 31 && (inr f.2.1 (0 - c.2.2.1) c.2.1 && (inr f.2.2.1 0 2 && (inr f.2.2.2.1 0 (c.2.2.2.2.1 - 1) && (inr f.2.2.2.2.1 0 255 && inr f.2.2.2.2.2.2.1 0 cyc))))
noncomputable def frq (c : CfT) (f : FaT) : Bool := (((f.2.2.2.2.2.1.length : Int) == 0) || ((f.2.2.2.2.2.1.length : Int) == c.2.2.2.2.2.2.2.1)) && vals f.2.2.2.2.2.1
noncomputable def fin (c : CfT) (f : FaT) : Bool := bif bt f 2 || bt f 4 then kno f && ((f.2.2.2.2.2.1.length : Int) == c.2.2.2.2.2.2.2.1) else unk f && ((f.2.2.2.2.2.1.length : Int) == 0)
/-- The state of a fault is valid. -/
noncomputable def rgt (c : CfT) (f : FaT) (cyc : Int) : Bool := rngs c f cyc && (frq c f && ((q0 cyc f && (q1 c f && q2 f)) && fin c f))
end Sp
theorem inr_iff {x l h : Int} : Sp.inr x l h = true ↔ l ≤ x ∧ x ≤ h := by simp [Sp.inr]
theorem wit_ok (x l h : Int) : F_50 x l h = some (Sp.inr x l h, ()) := by
 unfold F_50 Sp.inr
 cases decide (x ≥ l) <;> rfl
theorem wit_pv (x l h : Int) : p_50 x l h = true ∧ v_50 x l h = (Sp.inr x l h, ()) := pv_50 x l h (wit_ok x l h)
theorem cfg_ok (c : CfT) : F_62 c = some (Sp.cfg c, ()) := by
 unfold F_62 Sp.cfg
 simp only [wit_pv, gd_tt]
 cases Sp.inr c.1 1 16777215 <;> try rfl
 cases Sp.inr c.2.1 1 100 <;> try rfl
 cases Sp.inr c.2.2.1 1 100 <;> try rfl
 cases Sp.inr c.2.2.2.1 1 100 <;> try rfl
 cases Sp.inr c.2.2.2.2.1 c.2.2.2.1 255 <;> try rfl
 cases Sp.inr c.2.2.2.2.2.1 0 255 <;> rfl
theorem cfg_pv (c : CfT) : p_62 c = true ∧ v_62 c = (Sp.cfg c, ()) := pv_62 c (cfg_ok c)
theorem has_pv (f : FaT) (k : Int) : p_65 f k = true ∧ v_65 f k = (Sp.bt f k, ()) := pv_65 f k rfl
/-- Bits of small numbers. -/
theorem tab (P : Int → Bool) (h : (List.range 32).all (fun n => P (n : Int)) = true) {s : Int} (h0 : 0 ≤ s) (h1 : s ≤ 31) : P s = true := by
 obtain ⟨n, rfl⟩ := Int.eq_ofNat_of_zero_le h0
 rw [List.all_eq_true] at h
 exact h n (by rw [List.mem_range]; omega)
theorem bt_ne {s : Int} (h0 : 0 ≤ s) (h1 : s ≤ 31) : ((Sp.andI .i64 s 1 != 0) = (Sp.andI .i64 s 1 == 1) ∧ (Sp.andI .i64 s 2 != 0) = (Sp.andI .i64 s 2 == 2) ∧ (Sp.andI .i64 s 4 != 0) = (Sp.andI .i64 s 4 == 4)) ∧ ((Sp.andI .i64 s 8 != 0) = (Sp.andI .i64 s 8 == 8) ∧ (Sp.andI .i64 s 16 != 0) = (Sp.andI .i64 s 16 == 16)) ∧ (Sp.andI .i64 s 10 == 10) = ((Sp.andI .i64 s 2 == 2) && (Sp.andI .i64 s 8 == 8)) ∧ (Sp.andI .i64 s 6 != 0) = ((Sp.andI .i64 s 2 == 2) || (Sp.andI .i64 s 4 == 4)) := by
 have := tab (fun s => ((((Sp.andI .i64 s 1 != 0) == (Sp.andI .i64 s 1 == 1)) && ((Sp.andI .i64 s 2 != 0) == (Sp.andI .i64 s 2 == 2)) && ((Sp.andI .i64 s 4 != 0) == (Sp.andI .i64 s 4 == 4)))) && ((((Sp.andI .i64 s 8 != 0) == (Sp.andI .i64 s 8 == 8)) && ((Sp.andI .i64 s 16 != 0) == (Sp.andI .i64 s 16 == 16)))) && ((Sp.andI .i64 s 10 == 10) == ((Sp.andI .i64 s 2 == 2) && (Sp.andI .i64 s 8 == 8))) && ((Sp.andI .i64 s 6 != 0) == ((Sp.andI .i64 s 2 == 2) || (Sp.andI .i64 s 4 == 4)))) (by decide +kernel) h0 h1
 simp only [Bool.and_eq_true, beq_iff_eq] at this
 exact ⟨⟨this.1.1.1.1.1, this.1.1.1.1.2, this.1.1.1.2⟩, this.1.1.2, this.1.2, this.2⟩
set_option maxRecDepth 100000
set_option maxHeartbeats 4000000
theorem fnd_all (P : Nat → Bool) (n : Nat) : (fnd (fun j => !P j) n 0 = none) ↔ (List.range n).all P = true := by
 rw [fnd_none, List.all_eq_true]
 constructor
 · intro h x hx
   have := h x (by omega) (by rw [List.mem_range] at hx; omega)
   simpa using this
 · intro h i _ hi
   rw [h i (by rw [List.mem_range]; omega)]
   rfl
namespace Sp
noncomputable def frm (c : CfT) (l : List Int) : Bool := ((l.length : Int) == c.2.2.2.2.2.2.2.1) && vals l
noncomputable def cfgs (l : List CfT) : Bool := (List.range l.length).all fun j => cfg (l.getD j Zd1)
noncomputable def rgts (F : FsT) : Bool := (List.range F.2.1.length).all fun j => rgt (F.1.getD j Zd1) (F.2.1.getD j Zd2) F.2.2.1
/-- A state is valid. -/
noncomputable def vf (F : FsT) : Bool := decide (F.1.length ≤ 64) && (cfgs F.1 && (dst (F.1.map fun c => c.1) && (((F.2.1.length : Int) == F.1.length) && (inr F.2.2.1 0 1073741824 && ((!F.2.2.2.1 || decide (F.2.2.1 ≥ 1)) && rgts F)))))
end Sp
theorem val_pv (x : Int) : p_73 x = true ∧ v_73 x = (Sp.val x, ()) := by
 refine pv_73 x ?_
 unfold F_73
 rw [(wit_pv _ _ _).1, (wit_pv _ _ _).2, gd_tt]
 rfl
theorem frm_ok (c : CfT) (l : List Int) (h : l.length < 4611686018427387904) : F_64 c l = some (Sp.frm c l, ()) := by
 unfold F_64 Sp.frm
 cases (l.length : Int) == c.2.2.2.2.2.2.2.1
 · rfl
 have hf := find0 (fun m i => L_64_53_0_0 m l l.length i c) (n := l.length) (fun j => !Sp.val (l.getD j 0)) (ex := fun j => some (.e0 (j : Int) c)) (e1 := some (.e1 c)) h (fun m j hj => by
   show L_64_53_0_0 (m + 1) l l.length j c = bif !Sp.val (l.getD j 0) then some (.e0 (j : Int) c) else L_64_53_0_0 m l l.length ((j + 1 : Nat) : Int) c
   rw [L_64_53_0_0, S_64_53_0_0, cond_dtt (by omega), gd_inB (by omega) (by omega), Int.toNat_natCast, (val_pv _).1, (val_pv _).2, gd_tt, wi64 (by omega) (by omega)]
   push_cast
   rfl) (fun m => by
   show L_64_53_0_0 (m + 1) l l.length l.length c = _
   rw [L_64_53_0_0, S_64_53_0_0, cond_dff (by omega)])
 rw [hf, cond_t]
 cases hk : fnd (fun j => !Sp.val (l.getD j 0)) l.length 0 with
 | none =>
   have : Sp.vals l = true := (fnd_all (fun j => Sp.val (l.getD j 0)) l.length).1 hk
   rw [this]
   rfl
 | some k =>
   have : Sp.vals l = false := by
     cases hv : Sp.vals l
     · rfl
     · have := (fnd_all (fun j => Sp.val (l.getD j 0)) l.length).2 hv
       rw [this] at hk; cases hk
   rw [this]
   simp only [B_64_53_0_0]
   rw [decide_eq_true (by omega)]
   rfl
theorem frm_pv (c : CfT) (l : List Int) (h : l.length < 4611686018427387904) : p_64 c l = true ∧ v_64 c l = (Sp.frm c l, ()) := pv_64 c l (frm_ok c l h)
section
variable {c : CfT} {f : FaT} {cyc : Int}
theorem kn_pv (h0 : 0 ≤ f.1) (h1 : f.1 ≤ 31) : p_66 f = true ∧ v_66 f = (Sp.bt f 2 || Sp.bt f 4, ()) := by
 refine pv_66 f ?_
 unfold F_66 Sp.bt
 rw [(bt_ne h0 h1).2.2.2]
theorem bt10 (h0 : 0 ≤ f.1) (h1 : f.1 ≤ 31) : Sp.bt f 10 = (Sp.bt f 2 && Sp.bt f 8) := (bt_ne h0 h1).2.2.1
theorem gJ3 (h0 : 0 ≤ f.1) (h1 : f.1 ≤ 31) : J_51_3 c f = some (bif Sp.bt f 2 || Sp.bt f 4 then (bif Sp.kno f then .e0 c f else .e1) else .e2 c f) := by
 unfold J_51_3 S_51_3 Sp.kno
 rw [(kn_pv h0 h1).1, (kn_pv h0 h1).2, gd_tt]
 cases Sp.bt f 2 || Sp.bt f 4 <;> try rfl
 cases decide (f.2.2.2.2.1 ≥ 1) <;> try rfl
 cases decide (f.2.2.1 ≥ 1) <;> try rfl
 cases decide (f.2.2.2.2.2.2.1 ≥ 1) <;> rfl
theorem gJ2 (h0 : 0 ≤ f.1) (h1 : f.1 ≤ 31) : J_51_2 c f = some (bif Sp.q2 f then (bif Sp.bt f 2 || Sp.bt f 4 then (bif Sp.kno f then .e1 c f else .e0) else .e2 c f) else .e0) := by
 unfold J_51_2 S_51_2 Sp.q2
 simp only [has_pv, gd_tt, gJ3 h0 h1]
 cases Sp.bt f 2 <;> cases f.2.2.2.1 != 0 <;> cases Sp.bt f 4 <;> cases Sp.kno f <;> rfl
theorem gJ1 (h0 : 0 ≤ f.1) (h1 : f.1 ≤ 31) : J_51_1 c f = some (bif Sp.q1 c f && Sp.q2 f then (bif Sp.bt f 2 || Sp.bt f 4 then (bif Sp.kno f then .e1 c f else .e0) else .e2 c f) else .e0) := by
 unfold J_51_1 S_51_1 Sp.q1
 simp only [has_pv, gd_tt, gJ2 h0 h1]
 cases Sp.bt f 4 <;> cases f.2.2.1 == 2 <;> cases Sp.bt f 16 <;> cases c.2.2.2.2.2.2.1 <;> cases Sp.q2 f <;> cases Sp.bt f 2 <;> cases Sp.kno f <;> rfl
theorem gJ0 (h0 : 0 ≤ f.1) (h1 : f.1 ≤ 31) : J_51_0 cyc c f = some (bif Sp.q0 cyc f && (Sp.q1 c f && Sp.q2 f) then (bif Sp.bt f 2 || Sp.bt f 4 then (bif Sp.kno f then .e1 c f else .e0) else bif Sp.unk f then .e2 f else .e0) else .e0) := by
 unfold J_51_0 S_51_0 Sp.q0 Sp.unk
 simp only [has_pv, gd_tt, gJ1 h0 h1, bt10 h0 h1]
 have hz : ∀ x y : Int, (bif !(x == y) then (some (E_51_0.e0) : Option E_51_0) else none) = (bif x != y then some (E_51_0.e0) else none) := fun _ _ => rfl
 cases e1 : f.2.2.1 == 0 <;> cases e2 : f.2.2.2.1 == 0 <;> cases e3 : f.2.2.2.2.1 == 0 <;> cases e4 : f.2.2.2.2.2.2.1 == 0 <;> cases e5 : f.2.2.2.2.2.2.1 == cyc <;> cases Sp.q1 c f && Sp.q2 f <;> cases Sp.bt f 1 <;> cases Sp.bt f 2 <;> cases Sp.bt f 8 <;> cases Sp.bt f 4 <;> cases Sp.kno f <;> simp only [bne, e1, e2, e3, e4, e5, B_51_1, Bool.not_true, Bool.not_false, cond_true, cond_false, Bool.and_true, Bool.and_false, Bool.true_and, Bool.false_and, Bool.or_true, Bool.or_false, Bool.true_or, Bool.false_or]
theorem right_ok (hc : Sp.cfg c = true) (hfr : f.2.2.2.2.2.1.length < 4611686018427387904) : F_51 c f cyc = some (Sp.rgt c f cyc, ()) := by
 simp only [Sp.cfg, Bool.and_eq_true, inr_iff] at hc
 unfold F_51 Sp.rgt Sp.rngs
 simp only [wit_pv, gd_tt]
 rw [wi64 (n := 0 - c.2.2.1) (by omega) (by omega), wi64 (n := c.2.2.2.2.1 - 1) (by omega) (by omega)]
 cases h1 : Sp.inr f.1 0 31
 · rfl
 have hb := inr_iff.1 h1
 cases Sp.inr f.2.1 (0 - c.2.2.1) c.2.1
 · rfl
 cases Sp.inr f.2.2.1 0 2
 · rfl
 cases Sp.inr f.2.2.2.1 0 (c.2.2.2.2.1 - 1)
 · rfl
 cases Sp.inr f.2.2.2.2.1 0 255
 · rfl
 cases Sp.inr f.2.2.2.2.2.2.1 0 cyc
 · rfl
 simp only [Bool.not_true, cond_f, Bool.and_true, Bool.true_and]
 simp only [frm_pv _ _ hfr, gd_tt, gJ0 hb.1 hb.2]
 unfold Sp.frq Sp.fin Sp.frm
 by_cases hl : f.2.2.2.2.2.1 = []
 · have hv : Sp.vals f.2.2.2.2.2.1 = true := by rw [hl]; rfl
   have hz : ((f.2.2.2.2.2.1.length : Int) == 0) = true := by rw [hl]; rfl
   rw [cond_dff (by rw [hl]; decide), hv, hz]
   cases e1 : ((f.2.2.2.2.2.1.length : Int) == c.2.2.2.2.2.2.2.1) <;> cases Sp.bt f 2 <;> cases Sp.bt f 4 <;> cases Sp.q0 cyc f && (Sp.q1 c f && Sp.q2 f) <;> cases Sp.kno f <;> cases Sp.unk f <;> simp only [bne, hz, e1, B_51_0, Bool.not_true, Bool.not_false, cond_true, cond_false, Bool.and_true, Bool.and_false, Bool.true_and, Bool.false_and, Bool.or_true, Bool.or_false, Bool.true_or, Bool.false_or]
 · have hp : 0 < f.2.2.2.2.2.1.length := List.length_pos_iff.2 hl
   have hz : ((f.2.2.2.2.2.1.length : Int) == 0) = false := beq_eq_false_iff_ne.2 (by omega)
   rw [cond_dtt (by omega), hz]
   cases e1 : ((f.2.2.2.2.2.1.length : Int) == c.2.2.2.2.2.2.2.1) <;> cases Sp.vals f.2.2.2.2.2.1 <;> cases Sp.bt f 2 <;> cases Sp.bt f 4 <;> cases Sp.q0 cyc f && (Sp.q1 c f && Sp.q2 f) <;> cases Sp.kno f <;> cases Sp.unk f <;> simp only [bne, hz, e1, B_51_0, Bool.not_true, Bool.not_false, cond_true, cond_false, Bool.and_true, Bool.and_false, Bool.true_and, Bool.false_and, Bool.or_true, Bool.or_false, Bool.true_or, Bool.false_or]
theorem right_pv (hc : Sp.cfg c = true) (hfr : f.2.2.2.2.2.1.length < 4611686018427387904) : p_51 c f cyc = true ∧ v_51 c f cyc = (Sp.rgt c f cyc, ()) := pv_51 c f cyc (right_ok hc hfr)
end
/-- Memory is not great. -/
structure Sm (F : FsT) : Prop where
 l : F.2.1.length < 4611686018427387904
 f : ∀ j, j < F.2.1.length → (F.2.1.getD j Zd2).2.2.2.2.2.1.length < 4611686018427387904
theorem cfgs_at {l : List CfT} (h : Sp.cfgs l = true) {j : Nat} (hj : j < l.length) : Sp.cfg (l.getD j Zd1) = true := by
 unfold Sp.cfgs at h
 rw [List.all_eq_true] at h
 exact h j (by rw [List.mem_range]; exact hj)
theorem vJ0 {F : FsT} (hs : Sm F) (hc : Sp.cfgs F.1 = true) (hl : F.2.1.length = F.1.length) : J_31_0 F = some (bif Sp.rgts F then .e1 else .e0) := by
 have := all0 (fun m i => L_31_1 m F.2.1 F.2.1.length i F) (n := F.2.1.length) (fun j => Sp.rgt (F.1.getD j Zd1) (F.2.1.getD j Zd2) F.2.2.1) (e0 := some .e0) (e1 := some .e1) hs.l (fun m j hj => by
   show L_31_1 (m + 1) F.2.1 F.2.1.length j F = bif Sp.rgt (F.1.getD j Zd1) (F.2.1.getD j Zd2) F.2.2.1 then L_31_1 m F.2.1 F.2.1.length ((j + 1 : Nat) : Int) F else some .e0
   have hr := right_pv (cyc := F.2.2.1) (cfgs_at hc (j := j) (by omega)) (hs.f j hj)
   rw [L_31_1, S_31_1, cond_dtt (by omega), gd_inB (by omega) (by omega), gd_inB (by omega) (by omega), Int.toNat_natCast, hr.1, hr.2, gd_tt, wi64 (by have := hs.l; omega) (by have := hs.l; omega)]
   push_cast
   cases Sp.rgt (F.1.getD j Zd1) (F.2.1.getD j Zd2) F.2.2.1 <;> rfl) (fun m => by
   show L_31_1 (m + 1) F.2.1 F.2.1.length F.2.1.length F = _
   rw [L_31_1, S_31_1, cond_dff (by omega)])
 unfold J_31_0 S_31_0
 rw [this]
 unfold Sp.rgts
 cases (List.range F.2.1.length).all fun j => Sp.rgt (F.1.getD j Zd1) (F.2.1.getD j Zd2) F.2.2.1 <;> rfl
theorem vf_ok {F : FsT} (hs : Sm F) : F_31 F = some (Sp.vf F, ()) := by
 unfold F_31 Sp.vf
 by_cases h1 : (F.1.length : Int) > 64
 · rw [cond_dtt h1, decide_eq_false (by omega)]; rfl
 rw [cond_dff h1, decide_eq_true (p := F.1.length ≤ 64) (by omega), Bool.true_and]
 have hf := find0 (fun m i => L_31_61_0_0 m F.1 F.1.length i F) (n := F.1.length) (fun j => !Sp.cfg (F.1.getD j Zd1)) (ex := fun j => some (.e0 (j : Int) F)) (e1 := some (.e1 F)) (by omega) (fun m j hj => by
   show L_31_61_0_0 (m + 1) F.1 F.1.length j F = bif !Sp.cfg (F.1.getD j Zd1) then some (.e0 (j : Int) F) else L_31_61_0_0 m F.1 F.1.length ((j + 1 : Nat) : Int) F
   rw [L_31_61_0_0, S_31_61_0_0, cond_dtt (by omega), gd_inB (by omega) (by omega), Int.toNat_natCast, (cfg_pv _).1, (cfg_pv _).2, gd_tt, wi64 (by omega) (by omega)]
   push_cast
   rfl) (fun m => by
   show L_31_61_0_0 (m + 1) F.1 F.1.length F.1.length F = _
   rw [L_31_61_0_0, S_31_61_0_0, cond_dff (by omega)])
 rw [hf]
 cases hk : fnd (fun j => !Sp.cfg (F.1.getD j Zd1)) F.1.length 0 with
 | some k =>
   have : Sp.cfgs F.1 = false := by
     cases hv : Sp.cfgs F.1
     · rfl
     · have := (fnd_all (fun j => Sp.cfg (F.1.getD j Zd1)) F.1.length).2 hv
       rw [this] at hk; cases hk
   rw [this]
   simp only [B_31_61_0_0]
   rw [cond_dtt (by omega)]
   rfl
 | none =>
   have hc : Sp.cfgs F.1 = true := (fnd_all (fun j => Sp.cfg (F.1.getD j Zd1)) F.1.length).1 hk
   rw [hc]
   simp only [B_31_61_0_0, Bool.true_and]
   have em : (List.map (fun (y : Ty.den CfgTy) => Prod.fst y) F.1) = (F.1.map fun c => c.1) := rfl
   rw [em]
   cases Sp.dst (F.1.map fun c => c.1)
   · rfl
   simp only [Bool.not_true, cond_f, Bool.true_and]
   by_cases hl : (F.2.1.length : Int) = (F.1.length : Int)
   rotate_left
   · rw [cond_ntt hl, beq_eq_false_iff_ne.2 hl]; rfl
   rw [cond_nff hl, beq_iff_eq.2 hl, Bool.true_and, (wit_pv _ _ _).1, (wit_pv _ _ _).2, gd_tt]
   cases Sp.inr F.2.2.1 0 1073741824
   · rfl
   simp only [Bool.not_true, cond_f, Bool.true_and]
   rw [vJ0 hs hc (by omega)]
   cases F.2.2.2.1
   · cases Sp.rgts F <;> rfl
   · by_cases hy : F.2.2.1 < 1
     · rw [cond_t, cond_dtt hy, decide_eq_false (by omega)]
       rfl
     · rw [cond_t, cond_dff hy, decide_eq_true (p := F.2.2.1 ≥ 1) (by omega)]
       cases Sp.rgts F <;> rfl
theorem vf_pv {F : FsT} (hs : Sm F) : p_31 F = true ∧ v_31 F = (Sp.vf F, ()) := pv_31 F (vf_ok hs)
set_option maxRecDepth 100000
set_option maxHeartbeats 4000000
namespace Sp
noncomputable def codesL (l : List CfT) : List Int := l.map fun c => c.1
noncomputable def rcs (l : List CfT) : Int := bif decide (l.length ≤ 64) then (bif cfgs l then (bif dst (codesL l) then 0 else 8) else 1) else 5
noncomputable def newF (l : List CfT) : FsT × Int × Unit := bif rcs l == 0 then ((l, replicate l.length Zd2, 0, false, ()), 0, ()) else (([], [], 0, false, ()), rcs l, ())
end Sp
theorem new_ok (l : List CfT) : F_26 l = some (Sp.newF l) := by
 unfold F_26 Sp.newF Sp.rcs
 by_cases h1 : (l.length : Int) > 64
 · rw [cond_dtt h1, decide_eq_false (by omega)]; rfl
 rw [cond_dff h1, decide_eq_true (p := l.length ≤ 64) (by omega), cond_t]
 have hf := find0 (fun m i => L_26_61_0_0 m l l.length i (0, false, ())) (n := l.length) (fun j => !Sp.cfg (l.getD j Zd1)) (ex := fun j => some (.e0 (j : Int) (0, false, ()))) (e1 := some (.e1 (0, false, ()))) (by omega) (fun m j hj => by
   show L_26_61_0_0 (m + 1) l l.length j (0, false, ()) = bif !Sp.cfg (l.getD j Zd1) then some (.e0 (j : Int) (0, false, ())) else L_26_61_0_0 m l l.length ((j + 1 : Nat) : Int) (0, false, ())
   rw [L_26_61_0_0, S_26_61_0_0, cond_dtt (by omega), gd_inB (by omega) (by omega), Int.toNat_natCast, (cfg_pv _).1, (cfg_pv _).2, gd_tt, wi64 (by omega) (by omega)]
   push_cast
   rfl) (fun m => by
   show L_26_61_0_0 (m + 1) l l.length l.length (0, false, ()) = _
   rw [L_26_61_0_0, S_26_61_0_0, cond_dff (by omega)])
 rw [hf]
 cases hk : fnd (fun j => !Sp.cfg (l.getD j Zd1)) l.length 0 with
 | some k =>
   have : Sp.cfgs l = false := by
     cases hv : Sp.cfgs l
     · rfl
     · have := (fnd_all (fun j => Sp.cfg (l.getD j Zd1)) l.length).2 hv
       rw [this] at hk; cases hk
   rw [this]
   simp only [B_26_61_0_0]
   rw [cond_dtt (by omega)]
   rfl
 | none =>
   have hc : Sp.cfgs l = true := (fnd_all (fun j => Sp.cfg (l.getD j Zd1)) l.length).1 hk
   rw [hc]
   simp only [B_26_61_0_0]
   rw [gd_room (by omega) (by omega), Int.toNat_natCast, beq_self_eq_true, Bool.true_and, show room l.length 72 = true from room_ok (by omega) (by omega), gd_tt]
   have em : (List.map (fun (y : Ty.den CfgTy) => Prod.fst y) l) = Sp.codesL l := rfl
   rw [em]
   cases Sp.dst (Sp.codesL l) <;> rfl
theorem new_pv (l : List CfT) : p_26 l = true ∧ v_26 l = Sp.newF l := pv_26 l (new_ok l)
set_option maxRecDepth 100000
set_option maxHeartbeats 4000000
theorem rnum_pv (l : List Int) (h : l.length < 4611686018427387904) : p_52 l l = true ∧ v_52 l l = (true, ()) := by
 refine pv_52 l l ?_
 unfold F_52
 rw [cond_nff rfl]
 have h1 := run0 (fun m i (_ : Unit) => L_52_0 m l l i) (n := l.length) (fun _ => ()) (r := some .e1) h (fun m j hj => by
   show L_52_0 (m + 1) l l (j : Int) = L_52_0 m l l ((j + 1 : Nat) : Int)
   rw [L_52_0, S_52_0, cond_dtt (by omega), gd_inB (by omega) (by omega), gd_inB (by omega) (by omega), cond_nff rfl, wi64 (by omega) (by omega)]
   push_cast
   rfl) (fun m => by
   show L_52_0 (m + 1) l l l.length = _
   rw [L_52_0, S_52_0, cond_dff (by omega)])
 have e1 : L_52_0 4611686018427387904 l l 0 = _ := h1
 rw [e1]
 rfl
theorem fsame_pv (f : FaT) (h : f.2.2.2.2.2.1.length < 4611686018427387904) : p_33 f f = true ∧ v_33 f f = (true, ()) := by
 refine pv_33 f f ?_
 unfold F_33
 simp only [beq_self_eq_true, cond_t, rnum_pv _ h, gd_tt]
theorem cfg_beq (c : CfT) : Ty.beq (.pair (.int .i64) (.pair (.int .i64) (.pair (.int .i64) (.pair (.int .i64) (.pair (.int .i64) (.pair (.int .i64) (.pair .bool (.pair (.int .i64) .unit)))))))) c c = true := by
 simp [Ty.beq]
theorem same_pv {F : FsT} (hs : Sm F) (h : F.1.length < 4611686018427387904) : p_11 F F = true ∧ v_11 F F = (true, ()) := by
 refine pv_11 F F ?_
 unfold F_11
 rw [cond_nff rfl, cond_nff rfl, cond_nff rfl, beq_self_eq_true, Bool.not_true, cond_f]
 have h1 := run0 (fun m i (_ : Unit) => L_11_0 m i F F) (n := F.1.length) (fun _ => ()) (r := some (.e1 F F)) h (fun m j hj => by
   show L_11_0 (m + 1) (j : Int) F F = L_11_0 m ((j + 1 : Nat) : Int) F F
   rw [L_11_0, S_11_0, cond_dtt (by omega), gd_inB (by omega) (by omega), gd_inB (by omega) (by omega), cfg_beq, Bool.not_true, cond_f, wi64 (by omega) (by omega)]
   push_cast
   rfl) (fun m => by
   show L_11_0 (m + 1) F.1.length F F = _
   rw [L_11_0, S_11_0, cond_dff (by omega)])
 have h2 := run0 (fun m i (_ : Unit) => L_11_1 m i F F) (n := F.2.1.length) (fun _ => ()) (r := some .e1) hs.l (fun m j hj => by
   show L_11_1 (m + 1) (j : Int) F F = L_11_1 m ((j + 1 : Nat) : Int) F F
   have hx := hs.l
   have hq := fsame_pv (F.2.1.getD j Zd2) (hs.f j hj)
   rw [L_11_1, S_11_1, cond_dtt (by omega), gd_inB (by omega) (by omega), gd_inB (by omega) (by omega), Int.toNat_natCast, hq.1, hq.2, gd_tt, wi64 (by omega) (by omega)]
   push_cast
   rfl) (fun m => by
   show L_11_1 (m + 1) F.2.1.length F F = _
   rw [L_11_1, S_11_1, cond_dff (by omega)])
 have e1 : L_11_0 4611686018427387904 0 F F = _ := h1
 have e2 : L_11_1 4611686018427387904 0 F F = _ := h2
 rw [e1]
 simp only [B_11_0]
 rw [e2]
 rfl
namespace Sp
noncomputable def wi (x h : Int) : Bool := decide (x ≥ 0) && decide (x ≤ h)
noncomputable def bval (x : Int) : Bool := decide (x ≥ -1099511627776) && decide (x ≤ 1099511627776)
noncomputable def bvals (l : List Int) : Bool := (fnd (fun j => !bval (l.getD j 0)) l.length 0).isNone
noncomputable def good (f : FaT) : Bool := wi f.1 31 && (wi f.2.2.1 2 && (wi f.2.2.2.1 254 && (wi f.2.2.2.2.1 255 && (wi f.2.2.2.2.2.2.1 1073741824 && (decide ((f.2.2.2.2.2.1.length : Int) ≤ 8) && bvals f.2.2.2.2.2.1)))))
noncomputable def flat : List Int → List Int
 | [] => []
 | v :: l => ((v + 1099511627776) / 4294967296) :: ((v + 1099511627776) % 4294967296) :: flat l
noncomputable def unflat : List Int → List Int
 | a :: b :: l => (a * 4294967296 + b - 1099511627776) :: unflat l
 | _ => []
noncomputable def hdr (f : FaT) : Int := andI .i64 f.1 22 + 256 * f.2.2.1 + 65536 * f.2.2.2.1 + 16777216 * f.2.2.2.2.1
noncomputable def wpk (f : FaT) : List Int := [hdr f, f.2.2.2.2.2.2.1, (f.2.2.2.2.2.1.length : Int)] ++ flat f.2.2.2.2.2.1
noncomputable def xof (l : List Int) : FaT := (andI .i64 (l.getD 0 0) 255, 0, andI .i64 (Int.fdiv (l.getD 0 0) 256) 255, andI .i64 (Int.fdiv (l.getD 0 0) 65536) 255, Int.fdiv (l.getD 0 0) 16777216, unflat (l.drop 3), l.getD 1 0, ())
noncomputable def cond (l : List Int) : Bool := !decide ((l.length : Int) < 3) && (!decide (l.getD 2 0 > 8) && (((l.length : Int) == 3 + 2 * l.getD 2 0) && (!decide (l.getD 1 0 > 1073741824) && ((andnI .i64 (andI .i64 (l.getD 0 0) 255) 22 == 0) && ((fnd (fun j => decide (l.getD (3 + 2 * j) 0 > 512)) (l.getD 2 0).toNat 0).isNone && good (xof l))))))
end Sp
theorem aw : F_4 = some (true, ()) := by kernel_rfl
theorem aw_pv : p_4 = true ∧ v_4 = (true, ()) := pv_4 aw
theorem wi_pv (x h : Int) : p_34 x h = true ∧ v_34 x h = (Sp.wi x h, ()) := by
 refine pv_34 x h ?_
 unfold F_34 Sp.wi
 cases decide (x ≥ 0) <;> rfl
theorem bval_pv (x : Int) : p_37 x = true ∧ v_37 x = (Sp.bval x, ()) := by
 refine pv_37 x ?_
 unfold F_37 Sp.bval
 cases decide (x ≥ -1099511627776) <;> rfl
theorem wi_iff {x h : Int} : Sp.wi x h = true ↔ 0 ≤ x ∧ x ≤ h := by simp [Sp.wi]
theorem bvals_iff {l : List Int} : Sp.bvals l = true ↔ ∀ x ∈ l, -1099511627776 ≤ x ∧ x ≤ 1099511627776 := by
 unfold Sp.bvals
 rw [Option.isNone_iff_eq_none, fnd_none]
 constructor
 · intro h x hx
   obtain ⟨j, hj, rfl⟩ := List.getElem_of_mem hx
   have := h j (by omega) (by omega)
   rw [getD_at 0 hj] at this
   simpa [Sp.bval] using this
 · intro h j _ hj
   have hj : j < l.length := by omega
   rw [getD_at 0 hj]
   have := h l[j] (List.getElem_mem hj)
   simpa [Sp.bval] using this
theorem good_iff {f : FaT} : Sp.good f = true ↔ (0 ≤ f.1 ∧ f.1 ≤ 31) ∧ (0 ≤ f.2.2.1 ∧ f.2.2.1 ≤ 2) ∧ (0 ≤ f.2.2.2.1 ∧ f.2.2.2.1 ≤ 254) ∧ (0 ≤ f.2.2.2.2.1 ∧ f.2.2.2.2.1 ≤ 255) ∧ (0 ≤ f.2.2.2.2.2.2.1 ∧ f.2.2.2.2.2.2.1 ≤ 1073741824) ∧ f.2.2.2.2.2.1.length ≤ 8 ∧ ∀ x ∈ f.2.2.2.2.2.1, -1099511627776 ≤ x ∧ x ≤ 1099511627776 := by
 simp only [Sp.good, Bool.and_eq_true, wi_iff, decide_eq_true_eq, bvals_iff]
 constructor <;> rintro ⟨a, b, c, d, e, g, h⟩ <;> exact ⟨a, b, c, d, e, by omega, h⟩
/-! Bits and words. -/
theorem and_mod {n : Int} (k : Nat) (hk : k ≤ 40) (h0 : 0 ≤ n) (h1 : n < 4611686018427387904) : Sp.andI .i64 n (((2 ^ k - 1 : Nat) : Int)) = n % ((2 ^ k : Nat) : Int) := by
 obtain ⟨a, rfl⟩ := Int.eq_ofNat_of_zero_le h0
 have ha : a < 2 ^ 62 := by
   have : (2 : Nat) ^ 62 = 4611686018427387904 := by decide
   omega
 have hb : (2 : Nat) ^ k ≤ 2 ^ 40 := Nat.pow_le_pow_right (by decide) hk
 have hb2 : (2 : Nat) ^ 40 < 2 ^ 62 := by decide
 rw [andI_nat 62 (by decide) ha (by omega), Nat.and_two_pow_sub_one_eq_mod, Int.natCast_emod]
theorem and_32 {n : Int} (h0 : 0 ≤ n) (h1 : n < 4611686018427387904) : Sp.andI .i64 n 4294967295 = n % 4294967296 := and_mod 32 (by decide) h0 h1
theorem or_sum {a b : Int} (k : Nat) (hk : k ≤ 30) (h0 : 0 ≤ a) (h1 : a < ((2 ^ k : Nat) : Int)) (h2 : 0 ≤ b) (h3 : b < 1024) : Sp.orI .i64 a (b * ((2 ^ k : Nat) : Int)) = a + b * ((2 ^ k : Nat) : Int) := by
 obtain ⟨x, rfl⟩ := Int.eq_ofNat_of_zero_le h0
 obtain ⟨y, rfl⟩ := Int.eq_ofNat_of_zero_le h2
 have hb : (2 : Nat) ^ k ≤ 2 ^ 30 := Nat.pow_le_pow_right (by decide) hk
 have e30 : (2 : Nat) ^ 30 = 1073741824 := by decide
 have e62 : (2 : Nat) ^ 62 = 4611686018427387904 := by decide
 have hxy : y * 2 ^ k ≤ 1024 * 1073741824 := Nat.mul_le_mul (by omega) (by omega)
 have hx : x < 2 ^ k := by exact_mod_cast h1
 rw [← Int.natCast_mul, orI_nat 62 (by decide) (by omega) (by omega), Nat.or_comm, or_add k hx]
 push_cast
 omega
theorem btab (P : Int → Bool) (N : Nat) (h : (List.range N).all (fun n => P (n : Int)) = true) {s : Int} (h0 : 0 ≤ s) (h1 : s < N) : P s = true := by
 obtain ⟨n, rfl⟩ := Int.eq_ofNat_of_zero_le h0
 rw [List.all_eq_true] at h
 exact h n (by rw [List.mem_range]; omega)
theorem st_22 {s : Int} (h0 : 0 ≤ s) (h1 : s ≤ 31) : 0 ≤ Sp.andI .i64 s 22 ∧ Sp.andI .i64 s 22 ≤ 31 ∧ Sp.andnI .i64 (Sp.andI .i64 s 22) 22 = 0 ∧ Sp.andI .i64 (Sp.andI .i64 s 22) 22 = Sp.andI .i64 s 22 := by
 have := btab (fun s => decide (0 ≤ Sp.andI .i64 s 22 ∧ Sp.andI .i64 s 22 ≤ 31 ∧ Sp.andnI .i64 (Sp.andI .i64 s 22) 22 = 0 ∧ Sp.andI .i64 (Sp.andI .i64 s 22) 22 = Sp.andI .i64 s 22)) 32 (by decide +kernel) h0 (by omega)
 exact of_decide_eq_true this
/-! Lists of words. -/
theorem pfl_len : ∀ l : List Int, (Sp.flat l).length = 2 * l.length
 | [] => rfl
 | _ :: l => by simp only [Sp.flat, List.length_cons, pfl_len l]; omega
theorem flat_app : ∀ a b : List Int, Sp.flat (a ++ b) = Sp.flat a ++ Sp.flat b
 | [], _ => rfl
 | v :: a, b => by simp [Sp.flat, flat_app a b]
theorem upfl_len : ∀ (n : Nat) (l : List Int), l.length = 2 * n → (Sp.unflat l).length = n
 | 0, [], _ => rfl
 | n + 1, a :: b :: l, h => by
   have := upfl_len n l (by simp only [List.length_cons] at h; omega)
   simp [Sp.unflat, this]
 | 0, _ :: _, h => by simp at h
 | n + 1, [], h => by simp at h
 | n + 1, [_], h => by exfalso; simp only [List.length_cons, List.length_nil] at h; omega
theorem unflat_snoc : ∀ (k : Nat) (t : List Int), 2 * k + 1 < t.length → Sp.unflat (t.take (2 * (k + 1))) = Sp.unflat (t.take (2 * k)) ++ [t.getD (2 * k) 0 * 4294967296 + t.getD (2 * k + 1) 0 - 1099511627776]
 | 0, a :: b :: t, _ => by simp [Sp.unflat]
 | k + 1, a :: b :: t, h => by
   have ih := unflat_snoc k t (by simp only [List.length_cons] at h; omega)
   rw [show 2 * (k + 1 + 1) = 2 * (k + 1) + 1 + 1 by omega, List.take_succ_cons, List.take_succ_cons, show 2 * (k + 1) = 2 * k + 1 + 1 by omega, List.take_succ_cons, List.take_succ_cons, Sp.unflat, Sp.unflat, show 2 * k + 1 + 1 = 2 * (k + 1) by omega, ih]
   rw [show 2 * (k + 1) = 2 * k + 1 + 1 by omega]
   simp [List.getD_eq_getElem?_getD]
 | 0, [], h => by simp at h
 | 0, [_], h => by simp at h
 | k + 1, [], h => by simp at h
 | k + 1, [_], h => by exfalso; simp only [List.length_cons, List.length_nil] at h; omega
/-! The functions. -/
theorem hdr_ok {f : FaT} (h : Sp.good f = true) : wrap .u32 (Sp.orI .i64 (Sp.orI .i64 (Sp.orI .i64 (Sp.andI .i64 f.1 (22 : Int)) (wrap .i64 (f.2.2.1 * (256 : Int)))) (wrap .i64 (f.2.2.2.1 * (65536 : Int)))) (wrap .i64 (f.2.2.2.2.1 * (16777216 : Int)))) = Sp.hdr f := by
 obtain ⟨h1, h2, h3, h4, h5, h6, h7⟩ := good_iff.1 h
 have hs := st_22 h1.1 h1.2
 unfold Sp.hdr
 rw [wi64 (n := f.2.2.1 * 256) (by omega) (by omega), wi64 (n := f.2.2.2.1 * 65536) (by omega) (by omega), wi64 (n := f.2.2.2.2.1 * 16777216) (by omega) (by omega)]
 generalize Sp.andI .i64 f.1 22 = s at *
 have e1 : Sp.orI .i64 s (f.2.2.1 * 256) = s + f.2.2.1 * 256 := or_sum 8 (by decide) hs.1 (by omega) h2.1 (by omega)
 have e2 : Sp.orI .i64 (s + f.2.2.1 * 256) (f.2.2.2.1 * 65536) = s + f.2.2.1 * 256 + f.2.2.2.1 * 65536 := or_sum 16 (by decide) (by omega) (by omega) h3.1 (by omega)
 have e3 : Sp.orI .i64 (s + f.2.2.1 * 256 + f.2.2.2.1 * 65536) (f.2.2.2.2.1 * 16777216) = s + f.2.2.1 * 256 + f.2.2.2.1 * 65536 + f.2.2.2.2.1 * 16777216 := or_sum 24 (by decide) (by omega) (by omega) h4.1 (by omega)
 rw [e1, e2, e3, wu32' (by omega) (by omega)]
 omega
theorem pack_loop (fr base : List Int) (hv : ∀ x ∈ fr, -1099511627776 ≤ x ∧ x ≤ 1099511627776) (hl : fr.length ≤ 8) (hb : base.length ≤ 3) : L_12_0 4611686018427387904 fr fr.length 0 base = some (.e0 (base ++ Sp.flat fr)) := by
 have h := run0 (fun m i o => L_12_0 m fr fr.length i o) (n := fr.length) (fun j => base ++ Sp.flat (fr.take j)) (r := some (.e0 (base ++ Sp.flat fr))) (by omega) (fun m j hj => by
   show L_12_0 (m + 1) fr fr.length (j : Int) (base ++ Sp.flat (fr.take j)) = L_12_0 m fr fr.length ((j + 1 : Nat) : Int) (base ++ Sp.flat (fr.take (j + 1)))
   have hlen : (base ++ Sp.flat (fr.take j)).length ≤ 100 := by
     rw [List.length_append, pfl_len, List.length_take]; omega
   have hx : fr.getD j 0 = fr[j] := getD_at 0 hj
   have hvj := hv fr[j] (List.getElem_mem hj)
   rw [List.take_succ_eq_append_getElem hj, flat_app, L_12_0, S_12_0, cond_dtt (by omega), gd_inB (by omega) (by omega), Int.toNat_natCast, hx]
   generalize fr[j] = v at *
   rw [← List.append_assoc]
   generalize base ++ Sp.flat (fr.take j) = o at *
   rw [gd_room (by omega) (by omega), gd_room (by rw [List.length_append, List.length_singleton]; omega) (by rw [List.length_append, List.length_singleton]; omega), wi64 (n := v + 1099511627776) (by omega) (by omega), wi64 (n := (j : Int) + 1) (by omega) (by omega), Int.fdiv_eq_ediv_of_nonneg _ (by decide), and_32 (by omega) (by omega), wu32' (n := (v + 1099511627776) / 4294967296) (by omega) (by omega), wu32' (n := (v + 1099511627776) % 4294967296) (by omega) (by omega)]
   push_cast
   simp [Sp.flat, List.append_assoc]) (fun m => by
   show L_12_0 (m + 1) fr fr.length fr.length (base ++ Sp.flat (fr.take fr.length)) = _
   rw [L_12_0, S_12_0, cond_dff (by omega), List.take_length])
 simpa [Sp.flat] using h
theorem pack_ok (f : FaT) : F_12 f = some (bif Sp.good f then (Sp.wpk f, 0, ()) else ([], 1, ())) := by
 cases hg : Sp.good f
 · -- an error
   have hg2 := hg
   unfold Sp.good at hg2
   unfold F_12
   simp only [wi_pv, gd_tt]
   cases h1 : Sp.wi f.1 31
   · rfl
   cases h2 : Sp.wi f.2.2.1 2
   · rfl
   cases h3 : Sp.wi f.2.2.2.1 254
   · rfl
   cases h4 : Sp.wi f.2.2.2.2.1 255
   · rfl
   cases h5 : Sp.wi f.2.2.2.2.2.2.1 1073741824
   · rfl
   simp only [Bool.not_true, cond_f]
   by_cases h6 : (f.2.2.2.2.2.1.length : Int) > 8
   · rw [cond_dtt h6]
   rw [h1, h2, h3, h4, h5, decide_eq_true (by omega)] at hg2
   simp only [Bool.true_and] at hg2
   unfold Sp.bvals at hg2
   have hf := find0 (fun m i => L_12_53_0_0 m f.2.2.2.2.2.1 f.2.2.2.2.2.1.length i f) (n := f.2.2.2.2.2.1.length) (fun j => !Sp.bval (f.2.2.2.2.2.1.getD j 0)) (ex := fun j => some (.e0 (j : Int) f)) (e1 := some (.e1 f)) (by omega) (fun m j hj => by
     show L_12_53_0_0 (m + 1) f.2.2.2.2.2.1 f.2.2.2.2.2.1.length j f = bif !Sp.bval (f.2.2.2.2.2.1.getD j 0) then some (.e0 (j : Int) f) else L_12_53_0_0 m f.2.2.2.2.2.1 f.2.2.2.2.2.1.length ((j + 1 : Nat) : Int) f
     rw [L_12_53_0_0, S_12_53_0_0, cond_dtt (by omega), gd_inB (by omega) (by omega), Int.toNat_natCast, (bval_pv _).1, (bval_pv _).2, gd_tt, wi64 (by omega) (by omega)]
     push_cast
     rfl) (fun m => by
     show L_12_53_0_0 (m + 1) f.2.2.2.2.2.1 f.2.2.2.2.2.1.length f.2.2.2.2.2.1.length f = _
     rw [L_12_53_0_0, S_12_53_0_0, cond_dff (by omega)])
   rw [cond_dff h6, hf]
   cases hk : fnd (fun j => !Sp.bval (f.2.2.2.2.2.1.getD j 0)) f.2.2.2.2.2.1.length 0 with
   | none => rw [hk] at hg2; cases hg2
   | some k =>
     simp only [B_12_53_0_0]
     rw [cond_dtt (by omega)]
 · obtain ⟨h1, h2, h3, h4, h5, h6, h7⟩ := good_iff.1 hg
   unfold F_12
   simp only [wi_pv, gd_tt]
   rw [wi_iff.2 h1, wi_iff.2 h2, wi_iff.2 h3, wi_iff.2 h4, wi_iff.2 h5]
   simp only [Bool.not_true, cond_f]
   have hf := run0 (fun m i (_ : Unit) => L_12_53_0_0 m f.2.2.2.2.2.1 f.2.2.2.2.2.1.length i f) (n := f.2.2.2.2.2.1.length) (fun _ => ()) (r := some (.e1 f)) (by omega) (fun m j hj => by
     show L_12_53_0_0 (m + 1) f.2.2.2.2.2.1 f.2.2.2.2.2.1.length j f = L_12_53_0_0 m f.2.2.2.2.2.1 f.2.2.2.2.2.1.length ((j + 1 : Nat) : Int) f
     have hvj := h7 f.2.2.2.2.2.1[j] (List.getElem_mem hj)
     rw [L_12_53_0_0, S_12_53_0_0, cond_dtt (by omega), gd_inB (by omega) (by omega), Int.toNat_natCast, (bval_pv _).1, (bval_pv _).2, gd_tt, getD_at 0 hj, wi64 (by omega) (by omega)]
     have hv : Sp.bval f.2.2.2.2.2.1[j] = true := by simp [Sp.bval, hvj]
     rw [hv]
     push_cast
     rfl) (fun m => by
     show L_12_53_0_0 (m + 1) f.2.2.2.2.2.1 f.2.2.2.2.2.1.length f.2.2.2.2.2.1.length f = _
     rw [L_12_53_0_0, S_12_53_0_0, cond_dff (by omega)])
   have hf' : L_12_53_0_0 4611686018427387904 f.2.2.2.2.2.1 f.2.2.2.2.2.1.length 0 f = _ := hf
   rw [cond_dff (by omega), hf']
   simp only [B_12_53_0_0]
   rw [hdr_ok hg, wu32' (n := f.2.2.2.2.2.2.1) (by omega) (by omega), wu32' (n := (f.2.2.2.2.2.1.length : Int)) (by omega) (by omega), pack_loop _ _ h7 h6 (by simp)]
   rfl
theorem pack_pv (f : FaT) : p_12 f = true ∧ v_12 f = (bif Sp.good f then (Sp.wpk f, 0, ()) else ([], 1, ())) := pv_12 f (pack_ok f)
set_option maxRecDepth 100000
set_option maxHeartbeats 4000000
noncomputable def Sp.zeroF : FaT := (0, 0, 0, 0, 0, [], 0, ())
theorem unp_loop (l : List Int) (n : Nat) (hl : l.length = 3 + 2 * n) (hn : n ≤ 100) (hw : ∀ x ∈ l, 0 ≤ x ∧ x < 4294967296) (p2 p3 p4 p5 p6 : Int) (p7 : Int × Unit) (p8 : List Int) (p9 p10 p11 p12 p13 : Int) (p14 : Int × Unit) :
   L_29_0 4611686018427387904 l 3 p2 p3 p4 p5 p6 p7 p8 p9 p10 p11 p12 p13 p14 [] = (match fnd (fun j => decide (l.getD (3 + 2 * j) 0 > 512)) n 0 with | some _ => some .e0 | none => some (.e1 p2 p3 p4 p5 p6 p7 p8 p9 p10 p11 p12 p13 p14 (Sp.unflat (l.drop 3)))) := by
 have hat : ∀ j, j < l.length → 0 ≤ l.getD j 0 ∧ l.getD j 0 < 4294967296 := by
   intro j hj
   rw [getD_at 0 hj]
   exact hw _ (List.getElem_mem hj)
 have h := find0 (fun m i => L_29_0 m l (3 + 2 * i) p2 p3 p4 p5 p6 p7 p8 p9 p10 p11 p12 p13 p14 (Sp.unflat ((l.drop 3).take (2 * i.toNat)))) (n := n) (fun j => decide (l.getD (3 + 2 * j) 0 > 512)) (ex := fun _ => some .e0) (e1 := some (.e1 p2 p3 p4 p5 p6 p7 p8 p9 p10 p11 p12 p13 p14 (Sp.unflat (l.drop 3)))) (by omega) (fun m j hj => by
   show L_29_0 (m + 1) l (3 + 2 * (j : Int)) p2 p3 p4 p5 p6 p7 p8 p9 p10 p11 p12 p13 p14 (Sp.unflat ((l.drop 3).take (2 * j))) = bif decide (l.getD (3 + 2 * j) 0 > 512) then some .e0 else L_29_0 m l (3 + 2 * ((j + 1 : Nat) : Int)) p2 p3 p4 p5 p6 p7 p8 p9 p10 p11 p12 p13 p14 (Sp.unflat ((l.drop 3).take (2 * (j + 1))))
   have hlen : (Sp.unflat ((l.drop 3).take (2 * j))).length = j := by
     refine upfl_len j _ ?_
     rw [List.length_take, List.length_drop]; omega
   rw [unflat_snoc j (l.drop 3) (by rw [List.length_drop]; omega)]
   have g1 : (l.drop 3).getD (2 * j) 0 = l.getD (3 + 2 * j) 0 := by simp [List.getD_eq_getElem?_getD]
   have g2 : (l.drop 3).getD (2 * j + 1) 0 = l.getD (3 + 2 * j + 1) 0 := by simp [List.getD_eq_getElem?_getD, Nat.add_assoc]
   rw [g1, g2]
   have b1 := hat (3 + 2 * j) (by omega)
   have b2 := hat (3 + 2 * j + 1) (by omega)
   rw [L_29_0, S_29_0, cond_dtt (by omega), gd_inB (by omega) (by omega), show (3 + 2 * (j : Int)).toNat = 3 + 2 * j by omega]
   generalize Sp.unflat ((l.drop 3).take (2 * j)) = fr at *
   by_cases hh : l.getD (3 + 2 * j) 0 > 512
   · rw [cond_dtt hh, cond_dtt hh]
   rw [cond_dff hh, cond_dff hh, gd_inB (by omega) (by omega), wi64 (n := 3 + 2 * (j : Int) + 1) (by omega) (by omega), gd_inB (by omega) (by omega), gd_room (by omega) (by omega), show (3 + 2 * (j : Int) + 1).toNat = 3 + 2 * j + 1 by omega]
   generalize l.getD (3 + 2 * j) 0 = a at *
   generalize l.getD (3 + 2 * j + 1) 0 = b at *
   rw [wi64 (n := a) (by omega) (by omega), wi64 (n := b) (by omega) (by omega), wi64 (n := a * 4294967296) (by omega) (by omega), wi64 (n := a * 4294967296 + b) (by omega) (by omega), wi64 (n := a * 4294967296 + b - 1099511627776) (by omega) (by omega), wi64 (n := 3 + 2 * (j : Int) + 2) (by omega) (by omega), show 3 + 2 * (j : Int) + 2 = 3 + 2 * ((j + 1 : Nat) : Int) by omega]) (fun m => by
   show L_29_0 (m + 1) l (3 + 2 * (n : Int)) p2 p3 p4 p5 p6 p7 p8 p9 p10 p11 p12 p13 p14 (Sp.unflat ((l.drop 3).take (2 * n))) = _
   rw [L_29_0, S_29_0, cond_dff (by omega), List.take_of_length_le (by rw [List.length_drop]; omega)])
 exact h
theorem unp_ok (l : List Int) (hw : ∀ x ∈ l, 0 ≤ x ∧ x < 4294967296) : F_29 l = some (bif Sp.cond l then (Sp.xof l, 0, ()) else (Sp.zeroF, 3, ())) := by
 have hat : ∀ j, j < l.length → 0 ≤ l.getD j 0 ∧ l.getD j 0 < 4294967296 := by
   intro j hj
   rw [getD_at 0 hj]
   exact hw _ (List.getElem_mem hj)
 unfold F_29 Sp.cond
 by_cases h1 : (l.length : Int) < 3
 · rw [cond_dtt h1, decide_eq_true h1]; rfl
 rw [cond_dff h1, decide_eq_false h1, Bool.not_false, Bool.true_and]
 have b0 := hat 0 (by omega)
 have b1 := hat 1 (by omega)
 have b2 := hat 2 (by omega)
 simp only [gd_inB (show (0 : Int) ≤ 2 by decide) (show (2 : Int) < (l.length : Nat) by omega), gd_inB (show (0 : Int) ≤ 1 by decide) (show (1 : Int) < (l.length : Nat) by omega), gd_inB (show (0 : Int) ≤ 0 by decide) (show (0 : Int) < (l.length : Nat) by omega)]
 by_cases h2 : l.getD 2 0 > 8
 · rw [cond_dtt h2, decide_eq_true h2]; rfl
 rw [cond_dff h2, decide_eq_false h2, Bool.not_false, Bool.true_and, wi64 (n := l.getD 2 0) (by omega) (by omega), wi64 (n := 2 * l.getD 2 0) (by omega) (by omega), wi64 (n := 3 + 2 * l.getD 2 0) (by omega) (by omega)]
 by_cases h3 : (l.length : Int) = 3 + 2 * l.getD 2 0
 rotate_left
 · rw [cond_ntt h3, beq_eq_false_iff_ne.2 h3]; rfl
 rw [cond_nff h3, beq_iff_eq.2 h3, Bool.true_and]
 by_cases h4 : l.getD 1 0 > 1073741824
 · rw [cond_dtt h4, decide_eq_true h4]; rfl
 rw [cond_dff h4, decide_eq_false h4, Bool.not_false, Bool.true_and, wi64 (n := l.getD 0 0) (by omega) (by omega), wi64 (n := l.getD 1 0) (by omega) (by omega)]
 by_cases h5 : Sp.andnI .i64 (Sp.andI .i64 (l.getD 0 0) 255) 22 = 0
 rotate_left
 · rw [cond_ntt h5, beq_eq_false_iff_ne.2 h5]; rfl
 rw [cond_nff h5, beq_iff_eq.2 h5, Bool.true_and, unp_loop l (l.getD 2 0).toNat (by omega) (by omega) hw]
 cases hk : fnd (fun j => decide (l.getD (3 + 2 * j) 0 > 512)) (l.getD 2 0).toNat 0 with
 | some k => rfl
 | none =>
   simp only [B_29_0, Option.isNone, Bool.true_and]
   have hx : ((Sp.andI .i64 (l.getD 0 0) 255, 0, Sp.andI .i64 (Int.fdiv (l.getD 0 0) 256) 255, Sp.andI .i64 (Int.fdiv (l.getD 0 0) 65536) 255, Int.fdiv (l.getD 0 0) 16777216, Sp.unflat (l.drop 3), l.getD 1 0, ()) : FaT) = Sp.xof l := rfl
   rw [hx, (pack_pv _).1, (pack_pv _).2, gd_tt]
   cases Sp.good (Sp.xof l) <;> rfl
theorem unp_pv (l : List Int) (hw : ∀ x ∈ l, 0 ≤ x ∧ x < 4294967296) : p_29 l = true ∧ v_29 l = (bif Sp.cond l then (Sp.xof l, 0, ()) else (Sp.zeroF, 3, ())) := pv_29 l (unp_ok l hw)
namespace Sp
noncomputable def cyc (m : MeT) : Int := if (rdk m 254).2.1 = 0 ∧ (rdk m 254).1.length = 1 ∧ (rdk m 254).1.getD 0 0 ≤ 1073741824 then (rdk m 254).1.getD 0 0 else 0
noncomputable def sto (f : FaT) : Bool := Sp.andI .i64 f.1 6 != 0
noncomputable def upk (l : List Int) : FaT × Int × Unit := bif cond l then (xof l, 0, ()) else (zeroF, 3, ())
/-- What stands for a fault in a memory, if anything that may be stored does. -/
noncomputable def lof (m : MeT) (c : CfT) (i : Nat) : Option FaT := if (rdk m i).2.1 = 0 ∧ 1 ≤ (rdk m i).1.length ∧ (rdk m i).1.getD 0 0 = c.1 ∧ (upk ((rdk m i).1.drop 1)).2.1 = 0 ∧ sto (upk ((rdk m i).1.drop 1)).1 = true then some (upk ((rdk m i).1.drop 1)).1 else none
noncomputable def lo1 (m : MeT) (cs : List CfT) (r : Int × Bool × Unit) (i : Nat) (L : List FaT) : List FaT := match lof m (cs.getD i Zd1) i with
 | some f => if vf (cs, L.set i f, r) = true then L.set i f else (L.set i f).set i zeroF
 | none => L
noncomputable def lol (m : MeT) (cs : List CfT) (r : Int × Bool × Unit) : Nat → Nat → List FaT → List FaT
 | 0, _, L => L
 | d + 1, i, L => lol m cs r d (i + 1) (lo1 m cs r i L)
noncomputable def lod (m : MeT) (l : List CfT) : FsT × Int × Unit := if mvl m = true then (if rcs l = 0 then ((l, lol m l (cyc m, false, ()) l.length 0 (replicate l.length Zd2), cyc m, false, ()), 0, ()) else (([], [], 0, false, ()), rcs l, ())) else (([], [], 0, false, ()), 1, ())
end Sp
theorem cyc_pv {m : MeT} (hw : W32f m.1) : p_27 m = true ∧ v_27 m = (Sp.cyc m, ()) := by
 have r := rdk_pv hw 254
 have b := rdk_b hw 254
 refine pv_27 m ?_
 unfold F_27 Sp.cyc
 rw [r.1, r.2, gd_tt]
 have bx := W32l.at b.1 0
 by_cases h1 : (Sp.rdk m 254).2.1 = 0
 rotate_left
 · rw [cond_ntt h1, if_neg (fun a => h1 a.1)]
 rw [cond_nff h1]
 by_cases h2 : (Sp.rdk m 254).1.length = 1
 rotate_left
 · rw [cond_ntt (by omega), if_neg (fun a => h2 a.2.1)]
 rw [cond_nff (by omega), gd_inB (by omega) (by omega)]
 by_cases h3 : (Sp.rdk m 254).1.getD 0 0 ≤ 1073741824
 · rw [cond_dff (by omega), gd_inB (by omega) (by omega), if_pos ⟨h1, h2, h3⟩, wi64 (by omega) (by omega)]
 · rw [cond_dtt (by omega), if_neg (fun a => h3 a.2.2)]
theorem unfl_le : ∀ l : List Int, (Sp.unflat l).length ≤ l.length
 | [] => Nat.le_refl _
 | [_] => Nat.zero_le _
 | a :: b :: l => by
   have := unfl_le l
   simp only [Sp.unflat, List.length_cons]
   omega
theorem upk_fr {l : List Int} (h : l.length ≤ 1000) : (Sp.upk l).1.2.2.2.2.2.1.length ≤ 1000 := by
 unfold Sp.upk
 cases Sp.cond l
 · exact Nat.zero_le _
 · have := unfl_le (l.drop 3)
   rw [List.length_drop] at this
   show (Sp.unflat (l.drop 3)).length ≤ 1000
   omega
/-- Frames are short. -/
noncomputable def FRL (L : List FaT) : Prop := ∀ f ∈ L, f.2.2.2.2.2.1.length ≤ 1000
theorem FRL.set {L : List FaT} (h : FRL L) (i : Nat) {f : FaT} (hf : f.2.2.2.2.2.1.length ≤ 1000) : FRL (L.set i f) := fun x hx => by
 rcases List.mem_or_eq_of_mem_set hx with h1 | rfl
 · exact h x h1
 · exact hf
theorem FRL.sm {F : FsT} (h : FRL F.2.1) (hl : F.2.1.length ≤ 1000) : Sm F := ⟨by omega, fun j hj => by
 have := h _ (List.getElem_mem hj)
 rw [getD_at _ hj]
 omega⟩
theorem lof_fr {m : MeT} (hw : W32f m.1) {c : CfT} {i : Nat} {f : FaT} (h : Sp.lof m c i = some f) : f.2.2.2.2.2.1.length ≤ 1000 := by
 unfold Sp.lof at h
 split at h
 · have b := rdk_b hw (i : Int)
   have := upk_fr (l := (Sp.rdk m i).1.drop 1) (by rw [List.length_drop]; omega)
   injection h with h
   rw [← h]
   exact this
 · cases h
theorem lo1_b {m : MeT} (hw : W32f m.1) (cs : List CfT) (r : Int × Bool × Unit) (i : Nat) {L : List FaT} (h : FRL L) : FRL (Sp.lo1 m cs r i L) ∧ (Sp.lo1 m cs r i L).length = L.length := by
 unfold Sp.lo1
 cases hf : Sp.lof m (cs.getD i Zd1) i with
 | none => exact ⟨h, rfl⟩
 | some f =>
   have := lof_fr hw hf
   dsimp only
   split
   · exact ⟨h.set i this, List.length_set ..⟩
   · exact ⟨(h.set i this).set i (Nat.zero_le _), by rw [List.length_set, List.length_set]⟩
theorem lol_b {m : MeT} (hw : W32f m.1) (cs : List CfT) (r : Int × Bool × Unit) : ∀ (d i : Nat) {L : List FaT}, FRL L → FRL (Sp.lol m cs r d i L) ∧ (Sp.lol m cs r d i L).length = L.length
 | 0, _, _, h => ⟨h, rfl⟩
 | d + 1, i, L, h => by
   have a := lo1_b hw cs r i h
   have b := lol_b hw cs r d (i + 1) a.1
   rw [Sp.lol]
   exact ⟨b.1, b.2.trans a.2⟩
theorem sto_pv (f : FaT) : p_30 f = true ∧ v_30 f = (Sp.sto f, ()) := pv_30 f rfl
theorem ld_l {m : MeT} (hw : W32f m.1) (cs : List CfT) (hc : cs.length ≤ 64) (r p4 : Int × Bool × Unit) (p5 : List CfT) (p6 : List FaT) : ∀ (d q i : Nat) (L : List FaT), FRL L → L.length = cs.length → i + d = cs.length → d < q →
   L_9_0 q cs cs.length i m p4 p5 p6 cs r L = some (.e0 p4 p5 p6 cs r (Sp.lol m cs r d i L)) := by
 intro d
 induction d with
 | zero =>
   intro q i L _ _ hi hq
   obtain ⟨q, rfl⟩ : ∃ k, q = k + 1 := ⟨q - 1, by omega⟩
   rw [L_9_0, S_9_0, cond_dff (by omega)]
   rfl
 | succ d ih =>
   intro q i L hL hl hi hq
   obtain ⟨q, rfl⟩ : ∃ k, q = k + 1 := ⟨q - 1, by omega⟩
   have v := rdk_pv hw (i : Int)
   have b := rdk_b hw (i : Int)
   have bx := W32l.at b.1 0
   have ab := lo1_b hw cs r i hL
   have nx := ih q (i + 1) (Sp.lo1 m cs r i L) ab.1 (ab.2.trans hl) (by omega) (by omega)
   have ei : wrap .i64 ((i : Int) + 1) = ((i + 1 : Nat) : Int) := by rw [wi64 (by omega) (by omega)]; push_cast; rfl
   rw [L_9_0, S_9_0, cond_dtt (by omega), gd_inB (by omega) (by omega), v.1, v.2, gd_tt, Int.toNat_natCast, ei, Sp.lol]
   have skip : Sp.lof m (cs.getD i Zd1) i = none → Sp.lo1 m cs r i L = L := fun h => by unfold Sp.lo1; rw [h]
   have e0 : ∀ c : CfT, Sp.lof m c i = if (Sp.rdk m i).2.1 = 0 ∧ 1 ≤ (Sp.rdk m i).1.length ∧ (Sp.rdk m i).1.getD 0 0 = c.1 ∧ (Sp.upk ((Sp.rdk m i).1.drop 1)).2.1 = 0 ∧ Sp.sto (Sp.upk ((Sp.rdk m i).1.drop 1)).1 = true then some (Sp.upk ((Sp.rdk m i).1.drop 1)).1 else none := fun c => rfl
   by_cases h1 : (Sp.rdk m i).2.1 = 0
   rotate_left
   · rw [skip (by rw [e0, if_neg (fun a => h1 a.1)])] at nx ⊢
     rw [cond_ntt h1]
     exact nx
   rw [cond_nff h1]
   by_cases h2 : 1 ≤ (Sp.rdk m i).1.length
   rotate_left
   · rw [skip (by rw [e0, if_neg (fun a => h2 a.2.1)])] at nx ⊢
     rw [cond_dtt (by omega)]
     exact nx
   rw [cond_dff (by omega), gd_inB (by omega) (by omega), wi64 (n := (Sp.rdk m i).1.getD 0 0) (by omega) (by omega)]
   by_cases h3 : (Sp.rdk m i).1.getD 0 0 = (cs.getD i Zd1).1
   rotate_left
   · rw [skip (by rw [e0, if_neg (fun a => h3 a.2.2.1)])] at nx ⊢
     rw [cond_ntt h3]
     exact nx
   have u := unp_pv ((Sp.rdk m i).1.drop 1) (fun x hx => b.1 x (List.mem_of_mem_drop hx))
   rw [show (bif Sp.cond ((Sp.rdk m i).1.drop 1) then (Sp.xof ((Sp.rdk m i).1.drop 1), 0, ()) else (Sp.zeroF, 3, ())) = Sp.upk ((Sp.rdk m i).1.drop 1) from rfl] at u
   rw [cond_nff h3, gd_sl3 (by omega) (by omega) (by omega), u.1, u.2, gd_tt]
   by_cases h4 : (Sp.upk ((Sp.rdk m i).1.drop 1)).2.1 = 0
   rotate_left
   · rw [skip (by rw [e0, if_neg (fun a => h4 a.2.2.2.1)])] at nx ⊢
     rw [cond_ntt h4]
     exact nx
   have s := sto_pv (Sp.upk ((Sp.rdk m i).1.drop 1)).1
   rw [cond_nff h4, s.1, s.2, gd_tt]
   dsimp only
   cases h5 : Sp.sto (Sp.upk ((Sp.rdk m i).1.drop 1)).1 with
   | false =>
     rw [skip (by rw [e0, if_neg (fun a => by rw [h5] at a; exact Bool.noConfusion a.2.2.2.2)])] at nx ⊢
     rw [Bool.not_false, cond_t]
     exact nx
   | true =>
   have hlo : Sp.lof m (cs.getD i Zd1) i = some (Sp.upk ((Sp.rdk m i).1.drop 1)).1 := by rw [e0, if_pos ⟨h1, h2, h3, h4, h5⟩]
   have hfr := lof_fr hw hlo
   have e1 : Sp.lo1 m cs r i L = if Sp.vf (cs, L.set i (Sp.upk ((Sp.rdk m i).1.drop 1)).1, r) = true then L.set i (Sp.upk ((Sp.rdk m i).1.drop 1)).1 else (L.set i (Sp.upk ((Sp.rdk m i).1.drop 1)).1).set i Sp.zeroF := by
     unfold Sp.lo1; rw [hlo]
   have g := vf_pv (F := (cs, L.set i (Sp.upk ((Sp.rdk m i).1.drop 1)).1, r)) (FRL.sm (hL.set i hfr) (by dsimp only; rw [List.length_set]; omega))
   rw [e1] at nx ⊢
   rw [Bool.not_true, cond_f, gd_inB (by omega) (by omega), Bool.and_true, Bool.and_true, gd_dec (by omega), g.1, g.2, gd_tt]
   dsimp only
   cases h6 : Sp.vf (cs, L.set i (Sp.upk ((Sp.rdk m i).1.drop 1)).1, r) with
   | true =>
     rw [h6, if_pos rfl] at nx
     rw [Bool.not_true, cond_f, if_pos rfl]
     exact nx
   | false =>
     rw [h6, if_neg Bool.false_ne_true] at nx
     rw [Bool.not_false, cond_t, if_neg Bool.false_ne_true, List.length_set, gd_inB (by omega) (by omega), Bool.and_true, Bool.and_true, gd_dec (by omega)]
     exact nx
theorem rcs_len {l : List CfT} (h : Sp.rcs l = 0) : l.length ≤ 64 := by
 unfold Sp.rcs at h
 by_cases c : l.length ≤ 64
 · exact c
 · rw [decide_eq_false c, cond_f] at h; cases h
theorem lod_pv {m : MeT} (hw : W32f m.1) (l : List CfT) : p_9 m l = true ∧ v_9 m l = Sp.lod m l := by
 have v := mvl_pv hw
 have n := new_pv l
 have c := cyc_pv hw
 refine pv_9 m l ?_
 unfold F_9 Sp.lod
 rw [v.1, v.2, gd_tt]
 dsimp only
 cases Sp.mvl m
 · rfl
 rw [Bool.not_true, cond_f, if_pos rfl, n.1, n.2, gd_tt]
 unfold Sp.newF
 by_cases h : Sp.rcs l = 0
 rotate_left
 · rw [cond_eff h, if_neg h, cond_ntt h]
 rw [cond_ett h, if_pos h, cond_nff rfl, c.1, c.2, gd_tt]
 dsimp only
 have fr : FRL (replicate l.length Zd2) := fun x hx => by
   rw [(List.mem_replicate.1 hx).2]; exact Nat.zero_le _
 have t := ld_l hw l (rcs_len h) (Sp.cyc m, false, ()) (0, false, ()) [] [] l.length 4611686018427387904 0 (replicate l.length Zd2) fr (List.length_replicate ..) (by omega) (by have := rcs_len h; omega)
 exact (congrArg (fun z => B_9_0 z _) t).trans rfl
theorem lod_b {m : MeT} (hw : W32f m.1) (l : List CfT) : FRL (Sp.lod m l).1.2.1 ∧ (Sp.lod m l).1.2.1.length ≤ 64 ∧ (Sp.lod m l).1.1.length ≤ 64 := by
 have z : FRL (([], [], 0, false, ()) : FsT).2.1 := fun x hx => by cases hx
 unfold Sp.lod
 split
 · split
   · rename_i h
     have fr : FRL (replicate l.length Zd2) := fun x hx => by
       rw [(List.mem_replicate.1 hx).2]; exact Nat.zero_le _
     have b := lol_b hw l (Sp.cyc m, false, ()) l.length 0 fr
     have hl := rcs_len h
     rw [List.length_replicate] at b
     exact ⟨b.1, by dsimp only; omega, hl⟩
   · exact ⟨z, Nat.zero_le _, Nat.zero_le _⟩
 · exact ⟨z, Nat.zero_le _, Nat.zero_le _⟩
set_option maxRecDepth 100000
set_option maxHeartbeats 4000000
theorem u32_b {n : Int} (h : (Lit.int .u32 n).wf = true) : 0 ≤ n ∧ n < 4294967296 := by
 simp [Lit.wf, IntKind.min, IntKind.max, IntKind.signed, IntKind.bits] at h; omega
theorem swrd_pv (l : List Int) (h : l.length ≤ 1000000) : p_32 l l = true ∧ v_32 l l = (true, ()) := by
 refine pv_32 l l ?_
 unfold F_32
 rw [cond_nff rfl]
 have t := run0 (fun m i (_ : Unit) => L_32_0 m l l i) (n := l.length) (fun _ => ()) (r := some .e1) (by omega) (fun m j hj => by
   show L_32_0 (m + 1) l l (j : Int) = L_32_0 m l l ((j + 1 : Nat) : Int)
   rw [L_32_0, S_32_0, cond_dtt (by omega), gd_inB (by omega) (by omega), gd_inB (by omega) (by omega), cond_nff rfl, wi64 (by omega) (by omega)]
   push_cast
   rfl) (fun m => by
   show L_32_0 (m + 1) l l l.length = _
   rw [L_32_0, S_32_0, cond_dff (by omega)])
 exact (congrArg (fun z => B_32_0 z _ _) t).trans rfl
theorem smem_pv (m : MeT) (h : m.1.1.length ≤ 1000000) (h2 : m.1.2.1.length ≤ 1000000) : p_10 m m = true ∧ v_10 m m = (true, ()) := by
 refine pv_10 m m ?_
 unfold F_10
 rw [cond_nff rfl, cond_nff rfl, cond_nff rfl, cond_nff rfl]
 have t := run0 (fun q i (_ : Unit) => L_10_0 q i m m) (n := m.1.2.1.length) (fun _ => ()) (r := some (.e1 m m)) (by omega) (fun q j hj => by
   show L_10_0 (q + 1) (j : Int) m m = L_10_0 q ((j + 1 : Nat) : Int) m m
   rw [L_10_0, S_10_0, cond_dtt (by omega), gd_inB (by omega) (by omega), gd_inB (by omega) (by omega), cond_nff rfl, wi64 (by omega) (by omega)]
   push_cast
   rfl) (fun q => by
   show L_10_0 (q + 1) m.1.2.1.length m m = _
   rw [L_10_0, S_10_0, cond_dff (by omega)])
 have w := swrd_pv m.1.1 h
 refine (congrArg (fun z => B_10_0 z _ _) t).trans ?_
 unfold B_10_0
 dsimp only
 rw [w.1, w.2, gd_tt]
abbrev zF : FsT := ([], [], 0, false, ())
abbrev BoT := MeT × FsT × Int × Unit
namespace Sp
/-- What Boot answers where it has a memory, and its error. -/
noncomputable def bov (m : MeT) (g : Int) (l : List CfT) : BoT := if g ≠ 0 then (zM, zF, g, ()) else if (lod m l).2.1 ≠ 0 then (zM, zF, (lod m l).2.1, ()) else (m, (lod m l).1, 0, ())
end Sp
theorem bo_v {m : MeT} (hw : W32f m.1) (g : Int) (l : List CfT) (p2 : Int × Unit) (p3 : PwT) (p4 p5 : List Int) (p6 : Int × Bool × Unit) (p7 : List CfT) (p8 : List FaT) :
   B_5_0 (J_5_0 l g p2 p3 p4 p5 p6 p7 p8 m) (fun y => some (Sp.zM, zF, y, ())) (fun y z => some (Sp.zM, zF, (v_9 z y).2.1, ())) (fun y z => some (z, (v_9 z y).1, (0 : Int), ())) = some (Sp.bov m g l) := by
 have v := lod_pv hw l
 unfold J_5_0 S_5_0 Sp.bov
 by_cases h : g = 0
 rotate_left
 · rw [cond_ntt h, if_pos h]; rfl
 rw [cond_nff h, if_neg (fun a => a h), v.1, v.2, gd_tt]
 by_cases h2 : (Sp.lod m l).2.1 = 0
 · rw [cond_nff h2, if_neg (fun a => a h2)]
   unfold B_5_0
   dsimp only
   rw [v.2]
 · rw [cond_ntt h2, if_pos h2]
   unfold B_5_0
   dsimp only
   rw [v.2]
theorem la_v {m : MeT} (hw : W32f m.1) (h1 : m.1.1.length ≤ 1000000) (h2 : m.1.2.1.length ≤ 1000000) (g : Int) (l : List CfT) :
   B_3_0 (J_3_0 l (Sp.bov m g l).2.2.1 g (Sp.bov m g l).1 (Sp.bov m g l).2.1 m) (fun y z => some (y == z)) (some false) (fun y => some (y == 0)) = some true := by
 have v := lod_pv hw l
 have b := lod_b hw l
 have z := smem_pv Sp.zM (by decide) (by decide)
 have z : p_10 Sp.zM (([], [], 0, ()), 0, 0, ()) = true ∧ v_10 Sp.zM (([], [], 0, ()), 0, 0, ()) = (true, ()) := z
 unfold J_3_0 S_3_0 Sp.bov
 by_cases h : g = 0
 rotate_left
 · rw [cond_eff h, if_pos h]
   dsimp only
   unfold J_3_1_1 S_3_1_1
   rw [cond_ntt h, z.1, z.2, gd_tt]
   show some (g == g) = some true
   rw [beq_self_eq_true]
 rw [cond_ett h, if_neg (fun a => a h), v.1, v.2, gd_tt]
 unfold J_3_1 S_3_1
 by_cases h3 : (Sp.lod m l).2.1 = 0
 rotate_left
 · rw [if_pos h3, cond_ntt h3]
   dsimp only
   rw [z.1, z.2, gd_tt]
   show some ((Sp.lod m l).2.1 == (Sp.lod m l).2.1) = some true
   rw [beq_self_eq_true]
 rw [if_neg (fun a => a h3), cond_nff h3]
 dsimp only
 have s := smem_pv m h1 h2
 have f := same_pv (F := (Sp.lod m l).1) (FRL.sm b.1 (by omega)) (by omega)
 rw [s.1, s.2, gd_tt, cond_t, f.1, f.2, gd_tt]
 rfl
theorem full_v : p_8 = true ∧ v_8 = ((1099511627776, 0, ()), ()) := full_pv
theorem opn_b {f : FlT} (hw : W32f f) (a n : Int) : W32f (Sp.opn f a n).1.1 ∧ (Sp.opn f a n).1.1.1.length ≤ 1000000 ∧ (Sp.opn f a n).1.1.2.1.length ≤ 1000000 := by
 have z : W32f Sp.zM.1 ∧ Sp.zM.1.1.length ≤ 1000000 ∧ Sp.zM.1.2.1.length ≤ 1000000 := ⟨(fun x hx => by cases hx), by decide, by decide⟩
 unfold Sp.opn
 split
 · rename_i hv
   have v := fv_iff.1 hv
   split
   · split
     · exact ⟨hw, (by show f.1.length ≤ 1000000; omega), (by show f.2.1.length ≤ 1000000; omega)⟩
     · exact z
   · exact z
 · exact z
theorem fmv_b {f : FlT} (hw : W32f f) (a n : Int) (p : PwT) : W32f (Sp.fmv f a n p).1.1 ∧ (Sp.fmv f a n p).1.1.1.length ≤ 1000000 ∧ (Sp.fmv f a n p).1.1.2.1.length ≤ 1000000 := by
 have z : W32f Sp.zM.1 ∧ Sp.zM.1.1.length ≤ 1000000 ∧ Sp.zM.1.2.1.length ≤ 1000000 := ⟨(fun x hx => by cases hx), by decide, by decide⟩
 refine ⟨fmv_w hw, ?_⟩
 unfold Sp.fmv
 split
 · rename_i h
   have hpb : 0 ≤ p.1 ∧ p.1 ≤ 1099511627776 := by have := h.2; unfold Sp.pok at this; simpa using this
   have v := fv_iff.1 h.1
   split
   · rename_i hp
     split
     · exact z.2
     · unfold Sp.dov
       split
       · rename_i h3
         rcases dol_sg _ (SG.init (p := p) h.1 hw hpb.1 hpb.2) (fm_sv h.1 hp) with g | g
         · have l := g.l
           have n := g.n
           exact ⟨(by dsimp only; omega), (by dsimp only; omega)⟩
         · rw [show ((f, a, n, ()) : MeT).1 = f from rfl, g] at h3; rcases h3 with h3 | h3 <;> cases h3
       · exact z.2
   · exact z.2
 · exact z.2
theorem boot_pv {f : FlT} (hw : W32f f) (a n : Int) (l : List CfT) : p_5 f a n l = true ∧ v_5 f a n l = (if (Sp.opn f a n).2.1 = 7 then Sp.bov (Sp.fmv f a n (1099511627776, 0, ())).1 (Sp.fmv f a n (1099511627776, 0, ())).2.2.1 l else Sp.bov (Sp.opn f a n).1 (Sp.opn f a n).2.1 l) := by
 have o := opn_pv hw a n
 have fm := fmt_pv (a := a) (n := n) (p := (1099511627776, 0, ())) hw
 refine pv_5 f a n l ?_
 unfold F_5
 rw [o.1, o.2, gd_tt]
 by_cases h : (Sp.opn f a n).2.1 = 7
 · rw [cond_ett h, if_pos h, full_v.1, full_v.2, gd_tt, fm.1, fm.2, gd_tt]
   exact bo_v (fmv_b hw a n _).1 _ l ..
 · rw [cond_eff h, if_neg h]
   exact bo_v (opn_b hw a n).1 _ l ..
theorem plain_3 (f : FlT) (a n : Int) (l : List CfT) (wf : wfD (.pair (.slice (.int .u32)) (.pair (.slice (.int .i64)) (.pair (.int .i64) .unit))) f) (_ : wfD (.int .i64) a) (_ : wfD (.int .i64) n) (_ : wfD (.slice (.pair (.int .i64) (.pair (.int .i64) (.pair (.int .i64) (.pair (.int .i64) (.pair (.int .i64) (.pair (.int .i64) (.pair .bool (.pair (.int .i64) .unit))))))))) l) : F_3 f a n l = some true := by
 have hw : W32f f := fun x hx => u32_b (wf.1 x hx)
 have o := opn_pv hw a n
 have fm := fmt_pv (a := a) (n := n) (p := (1099511627776, 0, ())) hw
 have b := boot_pv hw a n l
 unfold F_3
 rw [aw_pv.1, aw_pv.2, gd_tt, gd_tt]
 show (bif !true then some true else _) = some true
 rw [Bool.not_true, cond_f]
 by_cases h1 : (f.1.length : Int) > 1024
 · rw [cond_dtt h1]
 by_cases h2 : (f.2.1.length : Int) > 16
 · rw [cond_dff h1, cond_dtt h2]
 by_cases h3 : (l.length : Int) > 70
 · rw [cond_dff h1, cond_dff h2, cond_dtt h3]
 rw [cond_dff h1, cond_dff h2, cond_dff h3, b.1, b.2, gd_tt, o.1, o.2, gd_tt]
 by_cases h : (Sp.opn f a n).2.1 = 7
 · have bb := fmv_b hw a n (1099511627776, 0, ())
   rw [cond_ett h, if_pos h, full_v.1, full_v.2, gd_tt, fm.1, fm.2, gd_tt]
   exact la_v bb.1 bb.2.1 bb.2.2 _ l
 · have bb := opn_b hw a n
   rw [cond_eff h, if_neg h]
   exact la_v bb.1 bb.2.1 bb.2.2 _ l
end Go.Ev
