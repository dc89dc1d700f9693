/- Helpers: functions of the program as Lean functions, and what they compute. No condition. -/
import Derived.Test.YtnmiibgmjfiknaaGreatE3P4
import Derived.Test.YtnmiibgmjfiknaaGreatG3P1
import Derived.Test.YtnmiibgmjfiknaaGreatE3P2
import Derived.Test.YtnmiibgmjfiknaaGreatG3P2
set_option maxRecDepth 10000
set_option linter.unusedVariables false
set_option linter.unusedSimpArgs false
open Go.IntKind (wrap i64 i32 i16 i8 u64 u32 u16 u8)
open List (getD length take drop replicate)
open Int (toNat)
open Go.Ev.Sp
set_option linter.unusedSimpArgs false
set_option linter.unusedVariables false
namespace Go.Ev
open Go
set_option maxRecDepth 100000
set_option maxHeartbeats 4000000
abbrev FlT := List Int × List Int × Int × Unit
abbrev PwT := Int × Int × Unit
abbrev OpT := Bool × Int × Int × Unit
abbrev RsT := FlT × PwT × Int × Unit
namespace Sp
noncomputable def wb (f : FlT) (j : Nat) : Bool := decide (f.2.1.getD j 0 < 0) || decide (f.2.1.getD j 0 > f.2.2.1)
noncomputable def fv (f : FlT) : Bool := decide (1 ≤ f.2.1.length) && (decide (f.2.1.length ≤ 64) && (decide (f.1.length = f.2.1.length * 64) && (decide (1 ≤ f.2.2.1) && (decide (f.2.2.1 ≤ 1000000) && (fnd (wb f) f.2.1.length 0).isNone))))
noncomputable def pw (f : FlT) (k : Nat) (w bits : Int) : FlT := (f.1.set k (andnI .u32 (f.1.getD k 0) (andnI .u32 bits w)), f.2.1, f.2.2.1, ())
noncomputable def prg (f : FlT) (k : Nat) (w : Int) (p : PwT) : RsT := if p.1 = 0 then (f, p, 18, ()) else if p.1 = 1 then (pw f k w p.2.1, (0, p.2), 18, ()) else (pw f k w 4294967295, (p.1 - 1, p.2), 0, ())
noncomputable def orW (ws : List Int) (o : Nat) (bits : Int) (n : Nat) : List Int := ws.mapIdx (fun i x => if o ≤ i ∧ i < o + n then orI .u32 x bits else x)
noncomputable def ew (f : FlT) (s : Nat) (bits : Int) : FlT := (orW f.1 (s * 64) bits 64, f.2.1.set s (f.2.1.getD s 0 + 1), f.2.2.1, ())
noncomputable def ers (f : FlT) (s : Nat) (p : PwT) : RsT := if f.2.1.getD s 0 = f.2.2.1 then (([], [], 0, ()), (0, 0, ()), 19, ()) else if p.1 = 0 then (f, p, 18, ()) else if p.1 = 1 then (ew f s p.2.1, (0, p.2), 18, ()) else (ew f s 4294967295, (p.1 - 1, p.2), 0, ())
end Sp
theorem fv_iff {f : FlT} : Sp.fv f = true ↔ 1 ≤ f.2.1.length ∧ f.2.1.length ≤ 64 ∧ f.1.length = f.2.1.length * 64 ∧ 1 ≤ f.2.2.1 ∧ f.2.2.1 ≤ 1000000 ∧ ∀ j, j < f.2.1.length → 0 ≤ f.2.1.getD j 0 ∧ f.2.1.getD j 0 ≤ f.2.2.1 := by
 simp only [Sp.fv, Bool.and_eq_true, decide_eq_true_eq, Option.isNone_iff_eq_none, fnd_none, Sp.wb, Bool.or_eq_false_iff, decide_eq_false_iff_not]
 constructor
 · rintro ⟨a, b, c, d, e, g⟩
   refine ⟨a, b, c, d, e, fun j hj => ?_⟩
   have := g j (by omega) (by omega)
   omega
 · rintro ⟨a, b, c, d, e, g⟩
   refine ⟨a, b, c, d, e, fun j _ hj => ?_⟩
   have := g j (by omega)
   omega
theorem fv_ok (f : FlT) : F_78 f = some (Sp.fv f, ()) := by
 unfold F_78 Sp.fv
 by_cases h1 : (f.2.1.length : Int) < 1
 · rw [cond_dtt h1, decide_eq_false (by omega)]; rfl
 rw [cond_dff h1, decide_eq_true (p := 1 ≤ f.2.1.length) (by omega), Bool.true_and]
 by_cases h2 : (f.2.1.length : Int) > 64
 · rw [cond_dtt h2, decide_eq_false (by omega)]; rfl
 rw [cond_dff h2, decide_eq_true (p := f.2.1.length ≤ 64) (by omega), Bool.true_and, wi64 (by omega) (by omega)]
 by_cases h3 : (f.1.length : Int) = (f.2.1.length : Int) * 64
 rotate_left
 · rw [cond_ntt h3, decide_eq_false (p := f.1.length = _) (by omega)]; rfl
 rw [cond_nff h3, decide_eq_true (p := f.1.length = _) (by omega), Bool.true_and]
 by_cases h4 : f.2.2.1 < 1
 · rw [cond_dtt h4, decide_eq_false (by omega)]; rfl
 rw [cond_dff h4, decide_eq_true (p := 1 ≤ f.2.2.1) (by omega), Bool.true_and]
 by_cases h5 : f.2.2.1 > 1000000
 · rw [cond_dtt h5, decide_eq_false (by omega)]; rfl
 rw [cond_dff h5, decide_eq_true (p := f.2.2.1 ≤ 1000000) (by omega), Bool.true_and]
 have hf := find0 (fun m i => L_78_114_0_0 m f.2.1 f.2.1.length i f) (n := f.2.1.length) (Sp.wb f) (ex := fun j => some (.e0 (j : Int) f)) (e1 := some (.e1 f)) (by omega) (fun m j hj => by
   show L_78_114_0_0 (m + 1) f.2.1 f.2.1.length j f = bif Sp.wb f j then some (.e0 (j : Int) f) else L_78_114_0_0 m f.2.1 f.2.1.length ((j + 1 : Nat) : Int) f
   rw [L_78_114_0_0, S_78_114_0_0, cond_dtt (by omega), gd_inB (by omega) (by omega), Int.toNat_natCast, wi64 (by omega) (by omega)]
   unfold Sp.wb
   push_cast
   grind) (fun m => by
   show L_78_114_0_0 (m + 1) f.2.1 f.2.1.length f.2.1.length f = _
   rw [L_78_114_0_0, S_78_114_0_0, cond_dff (by omega)])
 rw [hf]
 cases fnd (Sp.wb f) f.2.1.length 0 with
 | none => rfl
 | some k =>
   simp only [B_78_114_0_0, Option.isNone]
   rw [decide_eq_true (by omega)]
   rfl
theorem fv_pv (f : FlT) : p_78 f = true ∧ v_78 f = (Sp.fv f, ()) := pv_78 f (fv_ok f)
theorem getD_set {α : Type} (l : List α) (i j : Nat) (x d : α) (h : i < l.length) : (l.set i x).getD j d = if i = j then x else l.getD j d := by
 simp only [List.getD_eq_getElem?_getD, List.getElem?_set]
 split
 · simp [h]
 · rfl
set_option maxRecDepth 100000
set_option maxHeartbeats 4000000
abbrev MeT := FlT × Int × Int × Unit
abbrev EnT := Int × List Int × Unit
abbrev W32f (f : FlT) : Prop := ∀ x ∈ f.1, 0 ≤ x ∧ x < 4294967296
theorem W32f.at {f : FlT} (h : W32f f) (k : Nat) : 0 ≤ f.1.getD k 0 ∧ f.1.getD k 0 < 4294967296 := by
 rw [List.getD_eq_getElem?_getD]
 cases e : f.1[k]? with
 | none => decide
 | some x => exact h x (List.mem_of_getElem? e)
namespace Sp
/-- The pair word of a number. -/
noncomputable def prw (n : Int) : Int := n * 65536 + (65535 - n)
noncomputable def nmb (w : Int) : Int × Bool := (w / 65536, prw (w / 65536) == w)
noncomputable def plc (m : MeT) : Bool := decide (2 ≤ m.2.2.1) && (decide (m.2.2.1 ≤ 16) && ((m.2.2.1 % 2 == 0) && (decide (0 ≤ m.2.1) && decide (m.2.1 ≤ (m.1.2.1.length : Int) - m.2.2.1))))
/-- The number of words of a half, and where it begins. -/
noncomputable def hsz (m : MeT) : Nat := 32 * m.2.2.1.toNat
noncomputable def hbs (m : MeT) (k : Nat) : Nat := 64 * m.2.1.toNat + k * hsz m
noncomputable def hwr (m : MeT) (k : Nat) : List Int := take (hsz m) (drop (hbs m k) m.1.1)
noncomputable def gnr (m : MeT) (k : Nat) : Int := bif (nmb ((hwr m k).getD 0 0)).2 then (nmb ((hwr m k).getD 0 0)).1 else 0
/-- The half in use, and whether there is one. -/
noncomputable def acv (m : MeT) : Nat := bif decide (gnr m 1 > gnr m 0) then 1 else 0
noncomputable def acb (m : MeT) : Bool := decide (gnr m 1 > gnr m 0) || decide (gnr m 0 > 0)
noncomputable def mvl (m : MeT) : Bool := fv m.1 && (plc m && acb m)
noncomputable def stp (s w : Int) : Int := (31 * s + w / 65536 + 7 * (w % 65536)) % 65536
noncomputable def smw (l : List Int) : Int := l.foldl stp 0
end Sp
theorem xor_n {n : Nat} (h : n < 65536) : Sp.andI .i64 (Sp.xorI .i64 (-1) (n : Int)) 65535 = 65535 - (n : Int) := by
 have e0 : (BitVec.ofInt 64 (-1) ^^^ BitVec.ofInt 64 (n : Int)).toNat = 18446744073709551615 - n := by
   have : BitVec.ofInt 64 (-1) ^^^ BitVec.ofInt 64 (n : Int) = ~~~ BitVec.ofInt 64 (n : Int) := by
     rw [show BitVec.ofInt 64 (-1) = BitVec.allOnes 64 from rfl, BitVec.allOnes_xor]
   rw [this, BitVec.toNat_not]
   have : (BitVec.ofInt 64 (n : Int)).toNat = n := by
     rw [BitVec.ofInt_natCast, BitVec.toNat_ofNat]; omega
   omega
 have e1 : Sp.xorI .i64 (-1) (n : Int) = -1 - (n : Int) := by
   unfold Sp.xorI
   show wrap .i64 ((BitVec.ofInt 64 (-1) ^^^ BitVec.ofInt 64 (n : Int)).toNat : Int) = _
   rw [e0, IntKind.wrap_i64]
   omega
 rw [e1]
 unfold Sp.andI
 show wrap .i64 ((BitVec.ofInt 64 (-1 - (n : Int)) &&& BitVec.ofInt 64 65535).toNat : Int) = _
 have e2 : (BitVec.ofInt 64 (-1 - (n : Int))).toNat = 18446744073709551615 - n := by
   rw [BitVec.toNat_ofInt]; omega
 rw [BitVec.toNat_and, e2, show (BitVec.ofInt 64 65535).toNat = 2 ^ 16 - 1 from rfl, Nat.and_two_pow_sub_one_eq_mod, wi64 (by omega) (by omega)]
 omega
theorem pair_pv {n : Int} (h0 : 0 ≤ n) (h1 : n < 65536) : p_124 n = true ∧ v_124 n = (Sp.prw n, ()) := by
 refine pv_124 n ?_
 obtain ⟨k, rfl⟩ := Int.eq_ofNat_of_zero_le h0
 unfold F_124 Sp.prw
 have h1' : k < 65536 := by omega
 rw [xor_n h1', u32_wrap_nat (by omega), show (k : Int) * 65536 = ((k * 65536 : Nat) : Int) from (Int.natCast_mul k 65536).symm, u32_wrap_nat (by omega), show 65535 - (k : Int) = ((65535 - k : Nat) : Int) by omega, u32_wrap_nat (by omega), orU_nat (by omega) (by omega), show k * 65536 = k * 2 ^ 16 from rfl, or_add 16 (by omega)]
 congr 2
theorem num_pv {w : Int} (h0 : 0 ≤ w) (h1 : w < 4294967296) : p_141 w = true ∧ v_141 w = ((Sp.nmb w).1, (Sp.nmb w).2, ()) := by
 refine pv_141 w ?_
 unfold F_141
 have e : Int.fdiv w 65536 = w / 65536 := Int.fdiv_eq_ediv_of_nonneg _ (by decide)
 rw [e, wi64 (by omega) (by omega), (pair_pv (n := w / 65536) (by omega) (by omega)).1, (pair_pv (n := w / 65536) (by omega) (by omega)).2, gd_tt]
 rfl
theorem nmb_b {w : Int} (h0 : 0 ≤ w) (h1 : w < 4294967296) : 0 ≤ (Sp.nmb w).1 ∧ (Sp.nmb w).1 < 65536 := by
 unfold Sp.nmb
 dsimp only
 omega
theorem plc_pv (m : MeT) (h : m.1.2.1.length ≤ 1000000) : p_79 m = true ∧ v_79 m = (Sp.plc m, ()) := by
 refine pv_79 m ?_
 unfold F_79 Sp.plc
 by_cases h1 : 2 ≤ m.2.2.1
 rotate_left
 · rw [cond_dff (by omega), decide_eq_false h1]; rfl
 rw [cond_dtt (by omega), decide_eq_true h1, Bool.true_and]
 by_cases h2 : m.2.2.1 ≤ 16
 rotate_left
 · rw [cond_dff h2, decide_eq_false h2]; rfl
 rw [cond_dtt h2, decide_eq_true h2, Bool.true_and, Int.tmod_eq_emod_of_nonneg (by omega), wi64 (by omega) (by omega)]
 by_cases h3 : m.2.2.1 % 2 = 0
 rotate_left
 · rw [cond_eff h3, beq_eq_false_iff_ne.2 h3]; rfl
 rw [cond_ett h3, beq_iff_eq.2 h3, Bool.true_and]
 by_cases h4 : 0 ≤ m.2.1
 · rw [cond_dtt (by omega), decide_eq_true h4, Bool.true_and]
 · rw [cond_dff (by omega), decide_eq_false h4]; rfl
theorem plc_iff {m : MeT} : Sp.plc m = true ↔ 2 ≤ m.2.2.1 ∧ m.2.2.1 ≤ 16 ∧ m.2.2.1 % 2 = 0 ∧ 0 ≤ m.2.1 ∧ m.2.1 ≤ (m.1.2.1.length : Int) - m.2.2.1 := by
 unfold Sp.plc
 simp only [Bool.and_eq_true, decide_eq_true_eq, beq_iff_eq]
/-- What is known of a memory whose sectors exist. -/
theorem pl_b {m : MeT} (hv : Sp.fv m.1 = true) (hp : Sp.plc m = true) : 64 ≤ Sp.hsz m ∧ Sp.hsz m ≤ 512 ∧ Sp.hbs m 1 + Sp.hsz m ≤ m.1.1.length ∧ Sp.hbs m 0 + Sp.hsz m ≤ m.1.1.length ∧ m.1.1.length ≤ 4096 ∧ (Sp.hsz m : Int) = 32 * m.2.2.1 ∧ (Sp.hbs m 0 : Int) = 64 * m.2.1 ∧ (Sp.hbs m 1 : Int) = 64 * m.2.1 + 32 * m.2.2.1 := by
 obtain ⟨p1, p2, p3, p4, p5⟩ := plc_iff.1 hp
 have v := fv_iff.1 hv
 unfold Sp.hbs Sp.hsz
 omega
theorem pl_k {m : MeT} (hv : Sp.fv m.1 = true) (hp : Sp.plc m = true) {k : Nat} (hk : k < 2) : Sp.hbs m k + Sp.hsz m ≤ m.1.1.length ∧ (Sp.hbs m k : Int) = 64 * m.2.1 + (k : Int) * (32 * m.2.2.1) := by
 have := pl_b hv hp
 match k, hk with
 | 0, _ => exact ⟨this.2.2.2.1, by rw [this.2.2.2.2.2.2.1]; simp⟩
 | 1, _ => exact ⟨this.2.2.1, by rw [this.2.2.2.2.2.2.2]; simp⟩
theorem msz_pv {m : MeT} (hv : Sp.fv m.1 = true) (hp : Sp.plc m = true) : p_129 m = true ∧ v_129 m = ((Sp.hsz m : Int), ()) := by
 obtain ⟨p1, p2, p3, p4, p5⟩ := plc_iff.1 hp
 have b := pl_b hv hp
 refine pv_129 m ?_
 unfold F_129
 rw [wi64 (n := 64 * m.2.2.1) (by omega) (by omega), Int.tdiv_eq_ediv_of_nonneg (by omega), wi64 (by omega) (by omega), b.2.2.2.2.2.1]
 congr 2
 omega
theorem adr_pv {m : MeT} (hv : Sp.fv m.1 = true) (hp : Sp.plc m = true) {k : Nat} (hk : k < 2) {i : Int} (h0 : 0 ≤ i) (h1 : i ≤ 1000000) : p_96 m k i = true ∧ v_96 m k i = ((Sp.hbs m k : Int) + i, ()) := by
 obtain ⟨p1, p2, p3, p4, p5⟩ := plc_iff.1 hp
 have v := fv_iff.1 hv
 have b := pl_b hv hp
 have bk := pl_k hv hp hk
 refine pv_96 m k i ?_
 unfold F_96
 have e : Int.tdiv (wrap .i64 ((k : Int) * m.2.2.1)) 2 = (k : Int) * (m.2.2.1 / 2) := by
   match k, hk with
   | 0, _ => simp; rfl
   | 1, _ => rw [show ((1 : Nat) : Int) = 1 from rfl, Int.one_mul, wi64 (by omega) (by omega), Int.tdiv_eq_ediv_of_nonneg (by omega), Int.one_mul]
 have e2 : 0 ≤ (k : Int) * (m.2.2.1 / 2) ∧ (k : Int) * (m.2.2.1 / 2) ≤ 8 ∧ 64 * ((k : Int) * (m.2.2.1 / 2)) = (k : Int) * (32 * m.2.2.1) := by
   match k, hk with
   | 0, _ => simp
   | 1, _ => simp; omega
 rw [e, wi64 (n := (k : Int) * (m.2.2.1 / 2)) (by omega) (by omega), wi64 (n := m.2.1 + (k : Int) * (m.2.2.1 / 2)) (by omega) (by omega), wi64 (n := 64 * (m.2.1 + (k : Int) * (m.2.2.1 / 2))) (by omega) (by omega), bk.2, wi64 (by omega) (by omega)]
 congr 2
 omega
theorem wrd_pv {m : MeT} (hv : Sp.fv m.1 = true) (hp : Sp.plc m = true) {k : Nat} (hk : k < 2) : p_110 m k = true ∧ v_110 m k = (Sp.hwr m k, ()) := by
 have b := pl_b hv hp
 have bk := pl_k hv hp hk
 have s := msz_pv hv hp
 have a := adr_pv hv hp hk (i := 0) (by omega) (by omega)
 have a2 := adr_pv hv hp hk (i := (Sp.hsz m : Int)) (by omega) (by omega)
 refine pv_110 m k ?_
 unfold F_110
 rw [a.1, a.2, gd_tt, s.1, s.2, gd_tt]
 dsimp only
 rw [a2.1, a2.2, gd_tt]
 dsimp only
 rw [gd_sl3 (by omega) (by omega) (by omega)]
 unfold Sp.hwr
 rw [show ((Sp.hbs m k : Int) + (Sp.hsz m : Int)).toNat - ((Sp.hbs m k : Int) + 0).toNat = Sp.hsz m by omega, show ((Sp.hbs m k : Int) + 0).toNat = Sp.hbs m k by omega]
theorem hwr_len {m : MeT} (hv : Sp.fv m.1 = true) (hp : Sp.plc m = true) {k : Nat} (hk : k < 2) : (Sp.hwr m k).length = Sp.hsz m := by
 have bk := pl_k hv hp hk
 unfold Sp.hwr
 rw [List.length_take, List.length_drop]
 omega
abbrev W32l (l : List Int) : Prop := ∀ x ∈ l, 0 ≤ x ∧ x < 4294967296
theorem W32l.at {l : List Int} (h : W32l l) (k : Nat) : 0 ≤ l.getD k 0 ∧ l.getD k 0 < 4294967296 := by
 rw [List.getD_eq_getElem?_getD]
 cases e : l[k]? with
 | none => decide
 | some x => exact h x (List.mem_of_getElem? e)
theorem W32l.td {l : List Int} (h : W32l l) (a b : Nat) : W32l (take a (drop b l)) := fun x hx => h x (List.mem_of_mem_drop (List.mem_of_mem_take hx))
theorem W32f.half {m : MeT} (h : W32f m.1) (k : Nat) : W32l (Sp.hwr m k) := W32l.td (l := m.1.1) h _ _
theorem gnr_pv {m : MeT} (hw : W32f m.1) (hv : Sp.fv m.1 = true) (hp : Sp.plc m = true) {k : Nat} (hk : k < 2) : p_109 m k = true ∧ v_109 m k = (Sp.gnr m k, ()) := by
 have w := wrd_pv hv hp hk
 have l := hwr_len hv hp hk
 have b := pl_b hv hp
 have h0 := (hw.half k).at 0
 have n := num_pv h0.1 h0.2
 refine pv_109 m k ?_
 unfold F_109 Sp.gnr
 rw [w.1, w.2, gd_tt]
 dsimp only
 rw [gd_inB (by omega) (by omega), n.1, n.2, gd_tt]
 dsimp only
 cases (Sp.nmb ((Sp.hwr m k).getD 0 0)).2 <;> rfl
theorem gnr_b {m : MeT} (hw : W32f m.1) (k : Nat) : 0 ≤ Sp.gnr m k ∧ Sp.gnr m k < 65536 := by
 have h0 := (hw.half k).at 0
 have := nmb_b h0.1 h0.2
 unfold Sp.gnr
 cases (Sp.nmb ((Sp.hwr m k).getD 0 0)).2
 · exact ⟨Int.le_refl 0, (by decide : (0 : Int) < 65536)⟩
 · exact this
theorem acv_pv {m : MeT} (hw : W32f m.1) (hv : Sp.fv m.1 = true) (hp : Sp.plc m = true) : p_69 m = true ∧ v_69 m = ((Sp.acv m : Int), Sp.acb m, ()) := by
 have g0 := gnr_pv hw hv hp (k := 0) (by decide)
 have g1 := gnr_pv hw hv hp (k := 1) (by decide)
 refine pv_69 m ?_
 unfold F_69 Sp.acv Sp.acb
 rw [show (0 : Int) = ((0 : Nat) : Int) from rfl, show (1 : Int) = ((1 : Nat) : Int) from rfl, g0.1, g0.2, gd_tt, g1.1, g1.2, gd_tt]
 dsimp only
 cases decide (Sp.gnr m 1 > Sp.gnr m 0) <;> rfl
theorem acv_lt (m : MeT) : Sp.acv m < 2 := by
 unfold Sp.acv
 cases decide (Sp.gnr m 1 > Sp.gnr m 0) <;> decide
theorem mvl_pv {m : MeT} (hw : W32f m.1) : p_38 m = true ∧ v_38 m = (Sp.mvl m, ()) := by
 have v := fv_pv m.1
 refine pv_38 m ?_
 unfold F_38 Sp.mvl
 rw [v.1, v.2, gd_tt]
 dsimp only
 cases hv : Sp.fv m.1
 · rfl
 have hl := fv_iff.1 hv
 have p := plc_pv m (by omega)
 rw [Bool.not_true, cond_f, p.1, p.2, gd_tt]
 dsimp only
 cases hp : Sp.plc m
 · rfl
 have a := acv_pv hw hv hp
 rw [Bool.not_true, cond_f, a.1, a.2, gd_tt]
 rfl
theorem mvl_d {m : MeT} (h : Sp.mvl m = true) : Sp.fv m.1 = true ∧ Sp.plc m = true ∧ Sp.acb m = true := by
 unfold Sp.mvl at h
 simpa only [Bool.and_eq_true] using h
theorem andU_mod {w : Int} (h0 : 0 ≤ w) (h1 : w < 4294967296) : Sp.andI .u32 w 65535 = w % 65536 := by
 obtain ⟨k, rfl⟩ := Int.eq_ofNat_of_zero_le h0
 have e : Sp.andI .u32 (k : Int) ((65535 : Nat) : Int) = ((k &&& 65535 : Nat) : Int) := andU_nat (by omega) (by decide)
 rw [show (65535 : Int) = ((65535 : Nat) : Int) from rfl, e, show 65535 = 2 ^ 16 - 1 from rfl, Nat.and_two_pow_sub_one_eq_mod, Int.natCast_emod]
 rfl
theorem sum_l {l : List Int} (hw : W32l l) (hl : l.length < 1000000) : ∀ (d m j : Nat) (s : Int), 0 ≤ s → s < 65536 → j + d = l.length → d < m → L_125_0 m s l l.length j = some (.e0 ((l.drop j).foldl Sp.stp s)) := by
 intro d
 induction d with
 | zero =>
   intro m j s _ _ hj hm
   obtain ⟨m, rfl⟩ : ∃ k, m = k + 1 := ⟨m - 1, by omega⟩
   rw [L_125_0, S_125_0, cond_dff (by omega), List.drop_of_length_le (by omega)]
   rfl
 | succ d ih =>
   intro m j s h0 h1 hj hm
   obtain ⟨m, rfl⟩ : ∃ k, m = k + 1 := ⟨m - 1, by omega⟩
   have hx := hw.at j
   have e : Int.fdiv (l.getD j 0) 65536 = l.getD j 0 / 65536 := Int.fdiv_eq_ediv_of_nonneg _ (by decide)
   have e3 : l.drop j = l.getD j 0 :: l.drop (j + 1) := by
     have hj' : j < l.length := by omega
     rw [List.drop_eq_getElem_cons hj', List.getD_eq_getElem?_getD, List.getElem?_eq_getElem hj']; rfl
   have r := ih m (j + 1) (Sp.stp s (l.getD j 0)) (by unfold Sp.stp; omega) (by unfold Sp.stp; omega) (by omega) (by omega)
   rw [L_125_0, S_125_0, cond_dtt (by omega), gd_inB (by omega) (by omega), Int.toNat_natCast, e, andU_mod hx.1 hx.2, e3, List.foldl_cons]
   generalize l.getD j 0 = x at *
   rw [wi64 (n := 31 * s) (by omega) (by omega), wi64 (n := x / 65536) (by omega) (by omega), wi64 (n := 31 * s + x / 65536) (by omega) (by omega), wi64 (n := x % 65536) (by omega) (by omega), wi64 (n := 7 * (x % 65536)) (by omega) (by omega), wi64 (n := 31 * s + x / 65536 + 7 * (x % 65536)) (by omega) (by omega), Int.tmod_eq_emod_of_nonneg (by omega), wi64 (by omega) (by omega), show (j : Int) + 1 = ((j + 1 : Nat) : Int) by push_cast; rfl]
   exact r
theorem sum_pv {l : List Int} (hw : W32l l) (hl : l.length < 1000000) : p_125 l = true ∧ v_125 l = (Sp.smw l, ()) := by
 refine pv_125 l ?_
 unfold F_125
 have := sum_l hw hl l.length 4611686018427387904 0 0 (by decide) (by decide) (by omega) (by omega)
 rw [List.drop_zero] at this
 exact (congrArg (fun z => B_125_0 z _) this).trans rfl
set_option maxRecDepth 100000
set_option maxHeartbeats 4000000
namespace Sp
noncomputable def dE : EnT := Ty.dflt (.pair (.int .i64) (.pair (.slice (.int .u32)) .unit))
/-- The first place, by halving, of a key that is not less. -/
noncomputable def bsl (es : List EnT) (key : Int) : Nat → Nat → Nat → Nat
 | 0, lo, _ => lo
 | f + 1, lo, hi => if lo < hi then (if (es.getD ((lo + hi) / 2) dE).1 < key then bsl es key f ((lo + hi) / 2 + 1) hi else bsl es key f lo ((lo + hi) / 2)) else lo
noncomputable def plE (es : List EnT) (key : Int) : Nat := bsl es key es.length 0 es.length
noncomputable def putE (es : List EnT) (key : Int) (data : List Int) : List EnT :=
 if plE es key < es.length ∧ (es.getD (plE es key) dE).1 = key then es.set (plE es key) (key, data, ()) else es.take (plE es key) ++ ([(key, data, ())] ++ es.drop (plE es key))
/-- The records of a half from a place on: where they end, and the entries. -/
noncomputable def rdl (l : List Int) : Nat → Nat → List EnT → Nat × List EnT
 | 0, i, es => (i, es)
 | f + 1, i, es => if i < l.length ∧ (nmb (l.getD i 0)).2 = true ∧ (nmb (l.getD i 0)).1 / 256 ≤ 254 ∧ (nmb (l.getD i 0)).1 % 256 ≤ 24 ∧ i + ((nmb (l.getD i 0)).1 % 256).toNat + 2 ≤ l.length then
     rdl l f (i + ((nmb (l.getD i 0)).1 % 256).toNat + 2)
       (if (nmb (l.getD (i + ((nmb (l.getD i 0)).1 % 256).toNat + 1) 0)).2 = true ∧ (nmb (l.getD (i + ((nmb (l.getD i 0)).1 % 256).toNat + 1) 0)).1 = smw (take (((nmb (l.getD i 0)).1 % 256).toNat + 1) (drop i l)) then putE es ((nmb (l.getD i 0)).1 / 256) (take ((nmb (l.getD i 0)).1 % 256).toNat (drop (i + 1) l)) else es)
   else (i, es)
noncomputable def blk (l : List Int) (e : Nat) : Bool := (drop e l).all (fun w => w == 4294967295)
noncomputable def rdv (l : List Int) : List EnT × Int × Int × Unit := ((rdl l l.length 1 []).2, ((rdl l l.length 1 []).1 : Int), (if blk l (rdl l l.length 1 []).1 = true then (l.length : Int) - ((rdl l l.length 1 []).1 : Int) else 0), ())
end Sp
/-- Keys within their range, and data that are words. -/
noncomputable def KOK (es : List EnT) : Prop := ∀ e ∈ es, (0 ≤ e.1 ∧ e.1 ≤ 254) ∧ e.2.1.length ≤ 24 ∧ W32l e.2.1
theorem KOK.at {es : List EnT} (h : KOK es) (j : Nat) : 0 ≤ (es.getD j Sp.dE).1 ∧ (es.getD j Sp.dE).1 ≤ 254 := by
 rw [List.getD_eq_getElem?_getD]
 cases e : es[j]? with
 | none =>
  exact ⟨Int.le_refl 0, (by decide : (0 : Int) ≤ 254)⟩
 | some x => exact (h x (List.mem_of_getElem? e)).1
theorem bsl_le (es : List EnT) (key : Int) : ∀ (f lo hi : Nat), lo ≤ hi → lo ≤ Sp.bsl es key f lo hi ∧ Sp.bsl es key f lo hi ≤ hi
 | 0, lo, hi, h => ⟨Nat.le_refl _, h⟩
 | f + 1, lo, hi, h => by
   rw [Sp.bsl]
   split
   · split
     · have := bsl_le es key f ((lo + hi) / 2 + 1) hi (by omega)
       omega
     · have := bsl_le es key f lo ((lo + hi) / 2) (by omega)
       omega
   · omega
theorem plE_le (es : List EnT) (key : Int) : Sp.plE es key ≤ es.length := (bsl_le es key es.length 0 es.length (Nat.zero_le _)).2
theorem putE_len (es : List EnT) (key : Int) (data : List Int) : (Sp.putE es key data).length ≤ es.length + 1 := by
 have := plE_le es key
 unfold Sp.putE
 split
 · rw [List.length_set]; omega
 · rw [List.length_append, List.length_append, List.length_take, List.length_drop, List.length_singleton]; omega
theorem KOK.put {es : List EnT} (h : KOK es) {key : Int} (h0 : 0 ≤ key) (h1 : key ≤ 254) {data : List Int} (hd : data.length ≤ 24) (hw : W32l data) : KOK (Sp.putE es key data) := by
 have hn : (0 ≤ key ∧ key ≤ 254) ∧ data.length ≤ 24 ∧ W32l data := ⟨⟨h0, h1⟩, hd, hw⟩
 intro e he
 unfold Sp.putE at he
 split at he
 · rcases List.mem_or_eq_of_mem_set he with h2 | rfl
   · exact h e h2
   · exact hn
 · rcases List.mem_append.1 he with h2 | h2
   · exact h e (List.mem_of_mem_take h2)
   · rcases List.mem_append.1 h2 with h3 | h3
     · rw [List.mem_singleton.1 h3]; exact hn
     · exact h e (List.mem_of_mem_drop h3)
theorem bs2 {es : List EnT} (hk : KOK es) {key : Int} (h0 : 0 ≤ key) (h1 : key ≤ 254) (hl : es.length ≤ 1000000) (n : Int) (p4 : MeT) (p5 p6 : PwT) (p7 : List Int) (p8 p10 : EnT) : ∀ (f m lo hi : Nat), hi - lo ≤ f → lo ≤ hi → hi ≤ es.length → f < m →
   L_70_131_0_2 m key n lo hi p4 p5 p6 p7 p8 es p10 = some (.e0 key n (Sp.bsl es key f lo hi) p4 p5 p6 p7 p8 es p10) := by
 intro f
 induction f with
 | zero =>
   intro m lo hi h2 h3 h4 hm
   obtain ⟨m, rfl⟩ : ∃ k, m = k + 1 := ⟨m - 1, by omega⟩
   rw [L_70_131_0_2, S_70_131_0_2, cond_dff (by omega), Sp.bsl]
 | succ f ih =>
   intro m lo hi h2 h3 h4 hm
   obtain ⟨m, rfl⟩ : ∃ k, m = k + 1 := ⟨m - 1, by omega⟩
   rw [Sp.bsl]
   by_cases c : lo < hi
   rotate_left
   · rw [L_70_131_0_2, S_70_131_0_2, cond_dff (by omega), if_neg c]
   have e : wrap .i64 (Int.fdiv (wrap .u64 (wrap .i64 ((lo : Int) + (hi : Int)))) 2) = (((lo + hi) / 2 : Nat) : Int) := by
     rw [wi64 (n := (lo : Int) + (hi : Int)) (by omega) (by omega), wu64 (by omega) (by omega), Int.fdiv_eq_ediv_of_nonneg _ (by decide), wi64 (by omega) (by omega)]
     omega
   have ka := hk.at ((lo + hi) / 2)
   have ka : 0 ≤ (es.getD ((lo + hi) / 2) Zd2).1 ∧ (es.getD ((lo + hi) / 2) Zd2).1 ≤ 254 := ka
   rw [L_70_131_0_2, S_70_131_0_2, cond_dtt (by omega), e, gd_inB (by omega) (by omega), Int.toNat_natCast, Bool.and_true, gd_dec (by omega), if_pos c, wi64 (n := (es.getD ((lo + hi) / 2) Zd2).1 - key) (by omega) (by omega)]
   by_cases c2 : (es.getD ((lo + hi) / 2) Sp.dE).1 < key
   · have c2' : (es.getD ((lo + hi) / 2) Zd2).1 < key := c2
     rw [cond_dtt (by omega), if_pos c2, wi64 (by omega) (by omega), show (((lo + hi) / 2 : Nat) : Int) + 1 = (((lo + hi) / 2 + 1 : Nat) : Int) by omega]
     exact ih m _ hi (by omega) (by omega) h4 (by omega)
   · have c2' : ¬ (es.getD ((lo + hi) / 2) Zd2).1 < key := c2
     rw [cond_dff (by omega), if_neg c2]
     exact ih m lo _ (by omega) (by omega) (by omega) (by omega)
theorem j2 {es : List EnT} (hk : KOK es) {key : Int} (h0 : 0 ≤ key) (h1 : key ≤ 254) (hl : es.length ≤ 1000) (i n : Nat) (hi : i ≤ 100000) (hn : n ≤ 100000) (p2 : MeT) (p3 p4 : PwT) (p5 : List Int) (data : List Int) (hd : data.length ≤ 100000) :
   J_70_142_1_2 i n p2 p3 p4 p5 (key, data, ()) es = some (if Sp.plE es key < es.length ∧ (es.getD (Sp.plE es key) Sp.dE).1 = key then .e0 i n (key, data, ()) (Sp.plE es key) p2 p3 (((i + n + 2 : Nat) : Int), p4.2) p5 (key, data, ()) es else .e1 i n (key, data, ()) (Sp.plE es key) p2 p3 (((i + n + 2 : Nat) : Int), p4.2) p5 (key, data, ()) es) := by
 have pl := plE_le es key
 have ka := hk.at (Sp.plE es key)
 have en : wrap .i64 ((i : Int) + wrap .i64 ((n : Int) + 2)) = ((i + n + 2 : Nat) : Int) := by
   rw [wi64 (n := (n : Int) + 2) (by omega) (by omega), wi64 (by omega) (by omega)]; omega
 have b := bs2 hk h0 h1 (by omega) (es.length : Int) p2 p3 (((i + n + 2 : Nat) : Int), p4.2) p5 (key, data, ()) (key, data, ()) es.length 4611686018427387904 0 es.length (by omega) (by omega) (by omega) (by omega)
 unfold J_70_142_1_2 S_70_142_1_2
 dsimp only
 rw [cond_dtt (by omega), en]
 refine (congrArg (fun z => B_70_131_0_2 z _) b).trans ?_
 unfold B_70_131_0_2
 dsimp only
 rw [show Sp.bsl es key es.length 0 es.length = Sp.plE es key from rfl]
 by_cases c : Sp.plE es key < es.length
 · rw [cond_dtt (by omega), gd_inB (by omega) (by omega), Int.toNat_natCast, Bool.and_true, gd_dec c, gd_room (by omega) (by omega), show (es.getD (Sp.plE es key) Zd2).1 = (es.getD (Sp.plE es key) Sp.dE).1 from rfl, wi64 (by omega) (by omega)]
   by_cases c2 : (es.getD (Sp.plE es key) Sp.dE).1 = key
   · rw [cond_ett (by omega), gd_inB (by omega) (by omega), Bool.and_true, gd_dec c, if_pos ⟨c, c2⟩]
   · rw [cond_eff (by omega), gd_and, gd_and, gd_dec (by omega), gd_dec (by omega), gd_room (by omega) (by omega), if_neg (fun a => c2 a.2)]
 · rw [cond_dff (by omega), gd_room (by omega) (by omega), gd_and, gd_and, gd_dec (by omega), gd_dec (by omega), gd_room (by omega) (by omega), if_neg (fun a => c a.1)]
theorem j0 {key : Int} (h0 : 0 ≤ key) (i n : Nat) (hi : i ≤ 100000) (hn : n ≤ 100000) (p2 : MeT) (p3 p4 : PwT) (p5 data : List Int) (hd : data.length ≤ 100000) :
   J_70_142_1_0 i n p2 p3 p4 p5 (key, data, ()) = some (.e0 i n (key, data, ()) p2 p3 (((i + n + 2 : Nat) : Int), p4.2) p5 (key, data, ())) := by
 have en : wrap .i64 ((i : Int) + wrap .i64 ((n : Int) + 2)) = ((i + n + 2 : Nat) : Int) := by
   rw [wi64 (n := (n : Int) + 2) (by omega) (by omega), wi64 (by omega) (by omega)]; omega
 have b : L_70_131_0_0 4611686018427387904 key 0 0 0 p2 p3 (((i + n + 2 : Nat) : Int), p4.2) p5 (key, data, ()) (key, data, ()) [] = some (.e0 key 0 0 p2 p3 (((i + n + 2 : Nat) : Int), p4.2) p5 (key, data, ()) (key, data, ()) []) := by
   show L_70_131_0_0 (4611686018427387903 + 1) key 0 0 0 p2 p3 (((i + n + 2 : Nat) : Int), p4.2) p5 (key, data, ()) (key, data, ()) [] = _
   rw [L_70_131_0_0, S_70_131_0_0, cond_dff (by decide)]
 unfold J_70_142_1_0 S_70_142_1_0
 dsimp only
 rw [cond_dtt (by omega), en]
 refine (congrArg (fun z => B_70_131_0_0 z _) b).trans ?_
 unfold B_70_131_0_0
 dsimp only
 rw [cond_dff (by decide), gd_room (by omega) (by omega)]
 rfl
set_option maxRecDepth 100000
set_option maxHeartbeats 4000000
theorem W32l.dr {l : List Int} (h : W32l l) (a b : Nat) : W32l (take a (drop b l)) := W32l.td h a b
/-- What is known of the word at i. -/
structure HD (l : List Int) (i n : Nat) (k : Int) (ok : Bool) : Prop where
 e : Sp.nmb (l.getD i 0) = (k * 256 + n, ok)
 n : n < 256
 k0 : 0 ≤ k
 k1 : k < 256
theorem hd_at {l : List Int} (hw : W32l l) (i : Nat) : ∃ n k ok, HD l i n k ok := by
 have h := hw.at i
 have b := nmb_b h.1 h.2
 refine ⟨((Sp.nmb (l.getD i 0)).1 % 256).toNat, (Sp.nmb (l.getD i 0)).1 / 256, (Sp.nmb (l.getD i 0)).2, ?_, by omega, by omega, by omega⟩
 refine Prod.ext ?_ rfl
 show (Sp.nmb (l.getD i 0)).1 = _
 omega
/-- One step of the closed form. -/
theorem rdl_s {l : List Int} {i n : Nat} {k : Int} {ok : Bool} (h : HD l i n k ok) (f : Nat) (es : List EnT) : Sp.rdl l (f + 1) i es = if i < l.length ∧ ok = true ∧ k ≤ 254 ∧ n ≤ 24 ∧ i + n + 2 ≤ l.length then
     Sp.rdl l f (i + n + 2) (if (Sp.nmb (l.getD (i + n + 1) 0)).2 = true ∧ (Sp.nmb (l.getD (i + n + 1) 0)).1 = Sp.smw (take (n + 1) (drop i l)) then Sp.putE es k (take n (drop (i + 1) l)) else es) else (i, es) := by
 have e1 : (k * 256 + (n : Int)) / 256 = k := by have := h.n; omega
 have e2 : (k * 256 + (n : Int)) % 256 = (n : Int) := by have := h.n; omega
 rw [Sp.rdl, h.e]
 dsimp only
 rw [e1, e2, Int.toNat_natCast]
 by_cases c : i < l.length ∧ ok = true ∧ k ≤ 254 ∧ n ≤ 24 ∧ i + n + 2 ≤ l.length
 · rw [if_pos c, if_pos ⟨c.1, c.2.1, c.2.2.1, by omega, c.2.2.2.2⟩]
 · rw [if_neg c, if_neg (fun a => c ⟨a.1, a.2.1, a.2.2.1, by omega, a.2.2.2.2⟩)]
theorem r1 {l : List Int} (hw : W32l l) (hl : l.length ≤ 600) (M : MeT) (z : PwT) (fr : Int × Unit) : ∀ (f m i : Nat) (es : List EnT), KOK es → es.length ≤ i → i ≤ l.length → l.length - i ≤ f → f < m →
   (L_70_142_0_1 m i M z ((i : Int), fr) l es = some (.e0 M z (((Sp.rdl l f i es).1 : Int), fr) l (Sp.rdl l f i es).2) ∨ L_70_142_0_1 m i M z ((i : Int), fr) l es = some (.e1 M z (((Sp.rdl l f i es).1 : Int), fr) l (Sp.rdl l f i es).2)) ∧ KOK (Sp.rdl l f i es).2 ∧ (Sp.rdl l f i es).2.length ≤ (Sp.rdl l f i es).1 ∧ i ≤ (Sp.rdl l f i es).1 ∧ (Sp.rdl l f i es).1 ≤ l.length := by
 intro f
 induction f with
 | zero =>
   intro m i es hk hn hi hf hm
   obtain ⟨m, rfl⟩ : ∃ k, m = k + 1 := ⟨m - 1, by omega⟩
   refine ⟨.inr ?_, hk, hn, Nat.le_refl _, hi⟩
   rw [L_70_142_0_1, S_70_142_0_1, cond_dff (by omega), Sp.rdl]
 | succ f ih =>
   intro m i es hk hn hi hf hm
   obtain ⟨m, rfl⟩ : ∃ k, m = k + 1 := ⟨m - 1, by omega⟩
   obtain ⟨n, k, ok, h⟩ := hd_at hw i
   have hn2 := h.n
   have hk0 := h.k0
   have hk1 := h.k1
   rw [rdl_s h]
   by_cases c1 : i < l.length
   rotate_left
   · rw [if_neg (fun a => c1 a.1)]
     refine ⟨.inr ?_, hk, hn, Nat.le_refl _, hi⟩
     rw [L_70_142_0_1, S_70_142_0_1, cond_dff (by omega)]
   have hx := hw.at i
   have nv := num_pv hx.1 hx.2
   rw [L_70_142_0_1, S_70_142_0_1, cond_dtt (by omega), gd_inB (by omega) (by omega), Int.toNat_natCast, nv.1, nv.2, gd_tt, h.e]
   dsimp only
   cases ok with
   | false =>
     rw [if_neg (fun a => Bool.noConfusion a.2.1), Bool.not_false, cond_t]
     exact ⟨.inl rfl, hk, hn, Nat.le_refl _, hi⟩
   | true =>
   have e1 : Int.tdiv (k * 256 + (n : Int)) 256 = k := by rw [Int.tdiv_eq_ediv_of_nonneg (by omega)]; omega
   have e2 : Int.tmod (k * 256 + (n : Int)) 256 = (n : Int) := by rw [Int.tmod_eq_emod_of_nonneg (by omega)]; omega
   rw [Bool.not_true, cond_f, e1, e2, wi64 (n := k) (by omega) (by omega)]
   by_cases c2 : k > 254
   · rw [cond_dtt c2, if_neg (fun a => by omega)]
     exact ⟨.inl rfl, hk, hn, Nat.le_refl _, hi⟩
   rw [cond_dff c2]
   by_cases c3 : (n : Int) > 24
   · rw [cond_dtt c3, if_neg (fun a => by omega)]
     exact ⟨.inl rfl, hk, hn, Nat.le_refl _, hi⟩
   rw [cond_dff c3, wi64 (n := (i : Int) + (n : Int)) (by omega) (by omega), wi64 (n := (i : Int) + (n : Int) + 2) (by omega) (by omega), wi64 (n := (i : Int) + (n : Int) + 1) (by omega) (by omega), wi64 (n := (i : Int) + 1) (by omega) (by omega)]
   by_cases c4 : (i : Int) + (n : Int) + 2 > (l.length : Int)
   · rw [cond_dtt c4, if_neg (fun a => by omega)]
     exact ⟨.inl rfl, hk, hn, Nat.le_refl _, hi⟩
   rw [cond_dff c4, if_pos (show i < l.length ∧ true = true ∧ k ≤ 254 ∧ n ≤ 24 ∧ i + n + 2 ≤ l.length from ⟨c1, rfl, by omega, by omega, by omega⟩), gd_inB (by omega) (by omega), show ((i : Int) + (n : Int) + 1).toNat = i + n + 1 by omega, show ((i : Int) + 1).toNat = i + 1 by omega]
   have hy := hw.at (i + n + 1)
   have ny := num_pv hy.1 hy.2
   have en : wrap .i64 ((i : Int) + wrap .i64 ((n : Int) + 2)) = ((i + n + 2 : Nat) : Int) := by
     rw [wi64 (n := (n : Int) + 2) (by omega) (by omega), wi64 (by omega) (by omega)]; omega
   have next : ∀ es', KOK es' → es'.length ≤ es.length + 1 → _ := fun es' g1 g2 => ih m (i + n + 2) es' g1 (by omega) (by omega) (by omega) (by omega)
   have j3 : J_70_142_1_3 i n M z ((i : Int), fr) l (-1) [] es = some (.e2 i n M z ((i : Int), fr) l (-1) [] es) := by
     unfold J_70_142_1_3 S_70_142_1_3
     rw [cond_dff (by decide)]
   rw [ny.1, ny.2, gd_tt]
   dsimp only
   cases hb : (Sp.nmb (l.getD (i + n + 1) 0)).2 with
   | false =>
     rw [cond_f, if_neg (fun a => Bool.noConfusion a.1), j3]
     unfold B_70_142_1_3
     dsimp only
     rw [en]
     have := next es hk (by omega)
     exact ⟨this.1, this.2.1, this.2.2.1, by omega, this.2.2.2.2⟩
   | true =>
   have s := sum_pv (W32l.td hw (n + 1) i) (by rw [List.length_take]; omega)
   rw [cond_t, gd_sl3 (by omega) (by omega) (by omega), show i + n + 1 - i = n + 1 by omega, s.1, s.2, gd_tt]
   dsimp only
   by_cases c5 : (Sp.nmb (l.getD (i + n + 1) 0)).1 = Sp.smw (take (n + 1) (drop i l))
   rotate_left
   · rw [cond_eff c5, if_neg (fun a => c5 a.2), j3]
     unfold B_70_142_1_3
     dsimp only
     rw [en]
     have := next es hk (by omega)
     exact ⟨this.1, this.2.1, this.2.2.1, by omega, this.2.2.2.2⟩
   rw [cond_ett c5, if_pos ⟨rfl, c5⟩, gd_sl3 (by omega) (by omega) (by omega), show i + n + 1 - (i + 1) = n by omega]
   have dl : (take n (drop (i + 1) l)).length ≤ 24 := by rw [List.length_take]; omega
   have := next (Sp.putE es k (take n (drop (i + 1) l))) (hk.put hk0 (by omega) dl (W32l.td hw n (i + 1))) (putE_len _ _ _)
   refine ⟨?_, this.2.1, this.2.2.1, by omega, this.2.2.2.2⟩
   rw [j2 hk hk0 (by omega) (by omega) i n (by omega) (by omega) M z ((i : Int), fr) l _ (by omega)]
   have this := this.1
   unfold Sp.putE at this
   by_cases c6 : Sp.plE es k < es.length ∧ (es.getD (Sp.plE es k) Sp.dE).1 = k
   · rw [if_pos c6] at this ⊢
     unfold B_70_142_1_2
     dsimp only
     rw [en, Int.toNat_natCast]
     unfold Sp.putE
     rw [if_pos c6]
     exact this
   · rw [if_neg c6] at this ⊢
     unfold B_70_142_1_2
     dsimp only
     rw [en, Int.toNat_natCast]
     unfold Sp.putE
     rw [if_neg c6]
     exact this
theorem putE_nil (k : Int) (d : List Int) : Sp.putE [] k d = [(k, d, ())] := by
 unfold Sp.putE
 rw [if_neg (fun a => Nat.not_lt_zero _ a.1)]
 rfl
theorem r0 {l : List Int} (hw : W32l l) (hl : l.length ≤ 600) (M : MeT) (z : PwT) (fr : Int × Unit) : ∀ (f m i : Nat), 1 ≤ i → i ≤ l.length → l.length - i ≤ f → f < m →
   ((L_70_142_0_0 m i M z ((i : Int), fr) l = some (.e0 M z (((Sp.rdl l f i []).1 : Int), fr) l) ∨ L_70_142_0_0 m i M z ((i : Int), fr) l = some (.e1 M z (((Sp.rdl l f i []).1 : Int), fr) l)) ∧ (Sp.rdl l f i []).2 = [] ∨
     (L_70_142_0_0 m i M z ((i : Int), fr) l = some (.e2 M z (((Sp.rdl l f i []).1 : Int), fr) l (Sp.rdl l f i []).2) ∨ L_70_142_0_0 m i M z ((i : Int), fr) l = some (.e3 M z (((Sp.rdl l f i []).1 : Int), fr) l (Sp.rdl l f i []).2))) ∧ KOK (Sp.rdl l f i []).2 ∧ (Sp.rdl l f i []).2.length ≤ (Sp.rdl l f i []).1 ∧ i ≤ (Sp.rdl l f i []).1 ∧ (Sp.rdl l f i []).1 ≤ l.length := by
 have kn : KOK [] := fun e he => by cases he
 intro f
 induction f with
 | zero =>
   intro m i h1 hi hf hm
   obtain ⟨m, rfl⟩ : ∃ k, m = k + 1 := ⟨m - 1, by omega⟩
   refine ⟨.inl ⟨.inr ?_, rfl⟩, kn, Nat.zero_le _, Nat.le_refl _, hi⟩
   rw [L_70_142_0_0, S_70_142_0_0, cond_dff (by omega), Sp.rdl]
 | succ f ih =>
   intro m i h1 hi hf hm
   obtain ⟨m, rfl⟩ : ∃ k, m = k + 1 := ⟨m - 1, by omega⟩
   obtain ⟨n, k, ok, h⟩ := hd_at hw i
   have hn2 := h.n
   have hk0 := h.k0
   have hk1 := h.k1
   rw [rdl_s h]
   by_cases c1 : i < l.length
   rotate_left
   · rw [if_neg (fun a => c1 a.1)]
     refine ⟨.inl ⟨.inr ?_, rfl⟩, kn, Nat.zero_le _, Nat.le_refl _, hi⟩
     rw [L_70_142_0_0, S_70_142_0_0, cond_dff (by omega)]
   have hx := hw.at i
   have nv := num_pv hx.1 hx.2
   rw [L_70_142_0_0, S_70_142_0_0, cond_dtt (by omega), gd_inB (by omega) (by omega), Int.toNat_natCast, nv.1, nv.2, gd_tt, h.e]
   dsimp only
   cases ok with
   | false =>
     rw [if_neg (fun a => Bool.noConfusion a.2.1), Bool.not_false, cond_t]
     exact ⟨.inl ⟨.inl rfl, rfl⟩, kn, Nat.zero_le _, Nat.le_refl _, hi⟩
   | true =>
   have e1 : Int.tdiv (k * 256 + (n : Int)) 256 = k := by rw [Int.tdiv_eq_ediv_of_nonneg (by omega)]; omega
   have e2 : Int.tmod (k * 256 + (n : Int)) 256 = (n : Int) := by rw [Int.tmod_eq_emod_of_nonneg (by omega)]; omega
   rw [Bool.not_true, cond_f, e1, e2, wi64 (n := k) (by omega) (by omega)]
   by_cases c2 : k > 254
   · rw [cond_dtt c2, if_neg (fun a => by omega)]
     exact ⟨.inl ⟨.inl rfl, rfl⟩, kn, Nat.zero_le _, Nat.le_refl _, hi⟩
   rw [cond_dff c2]
   by_cases c3 : (n : Int) > 24
   · rw [cond_dtt c3, if_neg (fun a => by omega)]
     exact ⟨.inl ⟨.inl rfl, rfl⟩, kn, Nat.zero_le _, Nat.le_refl _, hi⟩
   rw [cond_dff c3, wi64 (n := (i : Int) + (n : Int)) (by omega) (by omega), wi64 (n := (i : Int) + (n : Int) + 2) (by omega) (by omega), wi64 (n := (i : Int) + (n : Int) + 1) (by omega) (by omega), wi64 (n := (i : Int) + 1) (by omega) (by omega)]
   by_cases c4 : (i : Int) + (n : Int) + 2 > (l.length : Int)
   · rw [cond_dtt c4, if_neg (fun a => by omega)]
     exact ⟨.inl ⟨.inl rfl, rfl⟩, kn, Nat.zero_le _, Nat.le_refl _, hi⟩
   rw [cond_dff c4, if_pos (show i < l.length ∧ true = true ∧ k ≤ 254 ∧ n ≤ 24 ∧ i + n + 2 ≤ l.length from ⟨c1, rfl, by omega, by omega, by omega⟩), gd_inB (by omega) (by omega), show ((i : Int) + (n : Int) + 1).toNat = i + n + 1 by omega, show ((i : Int) + 1).toNat = i + 1 by omega]
   have hy := hw.at (i + n + 1)
   have ny := num_pv hy.1 hy.2
   have en : wrap .i64 ((i : Int) + wrap .i64 ((n : Int) + 2)) = ((i + n + 2 : Nat) : Int) := by
     rw [wi64 (n := (n : Int) + 2) (by omega) (by omega), wi64 (by omega) (by omega)]; omega
   have next := ih m (i + n + 2) (by omega) (by omega) (by omega) (by omega)
   have j1 : J_70_142_1_1 i n M z ((i : Int), fr) l (-1) [] = some (.e1 i n M z ((i : Int), fr) l (-1) []) := by
     unfold J_70_142_1_1 S_70_142_1_1
     rw [cond_dff (by decide)]
   rw [ny.1, ny.2, gd_tt]
   dsimp only
   cases hb : (Sp.nmb (l.getD (i + n + 1) 0)).2 with
   | false =>
     rw [cond_f, if_neg (fun a => Bool.noConfusion a.1), j1]
     unfold B_70_142_1_1
     dsimp only
     rw [en]
     exact ⟨next.1, next.2.1, next.2.2.1, by omega, next.2.2.2.2⟩
   | true =>
   have s := sum_pv (W32l.td hw (n + 1) i) (by rw [List.length_take]; omega)
   rw [cond_t, gd_sl3 (by omega) (by omega) (by omega), show i + n + 1 - i = n + 1 by omega, s.1, s.2, gd_tt]
   dsimp only
   by_cases c5 : (Sp.nmb (l.getD (i + n + 1) 0)).1 = Sp.smw (take (n + 1) (drop i l))
   rotate_left
   · rw [cond_eff c5, if_neg (fun a => c5 a.2), j1]
     unfold B_70_142_1_1
     dsimp only
     rw [en]
     exact ⟨next.1, next.2.1, next.2.2.1, by omega, next.2.2.2.2⟩
   rw [cond_ett c5, if_pos ⟨rfl, c5⟩, gd_sl3 (by omega) (by omega) (by omega), show i + n + 1 - (i + 1) = n by omega, putE_nil]
   have dl : (take n (drop (i + 1) l)).length ≤ 24 := by rw [List.length_take]; omega
   have k1 : KOK [(k, take n (drop (i + 1) l), ())] := by
     rw [← putE_nil]
     exact kn.put hk0 (by omega) dl (W32l.td hw n (i + 1))
   have r := r1 hw hl M z fr f m (i + n + 2) [(k, take n (drop (i + 1) l), ())] k1 (by simp only [List.length_singleton]; omega) (by omega) (by omega) (by omega)
   refine ⟨.inr ?_, r.2.1, r.2.2.1, by omega, r.2.2.2.2⟩
   rw [j0 hk0 i n (by omega) (by omega) M z ((i : Int), fr) l _ (by omega)]
   unfold B_70_142_1_0
   dsimp only
   rw [en]
   rcases r.1 with r | r
   · exact .inl ((congrArg (fun z => B_70_142_0_1 z _ _) r).trans rfl)
   · exact .inr ((congrArg (fun z => B_70_142_0_1 z _ _) r).trans rfl)
theorem blk_iff (l : List Int) (e : Nat) : (fnd (fun j => (drop e l).getD j 0 != 4294967295) (drop e l).length 0 = none) ↔ Sp.blk l e = true := by
 rw [fnd_none]
 unfold Sp.blk
 rw [List.all_eq_true]
 constructor
 · intro h x hx
   obtain ⟨i, hi, e2⟩ := List.mem_iff_getElem.1 hx
   have := h i (by omega) (by omega)
   rw [getD_at 0 hi, e2] at this
   simpa using this
 · intro h i _ hi
   rw [getD_at 0 (by omega)]
   have := h _ (List.getElem_mem (show i < (drop e l).length by omega))
   simpa using this
theorem c1_l (l : List Int) (e : Nat) (hl : l.length ≤ 1000) (M : MeT) (z st : PwT) (es : List EnT) : (Sp.blk l e = true → L_70_143_0_1 4611686018427387904 (drop e l) (drop e l).length 0 M z st l es = some (.e1 M z st l es)) ∧ (Sp.blk l e = false → ∃ k : Nat, L_70_143_0_1 4611686018427387904 (drop e l) (drop e l).length 0 M z st l es = some (.e0 k M z st l es)) := by
 have hd : (drop e l).length ≤ 1000 := by rw [List.length_drop]; omega
 have hf := find0 (fun m i => L_70_143_0_1 m (drop e l) (drop e l).length i M z st l es) (n := (drop e l).length) (fun j => (drop e l).getD j 0 != 4294967295) (ex := fun j => some (.e0 (j : Int) M z st l es)) (e1 := some (.e1 M z st l es)) (by omega) (fun m j hj => by
   show L_70_143_0_1 (m + 1) (drop e l) (drop e l).length (j : Int) M z st l es = bif (drop e l).getD j 0 != 4294967295 then some (.e0 (j : Int) M z st l es) else L_70_143_0_1 m (drop e l) (drop e l).length ((j + 1 : Nat) : Int) M z st l es
   rw [L_70_143_0_1, S_70_143_0_1, cond_dtt (by omega), gd_inB (by omega) (by omega), Int.toNat_natCast, wi64 (by omega) (by omega)]
   push_cast
   rfl) (fun m => by
   show L_70_143_0_1 (m + 1) (drop e l) (drop e l).length ((drop e l).length : Int) M z st l es = _
   rw [L_70_143_0_1, S_70_143_0_1, cond_dff (by omega)])
 constructor
 · intro hb
   rw [(blk_iff l e).2 hb] at hf
   exact hf
 · intro hb
   cases hq : fnd (fun j => (drop e l).getD j 0 != 4294967295) (drop e l).length 0 with
   | none => rw [(blk_iff l e).1 hq] at hb; cases hb
   | some k =>
     rw [hq] at hf
     exact ⟨k, hf⟩
theorem c0_l (l : List Int) (e : Nat) (hl : l.length ≤ 1000) (M : MeT) (z st : PwT) : (Sp.blk l e = true → L_70_143_0_0 4611686018427387904 (drop e l) (drop e l).length 0 M z st l = some (.e1 M z st l)) ∧ (Sp.blk l e = false → ∃ k : Nat, L_70_143_0_0 4611686018427387904 (drop e l) (drop e l).length 0 M z st l = some (.e0 k M z st l)) := by
 have hd : (drop e l).length ≤ 1000 := by rw [List.length_drop]; omega
 have hf := find0 (fun m i => L_70_143_0_0 m (drop e l) (drop e l).length i M z st l) (n := (drop e l).length) (fun j => (drop e l).getD j 0 != 4294967295) (ex := fun j => some (.e0 (j : Int) M z st l)) (e1 := some (.e1 M z st l)) (by omega) (fun m j hj => by
   show L_70_143_0_0 (m + 1) (drop e l) (drop e l).length (j : Int) M z st l = bif (drop e l).getD j 0 != 4294967295 then some (.e0 (j : Int) M z st l) else L_70_143_0_0 m (drop e l) (drop e l).length ((j + 1 : Nat) : Int) M z st l
   rw [L_70_143_0_0, S_70_143_0_0, cond_dtt (by omega), gd_inB (by omega) (by omega), Int.toNat_natCast, wi64 (by omega) (by omega)]
   push_cast
   rfl) (fun m => by
   show L_70_143_0_0 (m + 1) (drop e l) (drop e l).length ((drop e l).length : Int) M z st l = _
   rw [L_70_143_0_0, S_70_143_0_0, cond_dff (by omega)])
 constructor
 · intro hb
   rw [(blk_iff l e).2 hb] at hf
   exact hf
 · intro hb
   cases hq : fnd (fun j => (drop e l).getD j 0 != 4294967295) (drop e l).length 0 with
   | none => rw [(blk_iff l e).1 hq] at hb; cases hb
   | some k =>
     rw [hq] at hf
     exact ⟨k, hf⟩
/-- What is known of what read answers. -/
theorem rdv_b {l : List Int} (hw : W32l l) (hl : l.length ≤ 600) (h1 : 1 ≤ l.length) : KOK (Sp.rdv l).1 ∧ (Sp.rdv l).1.length ≤ l.length ∧ 1 ≤ (Sp.rdv l).2.1 ∧ (Sp.rdv l).2.1 ≤ l.length := by
 have r := r0 hw hl (([], [], 0, ()), 0, 0, ()) (0, 0, ()) (0, ()) l.length 4611686018427387904 1 (Nat.le_refl _) h1 (by omega) (by omega)
 unfold Sp.rdv
 dsimp only
 refine ⟨r.2.1, by omega, by omega, by omega⟩
theorem read_pv {m : MeT} (hw : W32f m.1) (hv : Sp.fv m.1 = true) (hp : Sp.plc m = true) {k : Nat} (hk : k < 2) : p_70 m k = true ∧ v_70 m k = (Sp.rdv (Sp.hwr m k), ()) := by
 have w := wrd_pv hv hp hk
 have ll := hwr_len hv hp hk
 have b := pl_b hv hp
 have hW := hw.half k
 refine pv_70 m k ?_
 unfold F_70
 rw [w.1, w.2, gd_tt]
 dsimp only
 generalize Sp.hwr m k = l at *
 have r := r0 hW (by omega) m (0, 0, ()) (0, ()) l.length 4611686018427387904 1 (Nat.le_refl _) (by omega) (by omega) (by omega)
 obtain ⟨r, _, _, h3, h4⟩ := r
 unfold Sp.rdv
 generalize Sp.rdl l l.length 1 [] = R at *
 obtain ⟨e, es⟩ := R
 dsimp only at *
 have nil : es = [] → gd (sl3 (e : Int) (l.length : Int) (l.length : Int)) (B_70_143_0_0 (L_70_143_0_0 4611686018427387904 (drop (toNat (e : Int)) l) (drop (toNat (e : Int)) l).length 0 m (0, 0, ()) ((e : Int), 0, ()) l) (fun y62 y63 y64 y65 y66 => bif !decide (y62 ≥ 0) then some (([], y65.1, wrap .i64 ((l.length : Int) - y65.1), y65.2.2), ()) else some (([], y65), ())) (fun y67 y68 y69 y70 => some (([], y69.1, wrap .i64 ((l.length : Int) - y69.1), y69.2.2), ()))) = some ((es, (e : Int), (if Sp.blk l e = true then (l.length : Int) - (e : Int) else 0), ()), ()) := by
   rintro rfl
   have c := c0_l l e (by omega) m (0, 0, ()) ((e : Int), 0, ())
   rw [gd_sl3 (by omega) (by omega) (by omega), Int.toNat_natCast]
   cases hb : Sp.blk l e with
   | true =>
     rw [c.1 hb, if_pos rfl]
     unfold B_70_143_0_0
     dsimp only
     rw [wi64 (by omega) (by omega)]
   | false =>
     obtain ⟨q, hq⟩ := c.2 hb
     rw [hq, if_neg Bool.false_ne_true]
     unfold B_70_143_0_0
     dsimp only
     rw [decide_eq_true (by omega), Bool.not_true, cond_f]
 have full : gd (sl3 (e : Int) (l.length : Int) (l.length : Int)) (B_70_143_0_1 (L_70_143_0_1 4611686018427387904 (drop (toNat (e : Int)) l) (drop (toNat (e : Int)) l).length 0 m (0, 0, ()) ((e : Int), 0, ()) l es) (fun y89 y90 y91 y92 y93 y94 => bif !decide (y89 ≥ 0) then some ((y94, y92.1, wrap .i64 ((l.length : Int) - y92.1), y92.2.2), ()) else some ((y94, y92), ())) (fun y95 y96 y97 y98 y99 => some ((y99, y97.1, wrap .i64 ((l.length : Int) - y97.1), y97.2.2), ()))) = some ((es, (e : Int), (if Sp.blk l e = true then (l.length : Int) - (e : Int) else 0), ()), ()) := by
   have c := c1_l l e (by omega) m (0, 0, ()) ((e : Int), 0, ()) es
   rw [gd_sl3 (by omega) (by omega) (by omega), Int.toNat_natCast]
   cases hb : Sp.blk l e with
   | true =>
     rw [c.1 hb, if_pos rfl]
     unfold B_70_143_0_1
     dsimp only
     rw [wi64 (by omega) (by omega)]
   | false =>
     obtain ⟨q, hq⟩ := c.2 hb
     rw [hq, if_neg Bool.false_ne_true]
     unfold B_70_143_0_1
     dsimp only
     rw [decide_eq_true (by omega), Bool.not_true, cond_f]
 rcases r with ⟨r | r, e0⟩ | r | r
 · exact (congrArg (fun z => B_70_142_0_0 z _ _ _ _) r).trans (nil e0)
 · exact (congrArg (fun z => B_70_142_0_0 z _ _ _ _) r).trans (nil e0)
 · exact (congrArg (fun z => B_70_142_0_0 z _ _ _ _) r).trans full
 · exact (congrArg (fun z => B_70_142_0_0 z _ _ _ _) r).trans full
namespace Sp
noncomputable def zM : MeT := (([], [], 0, ()), 0, 0, ())
noncomputable def ent (m : MeT) : List EnT := (rdv (hwr m (acv m))).1
noncomputable def entv (m : MeT) : List EnT × Int × Unit := if mvl m = true then (ent m, 0, ()) else ([], 1, ())
noncomputable def fky (es : List EnT) (key : Int) : Option Nat := fnd (fun j => (es.getD j dE).1 == key) es.length 0
noncomputable def rdk (m : MeT) (key : Int) : List Int × Int × Unit := if mvl m = true then (if key < 0 ∨ key > 254 then ([], 2, ()) else (match fky (ent m) key with | some j => (((ent m).getD j dE).2.1, 0, ()) | none => ([], 7, ()))) else ([], 1, ())
noncomputable def opn (f : FlT) (a n : Int) : MeT × Int × Unit := if fv f = true then (if plc (f, a, n, ()) = true then (if acb (f, a, n, ()) = true then ((f, a, n, ()), 0, ()) else (zM, 7, ())) else (zM, 2, ())) else (zM, 1, ())
end Sp
theorem half_1 {m : MeT} (hv : Sp.fv m.1 = true) (hp : Sp.plc m = true) : (Sp.hwr m (Sp.acv m)).length ≤ 600 ∧ 1 ≤ (Sp.hwr m (Sp.acv m)).length := by
 have l := hwr_len hv hp (acv_lt m)
 have b := pl_b hv hp
 omega
theorem ent_b {m : MeT} (hw : W32f m.1) (h : Sp.mvl m = true) : KOK (Sp.ent m) ∧ (Sp.ent m).length ≤ 600 := by
 obtain ⟨hv, hp, _⟩ := mvl_d h
 have l := half_1 hv hp
 have r := rdv_b (hw.half (Sp.acv m)) l.1 l.2
 exact ⟨r.1, by have := r.2.1; unfold Sp.ent; omega⟩
theorem ent_pv {m : MeT} (hw : W32f m.1) : p_28 m = true ∧ v_28 m = Sp.entv m := by
 have v := mvl_pv hw
 refine pv_28 m ?_
 unfold F_28 Sp.entv
 rw [v.1, v.2, gd_tt]
 dsimp only
 cases hm : Sp.mvl m
 · rfl
 obtain ⟨hv, hp, _⟩ := mvl_d hm
 have a := acv_pv hw hv hp
 rw [Bool.not_true, cond_f, if_pos rfl, a.1, a.2, gd_tt]
 dsimp only
 have r := read_pv hw hv hp (acv_lt m)
 rw [r.1, r.2, gd_tt]
 rfl
theorem rdk_pv {m : MeT} (hw : W32f m.1) (key : Int) : p_41 m key = true ∧ v_41 m key = Sp.rdk m key := by
 have e := ent_pv hw
 refine pv_41 m key ?_
 unfold F_41 Sp.rdk
 rw [e.1, e.2, gd_tt]
 unfold Sp.entv
 by_cases hm : Sp.mvl m = true
 rotate_left
 · rw [if_neg hm, if_neg hm]; rfl
 rw [if_pos hm, if_pos hm, cond_nff rfl]
 by_cases h0 : key < 0
 · rw [cond_dtt h0, if_pos (.inl h0)]
 rw [cond_dff h0]
 by_cases h1 : key > 254
 · rw [cond_dtt h1, if_pos (.inr h1)]
 rw [cond_dff h1, if_neg (fun a => a.elim h0 h1)]
 have b := ent_b hw hm
 dsimp only
 generalize Sp.ent m = es at *
 have hf := find0 (fun m i => L_41_0 m key es es.length i) (n := es.length) (fun j => (es.getD j Sp.dE).1 == key) (ex := fun j => some (.e0 es (j : Int))) (e1 := some .e1) (by omega) (fun m j hj => by
   show L_41_0 (m + 1) key es es.length (j : Int) = bif (es.getD j Sp.dE).1 == key then some (.e0 es (j : Int)) else L_41_0 m key es es.length ((j + 1 : Nat) : Int)
   rw [L_41_0, S_41_0, cond_dtt (by omega), gd_inB (by omega) (by omega), Int.toNat_natCast, wi64 (by omega) (by omega)]
   push_cast
   rfl) (fun m => by
   show L_41_0 (m + 1) key es es.length (es.length : Int) = _
   rw [L_41_0, S_41_0, cond_dff (by omega)])
 rw [show fnd (fun j => (es.getD j Sp.dE).1 == key) es.length 0 = Sp.fky es key from rfl] at hf
 refine (congrArg (fun z => B_41_0 z _ _) hf).trans ?_
 cases Sp.fky es key with
 | none => rfl
 | some j =>
   show some ((getD es (toNat (j : Int)) _).2.1, 0, ()) = _
   rw [Int.toNat_natCast]
   rfl
theorem rdk_b {m : MeT} (hw : W32f m.1) (key : Int) : W32l (Sp.rdk m key).1 ∧ (Sp.rdk m key).1.length ≤ 24 := by
 have nil : W32l [] ∧ ([] : List Int).length ≤ 24 := ⟨(fun x hx => by cases hx), Nat.zero_le _⟩
 unfold Sp.rdk
 by_cases hm : Sp.mvl m = true
 rotate_left
 · rw [if_neg hm]; exact nil
 rw [if_pos hm]
 by_cases h : key < 0 ∨ key > 254
 · rw [if_pos h]; exact nil
 rw [if_neg h]
 have b := ent_b hw hm
 cases hf : Sp.fky (Sp.ent m) key with
 | none => exact nil
 | some j =>
   unfold Sp.fky at hf
   have hj := (fnd_some hf).2.1
   have hj : j < (Sp.ent m).length := by omega
   have := b.1 _ (List.getElem_mem hj)
   show W32l ((Sp.ent m).getD j Sp.dE).2.1 ∧ _
   dsimp only
   rw [getD_at _ hj]
   exact ⟨this.2.2, this.2.1⟩
set_option maxRecDepth 100000
set_option maxHeartbeats 4000000
abbrev CfT := Int × Int × Int × Int × Int × Int × Bool × Int × Unit
abbrev FaT := Int × Int × Int × Int × Int × List Int × Int × Unit
abbrev FsT := List CfT × List FaT × Int × Bool × Unit
namespace Sp
noncomputable def inr (x l h : Int) : Bool := decide (x ≥ l) && decide (x ≤ h)
noncomputable def cfg (c : CfT) : Bool := inr c.1 1 16777215 && (inr c.2.1 1 100 && (inr c.2.2.1 1 100 && (inr c.2.2.2.1 1 100 && (inr c.2.2.2.2.1 c.2.2.2.1 255 && (inr c.2.2.2.2.2.1 0 255 && inr c.2.2.2.2.2.2.2.1 0 8)))))
noncomputable def val (x : Int) : Bool := inr x (-1099511627776) 1099511627776
noncomputable def vals (l : List Int) : Bool := (List.range l.length).all fun j => val (l.getD j 0)
/-- A bit of a status. -/
noncomputable def bt (f : FaT) (k : Int) : Bool := andI .i64 f.1 k == k
noncomputable def kno (f : FaT) : Bool := decide (f.2.2.2.2.1 ≥ 1) && (decide (f.2.2.1 ≥ 1) && decide (f.2.2.2.2.2.2.1 ≥ 1))
noncomputable def unk (f : FaT) : Bool := (f.2.2.1 == 0) && ((f.2.2.2.1 == 0) && ((f.2.2.2.2.1 == 0) && (f.2.2.2.2.2.2.1 == 0)))
noncomputable def q2 (f : FaT) : Bool := !(bt f 2 && (f.2.2.2.1 != 0))
noncomputable def q1 (c : CfT) (f : FaT) : Bool := (bt f 4 == (f.2.2.1 == 2)) && (!bt f 16 || (bt f 4 && c.2.2.2.2.2.2.1))
noncomputable def q0 (cyc : Int) (f : FaT) : Bool := !bt f 1 || ((bt f 2 && bt f 8) && (f.2.2.2.2.2.2.1 == cyc))
noncomputable def rngs (c : CfT) (f : FaT) (cyc : Int) : Bool := inr f.1 0 31 && (inr f.2.1 (0 - c.2.2.1) c.2.1 && (inr f.2.2.1 0 2 && (inr f.2.2.2.1 0 (c.2.2.2.2.1 - 1) && (inr f.2.2.2.2.1 0 255 && inr f.2.2.2.2.2.2.1 0 cyc))))
noncomputable def frq (c : CfT) (f : FaT) : Bool := (((f.2.2.2.2.2.1.length : Int) == 0) || ((f.2.2.2.2.2.1.length : Int) == c.2.2.2.2.2.2.2.1)) && vals f.2.2.2.2.2.1
noncomputable def fin (c : CfT) (f : FaT) : Bool := bif bt f 2 || bt f 4 then kno f && ((f.2.2.2.2.2.1.length : Int) == c.2.2.2.2.2.2.2.1) else unk f && ((f.2.2.2.2.2.1.length : Int) == 0)
/-- The state of a fault is valid. -/
noncomputable def rgt (c : CfT) (f : FaT) (cyc : Int) : Bool := rngs c f cyc && (frq c f && ((q0 cyc f && (q1 c f && q2 f)) && fin c f))
end Sp
theorem inr_iff {x l h : Int} : Sp.inr x l h = true ↔ l ≤ x ∧ x ≤ h := by simp [Sp.inr]
theorem wit_ok (x l h : Int) : F_84 x l h = some (Sp.inr x l h, ()) := by
 unfold F_84 Sp.inr
 cases decide (x ≥ l) <;> rfl
theorem wit_pv (x l h : Int) : p_84 x l h = true ∧ v_84 x l h = (Sp.inr x l h, ()) := pv_84 x l h (wit_ok x l h)
theorem cfg_ok (c : CfT) : F_117 c = some (Sp.cfg c, ()) := by
 unfold F_117 Sp.cfg
 simp only [wit_pv, gd_tt]
 cases Sp.inr c.1 1 16777215 <;> try rfl
 cases Sp.inr c.2.1 1 100 <;> try rfl
 cases Sp.inr c.2.2.1 1 100 <;> try rfl
 cases Sp.inr c.2.2.2.1 1 100 <;> try rfl
 cases Sp.inr c.2.2.2.2.1 c.2.2.2.1 255 <;> try rfl
 cases Sp.inr c.2.2.2.2.2.1 0 255 <;> rfl
theorem cfg_pv (c : CfT) : p_117 c = true ∧ v_117 c = (Sp.cfg c, ()) := pv_117 c (cfg_ok c)
theorem has_pv (f : FaT) (k : Int) : p_119 f k = true ∧ v_119 f k = (Sp.bt f k, ()) := pv_119 f k rfl
/-- Bits of small numbers. -/
theorem tab (P : Int → Bool) (h : (List.range 32).all (fun n => P (n : Int)) = true) {s : Int} (h0 : 0 ≤ s) (h1 : s ≤ 31) : P s = true := by
 obtain ⟨n, rfl⟩ := Int.eq_ofNat_of_zero_le h0
 rw [List.all_eq_true] at h
 exact h n (by rw [List.mem_range]; omega)
theorem bt_ne {s : Int} (h0 : 0 ≤ s) (h1 : s ≤ 31) : ((Sp.andI .i64 s 1 != 0) = (Sp.andI .i64 s 1 == 1) ∧ (Sp.andI .i64 s 2 != 0) = (Sp.andI .i64 s 2 == 2) ∧ (Sp.andI .i64 s 4 != 0) = (Sp.andI .i64 s 4 == 4)) ∧ ((Sp.andI .i64 s 8 != 0) = (Sp.andI .i64 s 8 == 8) ∧ (Sp.andI .i64 s 16 != 0) = (Sp.andI .i64 s 16 == 16)) ∧ (Sp.andI .i64 s 10 == 10) = ((Sp.andI .i64 s 2 == 2) && (Sp.andI .i64 s 8 == 8)) ∧ (Sp.andI .i64 s 6 != 0) = ((Sp.andI .i64 s 2 == 2) || (Sp.andI .i64 s 4 == 4)) := by
 have := tab (fun s => ((((Sp.andI .i64 s 1 != 0) == (Sp.andI .i64 s 1 == 1)) && ((Sp.andI .i64 s 2 != 0) == (Sp.andI .i64 s 2 == 2)) && ((Sp.andI .i64 s 4 != 0) == (Sp.andI .i64 s 4 == 4)))) && ((((Sp.andI .i64 s 8 != 0) == (Sp.andI .i64 s 8 == 8)) && ((Sp.andI .i64 s 16 != 0) == (Sp.andI .i64 s 16 == 16)))) && ((Sp.andI .i64 s 10 == 10) == ((Sp.andI .i64 s 2 == 2) && (Sp.andI .i64 s 8 == 8))) && ((Sp.andI .i64 s 6 != 0) == ((Sp.andI .i64 s 2 == 2) || (Sp.andI .i64 s 4 == 4)))) (by decide +kernel) h0 h1
 simp only [Bool.and_eq_true, beq_iff_eq] at this
 exact ⟨⟨this.1.1.1.1.1, this.1.1.1.1.2, this.1.1.1.2⟩, this.1.1.2, this.1.2, this.2⟩
set_option maxRecDepth 100000
set_option maxHeartbeats 4000000
theorem rin_ok (x l h : Int) : F_55 x l h = some (Sp.inr x l h, ()) := by
 unfold F_55 Sp.inr
 cases decide (x ≥ l) <;> rfl
theorem rin_pv (x l h : Int) : p_55 x l h = true ∧ v_55 x l h = (Sp.inr x l h, ()) := pv_55 x l h (rin_ok x l h)
theorem rcfg_ok (c : CfT) : F_48 c = some (Sp.cfg c, ()) := by
 unfold F_48 Sp.cfg
 simp only [rin_pv, gd_tt]
 cases Sp.inr c.1 1 16777215 <;> try rfl
 cases Sp.inr c.2.1 1 100 <;> try rfl
 cases Sp.inr c.2.2.1 1 100 <;> try rfl
 cases Sp.inr c.2.2.2.1 1 100 <;> try rfl
 cases Sp.inr c.2.2.2.2.1 c.2.2.2.1 255 <;> try rfl
 cases Sp.inr c.2.2.2.2.2.1 0 255 <;> rfl
theorem rcfg_pv (c : CfT) : p_48 c = true ∧ v_48 c = (Sp.cfg c, ()) := pv_48 c (rcfg_ok c)
theorem vals_ok (l : List Int) (h : l.length < 4611686018427387904) : F_89 l = some (Sp.vals l, ()) := by
 have := all0 (fun m i => L_89_0 m l i) (n := l.length) (fun j => Sp.val (l.getD j 0)) (e0 := some .e0) (e1 := some .e1) h (fun m j hj => by
   show L_89_0 (m + 1) l j = bif Sp.val (l.getD j 0) then L_89_0 m l ((j + 1 : Nat) : Int) else some .e0
   rw [L_89_0, S_89_0, cond_dtt (by omega), gd_inB (by omega) (by omega), (rin_pv _ _ _).1, (rin_pv _ _ _).2, gd_tt, Int.toNat_natCast, wi64 (by omega) (by omega)]
   push_cast
   show (bif !Sp.val (l.getD j 0) then _ else _) = _
   cases Sp.val (l.getD j 0) <;> rfl) (fun m => by
   show L_89_0 (m + 1) l l.length = _
   rw [L_89_0, S_89_0, cond_dff (by omega)])
 unfold F_89
 rw [this]
 unfold Sp.vals
 cases (List.range l.length).all (fun j => Sp.val (l.getD j 0)) <;> rfl
theorem vals_pv (l : List Int) (h : l.length < 4611686018427387904) : p_89 l = true ∧ v_89 l = (Sp.vals l, ()) := pv_89 l (vals_ok l h)
section
variable {c : CfT} {f : FaT} {cyc : Int}
theorem rhas_pv {k : Int} (hk : k = 1 ∨ k = 2 ∨ k = 4 ∨ k = 8 ∨ k = 16) (h0 : 0 ≤ f.1) (h1 : f.1 ≤ 31) : p_90 f k = true ∧ v_90 f k = (Sp.bt f k, ()) := by
 refine pv_90 f k ?_
 unfold F_90 Sp.bt
 have := bt_ne h0 h1
 rcases hk with rfl | rfl | rfl | rfl | rfl <;> simp only [this]
theorem rJ3 (k : Bool) : J_54_3 k c f = some (bif k then (bif Sp.kno f then .e0 c f else .e1) else bif Sp.unk f then .e2 f else .e1) := by
 unfold J_54_3 S_54_3 Sp.kno Sp.unk
 cases k
 · cases f.2.2.1 == 0 <;> try rfl
   cases f.2.2.2.1 == 0 <;> try rfl
   cases f.2.2.2.2.1 == 0 <;> try rfl
   cases f.2.2.2.2.2.2.1 == 0 <;> rfl
 · cases decide (f.2.2.2.2.1 ≥ 1) <;> try rfl
   cases decide (f.2.2.1 ≥ 1) <;> try rfl
   cases decide (f.2.2.2.2.2.2.1 ≥ 1) <;> rfl
theorem rJ2 (k : Bool) (h0 : 0 ≤ f.1) (h1 : f.1 ≤ 31) : J_54_2 k c f = some (bif Sp.q2 f then (bif k then (bif Sp.kno f then .e1 c f else .e0) else bif Sp.unk f then .e2 f else .e0) else .e0) := by
 unfold J_54_2 S_54_2 Sp.q2
 rw [(rhas_pv (by decide) h0 h1).1, (rhas_pv (by decide) h0 h1).2, gd_tt, rJ3]
 cases Sp.bt f 2 <;> cases f.2.2.2.1 != 0 <;> cases k <;> cases Sp.kno f <;> cases Sp.unk f <;> rfl
theorem rJ1 (k : Bool) (h0 : 0 ≤ f.1) (h1 : f.1 ≤ 31) : J_54_1 k c f = some (bif Sp.q1 c f && Sp.q2 f then (bif k then (bif Sp.kno f then .e1 c f else .e0) else bif Sp.unk f then .e2 f else .e0) else .e0) := by
 unfold J_54_1 S_54_1 Sp.q1
 rw [(rhas_pv (k := 4) (by decide) h0 h1).1, (rhas_pv (k := 4) (by decide) h0 h1).2, (rhas_pv (k := 16) (by decide) h0 h1).1, (rhas_pv (k := 16) (by decide) h0 h1).2, gd_tt, gd_tt, gd_tt, rJ2 k h0 h1]
 dsimp only
 cases Sp.bt f 4 <;> cases f.2.2.1 == 2 <;> cases Sp.bt f 16 <;> cases c.2.2.2.2.2.2.1 <;> cases Sp.q2 f <;> cases k <;> cases Sp.kno f <;> cases Sp.unk f <;> rfl
theorem rJ0 (k : Bool) (h0 : 0 ≤ f.1) (h1 : f.1 ≤ 31) : J_54_0 cyc k c f = some (bif Sp.q0 cyc f && (Sp.q1 c f && Sp.q2 f) then (bif k then (bif Sp.kno f then .e1 c f else .e0) else bif Sp.unk f then .e2 f else .e0) else .e0) := by
 unfold J_54_0 S_54_0 Sp.q0
 rw [(rhas_pv (k := 1) (by decide) h0 h1).1, (rhas_pv (k := 1) (by decide) h0 h1).2, (rhas_pv (k := 2) (by decide) h0 h1).1, (rhas_pv (k := 2) (by decide) h0 h1).2, (rhas_pv (k := 8) (by decide) h0 h1).1, (rhas_pv (k := 8) (by decide) h0 h1).2, gd_tt, gd_tt, gd_tt, rJ1 k h0 h1]
 dsimp only
 cases Sp.bt f 1 <;> cases Sp.bt f 2 <;> cases Sp.bt f 8 <;> cases f.2.2.2.2.2.2.1 == cyc <;> cases Sp.q1 c f <;> cases Sp.q2 f <;> cases k <;> cases Sp.kno f <;> cases Sp.unk f <;> rfl
theorem rfault_ok (hc : Sp.cfg c = true) (hfr : f.2.2.2.2.2.1.length < 4611686018427387904) : F_54 c f cyc = some (Sp.rgt c f cyc, ()) := by
 simp only [Sp.cfg, Bool.and_eq_true, inr_iff] at hc
 unfold F_54 Sp.rgt Sp.rngs
 simp only [rin_pv, gd_tt]
 rw [wi64 (n := 0 - c.2.2.1) (by omega) (by omega), wi64 (n := c.2.2.2.2.1 - 1) (by omega) (by omega)]
 cases h1 : Sp.inr f.1 0 31
 · rfl
 have hb := inr_iff.1 h1
 cases Sp.inr f.2.1 (0 - c.2.2.1) c.2.1
 · rfl
 cases Sp.inr f.2.2.1 0 2
 · rfl
 cases Sp.inr f.2.2.2.1 0 (c.2.2.2.2.1 - 1)
 · rfl
 cases Sp.inr f.2.2.2.2.1 0 255
 · rfl
 cases Sp.inr f.2.2.2.2.2.2.1 0 cyc
 · rfl
 simp only [Bool.not_true, cond_f, Bool.and_true, Bool.true_and]
 simp only [vals_pv _ hfr, rhas_pv (k := 2) (by decide) hb.1 hb.2, rhas_pv (k := 4) (by decide) hb.1 hb.2, gd_tt, rJ0 _ hb.1 hb.2]
 unfold Sp.frq Sp.fin
 cases e1 : ((f.2.2.2.2.2.1.length : Int) == c.2.2.2.2.2.2.2.1) <;> cases he : ((f.2.2.2.2.2.1.length : Int) == 0) <;> cases Sp.vals f.2.2.2.2.2.1 <;> cases Sp.bt f 2 <;> cases Sp.bt f 4 <;> cases Sp.q0 cyc f && (Sp.q1 c f && Sp.q2 f) <;> cases Sp.kno f <;> cases Sp.unk f <;> simp only [bne, he, e1, B_54_0, Bool.not_true, Bool.not_false, cond_true, cond_false, Bool.and_true, Bool.and_false, Bool.true_and, Bool.false_and, Bool.or_true, Bool.or_false, Bool.true_or, Bool.false_or]
end
theorem fnd_all (P : Nat → Bool) (n : Nat) : (fnd (fun j => !P j) n 0 = none) ↔ (List.range n).all P = true := by
 rw [fnd_none, List.all_eq_true]
 constructor
 · intro h x hx
   have := h x (by omega) (by rw [List.mem_range] at hx; omega)
   simpa using this
 · intro h i _ hi
   rw [h i (by rw [List.mem_range]; omega)]
   rfl
namespace Sp
noncomputable def frm (c : CfT) (l : List Int) : Bool := ((l.length : Int) == c.2.2.2.2.2.2.2.1) && vals l
noncomputable def cfgs (l : List CfT) : Bool := (List.range l.length).all fun j => cfg (l.getD j Zd1)
noncomputable def rgts (F : FsT) : Bool := (List.range F.2.1.length).all fun j => rgt (F.1.getD j Zd1) (F.2.1.getD j Zd0) F.2.2.1
/-- A state is valid. -/
noncomputable def vf (F : FsT) : Bool := decide (F.1.length ≤ 64) && (cfgs F.1 && (dst (F.1.map fun c => c.1) && (((F.2.1.length : Int) == F.1.length) && (inr F.2.2.1 0 1073741824 && ((!F.2.2.2.1 || decide (F.2.2.1 ≥ 1)) && rgts F)))))
end Sp
theorem val_pv (x : Int) : p_145 x = true ∧ v_145 x = (Sp.val x, ()) := by
 refine pv_145 x ?_
 unfold F_145
 rw [(wit_pv _ _ _).1, (wit_pv _ _ _).2, gd_tt]
 rfl
theorem frm_ok (c : CfT) (l : List Int) (h : l.length < 4611686018427387904) : F_118 c l = some (Sp.frm c l, ()) := by
 unfold F_118 Sp.frm
 cases (l.length : Int) == c.2.2.2.2.2.2.2.1
 · rfl
 have hf := find0 (fun m i => L_118_114_0_0 m l l.length i c) (n := l.length) (fun j => !Sp.val (l.getD j 0)) (ex := fun j => some (.e0 (j : Int) c)) (e1 := some (.e1 c)) h (fun m j hj => by
   show L_118_114_0_0 (m + 1) l l.length j c = bif !Sp.val (l.getD j 0) then some (.e0 (j : Int) c) else L_118_114_0_0 m l l.length ((j + 1 : Nat) : Int) c
   rw [L_118_114_0_0, S_118_114_0_0, cond_dtt (by omega), gd_inB (by omega) (by omega), Int.toNat_natCast, (val_pv _).1, (val_pv _).2, gd_tt, wi64 (by omega) (by omega)]
   push_cast
   rfl) (fun m => by
   show L_118_114_0_0 (m + 1) l l.length l.length c = _
   rw [L_118_114_0_0, S_118_114_0_0, cond_dff (by omega)])
 rw [hf, cond_t]
 cases hk : fnd (fun j => !Sp.val (l.getD j 0)) l.length 0 with
 | none =>
   have : Sp.vals l = true := (fnd_all (fun j => Sp.val (l.getD j 0)) l.length).1 hk
   rw [this]
   rfl
 | some k =>
   have : Sp.vals l = false := by
     cases hv : Sp.vals l
     · rfl
     · have := (fnd_all (fun j => Sp.val (l.getD j 0)) l.length).2 hv
       rw [this] at hk; cases hk
   rw [this]
   simp only [B_118_114_0_0]
   rw [decide_eq_true (by omega)]
   rfl
theorem frm_pv (c : CfT) (l : List Int) (h : l.length < 4611686018427387904) : p_118 c l = true ∧ v_118 c l = (Sp.frm c l, ()) := pv_118 c l (frm_ok c l h)
section
variable {c : CfT} {f : FaT} {cyc : Int}
theorem kn_pv (h0 : 0 ≤ f.1) (h1 : f.1 ≤ 31) : p_120 f = true ∧ v_120 f = (Sp.bt f 2 || Sp.bt f 4, ()) := by
 refine pv_120 f ?_
 unfold F_120 Sp.bt
 rw [(bt_ne h0 h1).2.2.2]
theorem bt10 (h0 : 0 ≤ f.1) (h1 : f.1 ≤ 31) : Sp.bt f 10 = (Sp.bt f 2 && Sp.bt f 8) := (bt_ne h0 h1).2.2.1
theorem gJ3 (h0 : 0 ≤ f.1) (h1 : f.1 ≤ 31) : J_85_3 c f = some (bif Sp.bt f 2 || Sp.bt f 4 then (bif Sp.kno f then .e0 c f else .e1) else .e2 c f) := by
 unfold J_85_3 S_85_3 Sp.kno
 rw [(kn_pv h0 h1).1, (kn_pv h0 h1).2, gd_tt]
 cases Sp.bt f 2 || Sp.bt f 4 <;> try rfl
 cases decide (f.2.2.2.2.1 ≥ 1) <;> try rfl
 cases decide (f.2.2.1 ≥ 1) <;> try rfl
 cases decide (f.2.2.2.2.2.2.1 ≥ 1) <;> rfl
theorem gJ2 (h0 : 0 ≤ f.1) (h1 : f.1 ≤ 31) : J_85_2 c f = some (bif Sp.q2 f then (bif Sp.bt f 2 || Sp.bt f 4 then (bif Sp.kno f then .e1 c f else .e0) else .e2 c f) else .e0) := by
 unfold J_85_2 S_85_2 Sp.q2
 simp only [has_pv, gd_tt, gJ3 h0 h1]
 cases Sp.bt f 2 <;> cases f.2.2.2.1 != 0 <;> cases Sp.bt f 4 <;> cases Sp.kno f <;> rfl
theorem gJ1 (h0 : 0 ≤ f.1) (h1 : f.1 ≤ 31) : J_85_1 c f = some (bif Sp.q1 c f && Sp.q2 f then (bif Sp.bt f 2 || Sp.bt f 4 then (bif Sp.kno f then .e1 c f else .e0) else .e2 c f) else .e0) := by
 unfold J_85_1 S_85_1 Sp.q1
 simp only [has_pv, gd_tt, gJ2 h0 h1]
 cases Sp.bt f 4 <;> cases f.2.2.1 == 2 <;> cases Sp.bt f 16 <;> cases c.2.2.2.2.2.2.1 <;> cases Sp.q2 f <;> cases Sp.bt f 2 <;> cases Sp.kno f <;> rfl
theorem gJ0 (h0 : 0 ≤ f.1) (h1 : f.1 ≤ 31) : J_85_0 cyc c f = some (bif Sp.q0 cyc f && (Sp.q1 c f && Sp.q2 f) then (bif Sp.bt f 2 || Sp.bt f 4 then (bif Sp.kno f then .e1 c f else .e0) else bif Sp.unk f then .e2 f else .e0) else .e0) := by
 unfold J_85_0 S_85_0 Sp.q0 Sp.unk
 simp only [has_pv, gd_tt, gJ1 h0 h1, bt10 h0 h1]
 have hz : ∀ x y : Int, (bif !(x == y) then (some (E_85_0.e0) : Option E_85_0) else none) = (bif x != y then some (E_85_0.e0) else none) := fun _ _ => rfl
 cases e1 : f.2.2.1 == 0 <;> cases e2 : f.2.2.2.1 == 0 <;> cases e3 : f.2.2.2.2.1 == 0 <;> cases e4 : f.2.2.2.2.2.2.1 == 0 <;> cases e5 : f.2.2.2.2.2.2.1 == cyc <;> cases Sp.q1 c f && Sp.q2 f <;> cases Sp.bt f 1 <;> cases Sp.bt f 2 <;> cases Sp.bt f 8 <;> cases Sp.bt f 4 <;> cases Sp.kno f <;> simp only [bne, e1, e2, e3, e4, e5, B_85_1, Bool.not_true, Bool.not_false, cond_true, cond_false, Bool.and_true, Bool.and_false, Bool.true_and, Bool.false_and, Bool.or_true, Bool.or_false, Bool.true_or, Bool.false_or]
theorem right_ok (hc : Sp.cfg c = true) (hfr : f.2.2.2.2.2.1.length < 4611686018427387904) : F_85 c f cyc = some (Sp.rgt c f cyc, ()) := by
 simp only [Sp.cfg, Bool.and_eq_true, inr_iff] at hc
 unfold F_85 Sp.rgt Sp.rngs
 simp only [wit_pv, gd_tt]
 rw [wi64 (n := 0 - c.2.2.1) (by omega) (by omega), wi64 (n := c.2.2.2.2.1 - 1) (by omega) (by omega)]
 cases h1 : Sp.inr f.1 0 31
 · rfl
 have hb := inr_iff.1 h1
 cases Sp.inr f.2.1 (0 - c.2.2.1) c.2.1
 · rfl
 cases Sp.inr f.2.2.1 0 2
 · rfl
 cases Sp.inr f.2.2.2.1 0 (c.2.2.2.2.1 - 1)
 · rfl
 cases Sp.inr f.2.2.2.2.1 0 255
 · rfl
 cases Sp.inr f.2.2.2.2.2.2.1 0 cyc
 · rfl
 simp only [Bool.not_true, cond_f, Bool.and_true, Bool.true_and]
 simp only [frm_pv _ _ hfr, gd_tt, gJ0 hb.1 hb.2]
 unfold Sp.frq Sp.fin Sp.frm
 by_cases hl : f.2.2.2.2.2.1 = []
 · have hv : Sp.vals f.2.2.2.2.2.1 = true := by rw [hl]; rfl
   have hz : ((f.2.2.2.2.2.1.length : Int) == 0) = true := by rw [hl]; rfl
   rw [cond_dff (by rw [hl]; decide), hv, hz]
   cases e1 : ((f.2.2.2.2.2.1.length : Int) == c.2.2.2.2.2.2.2.1) <;> cases Sp.bt f 2 <;> cases Sp.bt f 4 <;> cases Sp.q0 cyc f && (Sp.q1 c f && Sp.q2 f) <;> cases Sp.kno f <;> cases Sp.unk f <;> simp only [bne, hz, e1, B_85_0, Bool.not_true, Bool.not_false, cond_true, cond_false, Bool.and_true, Bool.and_false, Bool.true_and, Bool.false_and, Bool.or_true, Bool.or_false, Bool.true_or, Bool.false_or]
 · have hp : 0 < f.2.2.2.2.2.1.length := List.length_pos_iff.2 hl
   have hz : ((f.2.2.2.2.2.1.length : Int) == 0) = false := beq_eq_false_iff_ne.2 (by omega)
   rw [cond_dtt (by omega), hz]
   cases e1 : ((f.2.2.2.2.2.1.length : Int) == c.2.2.2.2.2.2.2.1) <;> cases Sp.vals f.2.2.2.2.2.1 <;> cases Sp.bt f 2 <;> cases Sp.bt f 4 <;> cases Sp.q0 cyc f && (Sp.q1 c f && Sp.q2 f) <;> cases Sp.kno f <;> cases Sp.unk f <;> simp only [bne, hz, e1, B_85_0, Bool.not_true, Bool.not_false, cond_true, cond_false, Bool.and_true, Bool.and_false, Bool.true_and, Bool.false_and, Bool.or_true, Bool.or_false, Bool.true_or, Bool.false_or]
theorem right_pv (hc : Sp.cfg c = true) (hfr : f.2.2.2.2.2.1.length < 4611686018427387904) : p_85 c f cyc = true ∧ v_85 c f cyc = (Sp.rgt c f cyc, ()) := pv_85 c f cyc (right_ok hc hfr)
end
/-- Memory is not great. -/
structure Sm (F : FsT) : Prop where
 l : F.2.1.length < 4611686018427387904
 f : ∀ j, j < F.2.1.length → (F.2.1.getD j Zd0).2.2.2.2.2.1.length < 4611686018427387904
theorem cfgs_at {l : List CfT} (h : Sp.cfgs l = true) {j : Nat} (hj : j < l.length) : Sp.cfg (l.getD j Zd1) = true := by
 unfold Sp.cfgs at h
 rw [List.all_eq_true] at h
 exact h j (by rw [List.mem_range]; exact hj)
theorem vJ0 {F : FsT} (hs : Sm F) (hc : Sp.cfgs F.1 = true) (hl : F.2.1.length = F.1.length) : J_44_0 F = some (bif Sp.rgts F then .e1 else .e0) := by
 have := all0 (fun m i => L_44_1 m F.2.1 F.2.1.length i F) (n := F.2.1.length) (fun j => Sp.rgt (F.1.getD j Zd1) (F.2.1.getD j Zd0) F.2.2.1) (e0 := some .e0) (e1 := some .e1) hs.l (fun m j hj => by
   show L_44_1 (m + 1) F.2.1 F.2.1.length j F = bif Sp.rgt (F.1.getD j Zd1) (F.2.1.getD j Zd0) F.2.2.1 then L_44_1 m F.2.1 F.2.1.length ((j + 1 : Nat) : Int) F else some .e0
   have hr := right_pv (cyc := F.2.2.1) (cfgs_at hc (j := j) (by omega)) (hs.f j hj)
   rw [L_44_1, S_44_1, cond_dtt (by omega), gd_inB (by omega) (by omega), gd_inB (by omega) (by omega), Int.toNat_natCast, hr.1, hr.2, gd_tt, wi64 (by have := hs.l; omega) (by have := hs.l; omega)]
   push_cast
   cases Sp.rgt (F.1.getD j Zd1) (F.2.1.getD j Zd0) F.2.2.1 <;> rfl) (fun m => by
   show L_44_1 (m + 1) F.2.1 F.2.1.length F.2.1.length F = _
   rw [L_44_1, S_44_1, cond_dff (by omega)])
 unfold J_44_0 S_44_0
 rw [this]
 unfold Sp.rgts
 cases (List.range F.2.1.length).all fun j => Sp.rgt (F.1.getD j Zd1) (F.2.1.getD j Zd0) F.2.2.1 <;> rfl
theorem vf_ok {F : FsT} (hs : Sm F) : F_44 F = some (Sp.vf F, ()) := by
 unfold F_44 Sp.vf
 by_cases h1 : (F.1.length : Int) > 64
 · rw [cond_dtt h1, decide_eq_false (by omega)]; rfl
 rw [cond_dff h1, decide_eq_true (p := F.1.length ≤ 64) (by omega), Bool.true_and]
 have hf := find0 (fun m i => L_44_116_0_0 m F.1 F.1.length i F) (n := F.1.length) (fun j => !Sp.cfg (F.1.getD j Zd1)) (ex := fun j => some (.e0 (j : Int) F)) (e1 := some (.e1 F)) (by omega) (fun m j hj => by
   show L_44_116_0_0 (m + 1) F.1 F.1.length j F = bif !Sp.cfg (F.1.getD j Zd1) then some (.e0 (j : Int) F) else L_44_116_0_0 m F.1 F.1.length ((j + 1 : Nat) : Int) F
   rw [L_44_116_0_0, S_44_116_0_0, cond_dtt (by omega), gd_inB (by omega) (by omega), Int.toNat_natCast, (cfg_pv _).1, (cfg_pv _).2, gd_tt, wi64 (by omega) (by omega)]
   push_cast
   rfl) (fun m => by
   show L_44_116_0_0 (m + 1) F.1 F.1.length F.1.length F = _
   rw [L_44_116_0_0, S_44_116_0_0, cond_dff (by omega)])
 rw [hf]
 cases hk : fnd (fun j => !Sp.cfg (F.1.getD j Zd1)) F.1.length 0 with
 | some k =>
   have : Sp.cfgs F.1 = false := by
     cases hv : Sp.cfgs F.1
     · rfl
     · have := (fnd_all (fun j => Sp.cfg (F.1.getD j Zd1)) F.1.length).2 hv
       rw [this] at hk; cases hk
   rw [this]
   simp only [B_44_116_0_0]
   rw [cond_dtt (by omega)]
   rfl
 | none =>
   have hc : Sp.cfgs F.1 = true := (fnd_all (fun j => Sp.cfg (F.1.getD j Zd1)) F.1.length).1 hk
   rw [hc]
   simp only [B_44_116_0_0, Bool.true_and]
   have em : (List.map (fun (y : Ty.den CfgTy) => Prod.fst y) F.1) = (F.1.map fun c => c.1) := rfl
   rw [em]
   cases Sp.dst (F.1.map fun c => c.1)
   · rfl
   simp only [Bool.not_true, cond_f, Bool.true_and]
   by_cases hl : (F.2.1.length : Int) = (F.1.length : Int)
   rotate_left
   · rw [cond_ntt hl, beq_eq_false_iff_ne.2 hl]; rfl
   rw [cond_nff hl, beq_iff_eq.2 hl, Bool.true_and, (wit_pv _ _ _).1, (wit_pv _ _ _).2, gd_tt]
   cases Sp.inr F.2.2.1 0 1073741824
   · rfl
   simp only [Bool.not_true, cond_f, Bool.true_and]
   rw [vJ0 hs hc (by omega)]
   cases F.2.2.2.1
   · cases Sp.rgts F <;> rfl
   · by_cases hy : F.2.2.1 < 1
     · rw [cond_t, cond_dtt hy, decide_eq_false (by omega)]
       rfl
     · rw [cond_t, cond_dff hy, decide_eq_true (p := F.2.2.1 ≥ 1) (by omega)]
       cases Sp.rgts F <;> rfl
theorem vf_pv {F : FsT} (hs : Sm F) : p_44 F = true ∧ v_44 F = (Sp.vf F, ()) := pv_44 F (vf_ok hs)
set_option maxRecDepth 100000
set_option maxHeartbeats 4000000
namespace Sp
noncomputable def codesL (l : List CfT) : List Int := l.map fun c => c.1
noncomputable def rcs (l : List CfT) : Int := bif decide (l.length ≤ 64) then (bif cfgs l then (bif dst (codesL l) then 0 else 8) else 1) else 5
noncomputable def newF (l : List CfT) : FsT × Int × Unit := bif rcs l == 0 then ((l, replicate l.length Zd0, 0, false, ()), 0, ()) else (([], [], 0, false, ()), rcs l, ())
end Sp
theorem codesL_at (l : List CfT) {j : Nat} (h : j < l.length) : (Sp.codesL l).getD j 0 = (l.getD j Zd1).1 := by
 unfold Sp.codesL
 rw [getD_at _ h, getD_at 0 (by simpa using h), List.getElem_map]
theorem new_ok (l : List CfT) : F_39 l = some (Sp.newF l) := by
 unfold F_39 Sp.newF Sp.rcs
 by_cases h1 : (l.length : Int) > 64
 · rw [cond_dtt h1, decide_eq_false (by omega)]; rfl
 rw [cond_dff h1, decide_eq_true (p := l.length ≤ 64) (by omega), cond_t]
 have hf := find0 (fun m i => L_39_116_0_0 m l l.length i (0, false, ())) (n := l.length) (fun j => !Sp.cfg (l.getD j Zd1)) (ex := fun j => some (.e0 (j : Int) (0, false, ()))) (e1 := some (.e1 (0, false, ()))) (by omega) (fun m j hj => by
   show L_39_116_0_0 (m + 1) l l.length j (0, false, ()) = bif !Sp.cfg (l.getD j Zd1) then some (.e0 (j : Int) (0, false, ())) else L_39_116_0_0 m l l.length ((j + 1 : Nat) : Int) (0, false, ())
   rw [L_39_116_0_0, S_39_116_0_0, cond_dtt (by omega), gd_inB (by omega) (by omega), Int.toNat_natCast, (cfg_pv _).1, (cfg_pv _).2, gd_tt, wi64 (by omega) (by omega)]
   push_cast
   rfl) (fun m => by
   show L_39_116_0_0 (m + 1) l l.length l.length (0, false, ()) = _
   rw [L_39_116_0_0, S_39_116_0_0, cond_dff (by omega)])
 rw [hf]
 cases hk : fnd (fun j => !Sp.cfg (l.getD j Zd1)) l.length 0 with
 | some k =>
   have : Sp.cfgs l = false := by
     cases hv : Sp.cfgs l
     · rfl
     · have := (fnd_all (fun j => Sp.cfg (l.getD j Zd1)) l.length).2 hv
       rw [this] at hk; cases hk
   rw [this]
   simp only [B_39_116_0_0]
   rw [cond_dtt (by omega)]
   rfl
 | none =>
   have hc : Sp.cfgs l = true := (fnd_all (fun j => Sp.cfg (l.getD j Zd1)) l.length).1 hk
   rw [hc]
   simp only [B_39_116_0_0]
   rw [gd_room (by omega) (by omega), Int.toNat_natCast, beq_self_eq_true, Bool.true_and, show room l.length 72 = true from room_ok (by omega) (by omega), gd_tt]
   have em : (List.map (fun (y : Ty.den CfgTy) => Prod.fst y) l) = Sp.codesL l := rfl
   rw [em]
   cases Sp.dst (Sp.codesL l) <;> rfl
theorem new_pv (l : List CfT) : p_39 l = true ∧ v_39 l = Sp.newF l := pv_39 l (new_ok l)
set_option maxRecDepth 100000
set_option maxHeartbeats 4000000
theorem dst_all (l : List Int) : Sp.dst l = (List.range l.length).all fun i => (List.range i).all fun k => !(l.getD k 0 == l.getD i 0) := by
 rw [Bool.eq_iff_iff, Sp.dst_nodup, List.Nodup, List.pairwise_iff_getElem]
 simp only [List.all_eq_true, List.mem_range, Bool.not_eq_true', beq_eq_false_iff_ne]
 constructor
 · intro h i hi k hk
   rw [getD_at 0 (show k < l.length by omega), getD_at 0 hi]
   exact h k i (by omega) hi hk
 · intro h i j hi hj hij
   have := h j hj i hij
   rwa [getD_at 0 hi, getD_at 0 hj] at this
theorem rcs_ok (l : List CfT) : F_12 l = some (Sp.rcs l, ()) := by
 unfold F_12 Sp.rcs
 by_cases h1 : (l.length : Int) > 64
 · rw [cond_dtt h1, decide_eq_false (by omega)]; rfl
 rw [cond_dff h1, decide_eq_true (p := l.length ≤ 64) (by omega), cond_t]
 have ha := all0 (fun m i => L_12_0 m l i) (n := l.length) (fun j => Sp.cfg (l.getD j Zd1)) (e0 := some .e0) (e1 := some (.e1 l)) (by omega) (fun m j hj => by
   show L_12_0 (m + 1) l j = bif Sp.cfg (l.getD j Zd1) then L_12_0 m l ((j + 1 : Nat) : Int) else some .e0
   rw [L_12_0, S_12_0, cond_dtt (by omega), gd_inB (by omega) (by omega), Int.toNat_natCast, (rcfg_pv _).1, (rcfg_pv _).2, gd_tt, wi64 (by omega) (by omega)]
   push_cast
   cases Sp.cfg (l.getD j Zd1) <;> rfl) (fun m => by
   show L_12_0 (m + 1) l l.length = _
   rw [L_12_0, S_12_0, cond_dff (by omega)])
 rw [ha]
 have ec : (List.range l.length).all (fun j => Sp.cfg (l.getD j Zd1)) = Sp.cfgs l := rfl
 rw [ec]
 cases Sp.cfgs l
 · rfl
 simp only [cond_t, B_12_0]
 have hin : ∀ i, i < l.length → L_12_2 4611686018427387904 l (i : Int) 0 = bif (List.range i).all (fun k => !((l.getD k Zd1).1 == (l.getD i Zd1).1)) then some (.e1 l i) else some .e0 := by
   intro i hi
   exact all0 (fun m k => L_12_2 m l (i : Int) k) (n := i) (fun k => !((l.getD k Zd1).1 == (l.getD i Zd1).1)) (e0 := some .e0) (e1 := some (.e1 l i)) (by omega) (fun m k hk => by
     show L_12_2 (m + 1) l (i : Int) (k : Int) = bif !((l.getD k Zd1).1 == (l.getD i Zd1).1) then L_12_2 m l (i : Int) ((k + 1 : Nat) : Int) else some .e0
     rw [L_12_2, S_12_2, cond_dtt (by omega), gd_inB (by omega) (by omega), gd_inB (by omega) (by omega), Int.toNat_natCast, Int.toNat_natCast, wi64 (by omega) (by omega)]
     push_cast
     cases (l.getD k Zd1).1 == (l.getD i Zd1).1 <;> rfl) (fun m => by
     show L_12_2 (m + 1) l (i : Int) (i : Int) = _
     rw [L_12_2, S_12_2, cond_dff (by omega)])
 have ho := all0 (fun m i => L_12_1 m l i) (n := l.length) (fun i => (List.range i).all (fun k => !((l.getD k Zd1).1 == (l.getD i Zd1).1))) (e0 := some .e0) (e1 := some .e1) (by omega) (fun m i hi => by
   show L_12_1 (m + 1) l i = bif (List.range i).all (fun k => !((l.getD k Zd1).1 == (l.getD i Zd1).1)) then L_12_1 m l ((i + 1 : Nat) : Int) else some .e0
   rw [L_12_1, S_12_1, cond_dtt (by omega), hin i hi]
   cases (List.range i).all (fun k => !((l.getD k Zd1).1 == (l.getD i Zd1).1))
   · rfl
   · simp only [cond_t, B_12_2]
     rw [wi64 (by omega) (by omega)]
     push_cast
     rfl) (fun m => by
   show L_12_1 (m + 1) l l.length = _
   rw [L_12_1, S_12_1, cond_dff (by omega)])
 rw [ho]
 have ed : (List.range l.length).all (fun i => (List.range i).all (fun k => !((l.getD k Zd1).1 == (l.getD i Zd1).1))) = Sp.dst (Sp.codesL l) := by
   rw [dst_all, show (Sp.codesL l).length = l.length by simp [Sp.codesL], Bool.eq_iff_iff]
   simp only [List.all_eq_true, List.mem_range]
   constructor
   · intro h i hi k hk
     rw [codesL_at l hi, codesL_at l (show k < l.length by omega)]
     exact h i hi k hk
   · intro h i hi k hk
     have := h i hi k hk
     rwa [codesL_at l hi, codesL_at l (show k < l.length by omega)] at this
 rw [ed]
 cases Sp.dst (Sp.codesL l) <;> rfl
theorem rcs_pv (l : List CfT) : p_12 l = true ∧ v_12 l = (Sp.rcs l, ()) := pv_12 l (rcs_ok l)
theorem rvf_ok {F : FsT} (hs : Sm F) : F_16 F = some (Sp.vf F, ()) := by
 unfold F_16 Sp.vf
 rw [(rcs_pv _).1, (rcs_pv _).2, gd_tt]
 unfold Sp.rcs
 dsimp only
 by_cases h1 : F.1.length ≤ 64
 rotate_left
 · rw [decide_eq_false h1]; rfl
 rw [decide_eq_true h1, cond_t, Bool.true_and]
 cases hc : Sp.cfgs F.1
 · rfl
 rw [cond_t, Bool.true_and]
 have em : (F.1.map fun c => c.1) = Sp.codesL F.1 := rfl
 rw [em]
 cases Sp.dst (Sp.codesL F.1)
 · rfl
 rw [cond_t, cond_nff rfl, Bool.true_and]
 by_cases hl : (F.2.1.length : Int) = (F.1.length : Int)
 rotate_left
 · rw [cond_ntt hl, beq_eq_false_iff_ne.2 hl]; rfl
 rw [cond_nff hl, beq_iff_eq.2 hl, Bool.true_and, (rin_pv _ _ _).1, (rin_pv _ _ _).2, gd_tt]
 cases Sp.inr F.2.2.1 0 1073741824
 · rfl
 have hJ : J_16_0 F = some (bif Sp.rgts F then .e1 else .e0) := by
   have := all0 (fun m i => L_16_1 m i F) (n := F.2.1.length) (fun j => Sp.rgt (F.1.getD j Zd1) (F.2.1.getD j Zd0) F.2.2.1) (e0 := some .e0) (e1 := some .e1) hs.l (fun m j hj => by
     show L_16_1 (m + 1) j F = bif Sp.rgt (F.1.getD j Zd1) (F.2.1.getD j Zd0) F.2.2.1 then L_16_1 m ((j + 1 : Nat) : Int) F else some .e0
     have hr := pv_54 _ _ _ (rfault_ok (cyc := F.2.2.1) (cfgs_at hc (j := j) (by omega)) (hs.f j hj))
     rw [L_16_1, S_16_1, cond_dtt (by omega), gd_inB (by omega) (by omega), gd_inB (by omega) (by omega), Int.toNat_natCast, hr.1, hr.2, gd_tt, wi64 (by have := hs.l; omega) (by have := hs.l; omega)]
     push_cast
     cases Sp.rgt (F.1.getD j Zd1) (F.2.1.getD j Zd0) F.2.2.1 <;> rfl) (fun m => by
     show L_16_1 (m + 1) F.2.1.length F = _
     rw [L_16_1, S_16_1, cond_dff (by omega)])
   unfold J_16_0 S_16_0
   rw [this]
   unfold Sp.rgts
   cases (List.range F.2.1.length).all fun j => Sp.rgt (F.1.getD j Zd1) (F.2.1.getD j Zd0) F.2.2.1 <;> rfl
 simp only [Bool.not_true, cond_f, Bool.true_and, hJ]
 cases F.2.2.2.1
 · cases Sp.rgts F <;> rfl
 · by_cases hy : F.2.2.1 < 1
   · rw [cond_t, cond_dtt hy, decide_eq_false (by omega)]
     rfl
   · rw [cond_t, cond_dff hy, decide_eq_true (p := F.2.2.1 ≥ 1) (by omega)]
     cases Sp.rgts F <;> rfl
theorem rvf_pv {F : FsT} (hs : Sm F) : p_16 F = true ∧ v_16 F = (Sp.vf F, ()) := pv_16 F (rvf_ok hs)
theorem gnum_pv (l : List Int) (h : l.length < 4611686018427387904) : p_56 l l = true ∧ v_56 l l = (true, ()) := by
 refine pv_56 l l ?_
 unfold F_56
 rw [cond_nff rfl]
 have h1 := run0 (fun m i (_ : Unit) => L_56_0 m l l i) (n := l.length) (fun _ => ()) (r := some .e1) h (fun m j hj => by
   show L_56_0 (m + 1) l l (j : Int) = L_56_0 m l l ((j + 1 : Nat) : Int)
   rw [L_56_0, S_56_0, cond_dtt (by omega), gd_inB (by omega) (by omega), gd_inB (by omega) (by omega), cond_nff rfl, wi64 (by omega) (by omega)]
   push_cast
   rfl) (fun m => by
   show L_56_0 (m + 1) l l l.length = _
   rw [L_56_0, S_56_0, cond_dff (by omega)])
 have e1 : L_56_0 4611686018427387904 l l 0 = _ := h1
 rw [e1]
 rfl
theorem fsame_pv (f : FaT) (h : f.2.2.2.2.2.1.length < 4611686018427387904) : p_18 f f = true ∧ v_18 f f = (true, ()) := by
 refine pv_18 f f ?_
 unfold F_18
 simp only [beq_self_eq_true, cond_t, gnum_pv _ h, gd_tt]
theorem cfg_beq (c : CfT) : Ty.beq (.pair (.int .i64) (.pair (.int .i64) (.pair (.int .i64) (.pair (.int .i64) (.pair (.int .i64) (.pair (.int .i64) (.pair .bool (.pair (.int .i64) .unit)))))))) c c = true := by
 simp [Ty.beq]
theorem same_pv {F : FsT} (hs : Sm F) (h : F.1.length < 4611686018427387904) : p_14 F F = true ∧ v_14 F F = (true, ()) := by
 refine pv_14 F F ?_
 unfold F_14
 rw [cond_nff rfl, cond_nff rfl, cond_nff rfl, beq_self_eq_true, Bool.not_true, cond_f]
 have h1 := run0 (fun m i (_ : Unit) => L_14_0 m i F F) (n := F.1.length) (fun _ => ()) (r := some (.e1 F F)) h (fun m j hj => by
   show L_14_0 (m + 1) (j : Int) F F = L_14_0 m ((j + 1 : Nat) : Int) F F
   rw [L_14_0, S_14_0, cond_dtt (by omega), gd_inB (by omega) (by omega), gd_inB (by omega) (by omega), cfg_beq, Bool.not_true, cond_f, wi64 (by omega) (by omega)]
   push_cast
   rfl) (fun m => by
   show L_14_0 (m + 1) F.1.length F F = _
   rw [L_14_0, S_14_0, cond_dff (by omega)])
 have h2 := run0 (fun m i (_ : Unit) => L_14_1 m i F F) (n := F.2.1.length) (fun _ => ()) (r := some .e1) hs.l (fun m j hj => by
   show L_14_1 (m + 1) (j : Int) F F = L_14_1 m ((j + 1 : Nat) : Int) F F
   have hx := hs.l
   have hq := fsame_pv (F.2.1.getD j Zd0) (hs.f j hj)
   rw [L_14_1, S_14_1, cond_dtt (by omega), gd_inB (by omega) (by omega), gd_inB (by omega) (by omega), Int.toNat_natCast, hq.1, hq.2, gd_tt, wi64 (by omega) (by omega)]
   push_cast
   rfl) (fun m => by
   show L_14_1 (m + 1) F.2.1.length F F = _
   rw [L_14_1, S_14_1, cond_dff (by omega)])
 have e1 : L_14_0 4611686018427387904 0 F F = _ := h1
 have e2 : L_14_1 4611686018427387904 0 F F = _ := h2
 rw [e1]
 simp only [B_14_0]
 rw [e2]
 rfl
namespace Sp
noncomputable def wi (x h : Int) : Bool := decide (x ≥ 0) && decide (x ≤ h)
noncomputable def bval (x : Int) : Bool := decide (x ≥ -1099511627776) && decide (x ≤ 1099511627776)
noncomputable def bvals (l : List Int) : Bool := (fnd (fun j => !bval (l.getD j 0)) l.length 0).isNone
noncomputable def good (f : FaT) : Bool := wi f.1 31 && (wi f.2.2.1 2 && (wi f.2.2.2.1 254 && (wi f.2.2.2.2.1 255 && (wi f.2.2.2.2.2.2.1 1073741824 && (decide ((f.2.2.2.2.2.1.length : Int) ≤ 8) && bvals f.2.2.2.2.2.1)))))
noncomputable def flat : List Int → List Int
 | [] => []
 | v :: l => ((v + 1099511627776) / 4294967296) :: ((v + 1099511627776) % 4294967296) :: flat l
noncomputable def unflat : List Int → List Int
 | a :: b :: l => (a * 4294967296 + b - 1099511627776) :: unflat l
 | _ => []
noncomputable def hdr (f : FaT) : Int := andI .i64 f.1 22 + 256 * f.2.2.1 + 65536 * f.2.2.2.1 + 16777216 * f.2.2.2.2.1
noncomputable def wpk (f : FaT) : List Int := [hdr f, f.2.2.2.2.2.2.1, (f.2.2.2.2.2.1.length : Int)] ++ flat f.2.2.2.2.2.1
noncomputable def xof (l : List Int) : FaT := (andI .i64 (l.getD 0 0) 255, 0, andI .i64 (Int.fdiv (l.getD 0 0) 256) 255, andI .i64 (Int.fdiv (l.getD 0 0) 65536) 255, Int.fdiv (l.getD 0 0) 16777216, unflat (l.drop 3), l.getD 1 0, ())
noncomputable def cond (l : List Int) : Bool := !decide ((l.length : Int) < 3) && (!decide (l.getD 2 0 > 8) && (((l.length : Int) == 3 + 2 * l.getD 2 0) && (!decide (l.getD 1 0 > 1073741824) && ((andnI .i64 (andI .i64 (l.getD 0 0) 255) 22 == 0) && ((fnd (fun j => decide (l.getD (3 + 2 * j) 0 > 512)) (l.getD 2 0).toNat 0).isNone && good (xof l))))))
end Sp
theorem aw : F_7 = some (true, ()) := by kernel_rfl
theorem aw_pv : p_7 = true ∧ v_7 = (true, ()) := pv_7 aw
theorem wi_pv (x h : Int) : p_72 x h = true ∧ v_72 x h = (Sp.wi x h, ()) := by
 refine pv_72 x h ?_
 unfold F_72 Sp.wi
 cases decide (x ≥ 0) <;> rfl
theorem bval_pv (x : Int) : p_75 x = true ∧ v_75 x = (Sp.bval x, ()) := by
 refine pv_75 x ?_
 unfold F_75 Sp.bval
 cases decide (x ≥ -1099511627776) <;> rfl
theorem wi_iff {x h : Int} : Sp.wi x h = true ↔ 0 ≤ x ∧ x ≤ h := by simp [Sp.wi]
theorem bvals_iff {l : List Int} : Sp.bvals l = true ↔ ∀ x ∈ l, -1099511627776 ≤ x ∧ x ≤ 1099511627776 := by
 unfold Sp.bvals
 rw [Option.isNone_iff_eq_none, fnd_none]
 constructor
 · intro h x hx
   obtain ⟨j, hj, rfl⟩ := List.getElem_of_mem hx
   have := h j (by omega) (by omega)
   rw [getD_at 0 hj] at this
   simpa [Sp.bval] using this
 · intro h j _ hj
   have hj : j < l.length := by omega
   rw [getD_at 0 hj]
   have := h l[j] (List.getElem_mem hj)
   simpa [Sp.bval] using this
theorem good_iff {f : FaT} : Sp.good f = true ↔ (0 ≤ f.1 ∧ f.1 ≤ 31) ∧ (0 ≤ f.2.2.1 ∧ f.2.2.1 ≤ 2) ∧ (0 ≤ f.2.2.2.1 ∧ f.2.2.2.1 ≤ 254) ∧ (0 ≤ f.2.2.2.2.1 ∧ f.2.2.2.2.1 ≤ 255) ∧ (0 ≤ f.2.2.2.2.2.2.1 ∧ f.2.2.2.2.2.2.1 ≤ 1073741824) ∧ f.2.2.2.2.2.1.length ≤ 8 ∧ ∀ x ∈ f.2.2.2.2.2.1, -1099511627776 ≤ x ∧ x ≤ 1099511627776 := by
 simp only [Sp.good, Bool.and_eq_true, wi_iff, decide_eq_true_eq, bvals_iff]
 constructor <;> rintro ⟨a, b, c, d, e, g, h⟩ <;> exact ⟨a, b, c, d, e, by omega, h⟩
/-! Bits and words. -/
theorem and_mod {n : Int} (k : Nat) (hk : k ≤ 40) (h0 : 0 ≤ n) (h1 : n < 4611686018427387904) : Sp.andI .i64 n (((2 ^ k - 1 : Nat) : Int)) = n % ((2 ^ k : Nat) : Int) := by
 obtain ⟨a, rfl⟩ := Int.eq_ofNat_of_zero_le h0
 have ha : a < 2 ^ 62 := by
   have : (2 : Nat) ^ 62 = 4611686018427387904 := by decide
   omega
 have hb : (2 : Nat) ^ k ≤ 2 ^ 40 := Nat.pow_le_pow_right (by decide) hk
 have hb2 : (2 : Nat) ^ 40 < 2 ^ 62 := by decide
 rw [andI_nat 62 (by decide) ha (by omega), Nat.and_two_pow_sub_one_eq_mod, Int.natCast_emod]
theorem and_255 {n : Int} (h0 : 0 ≤ n) (h1 : n < 4611686018427387904) : Sp.andI .i64 n 255 = n % 256 := and_mod 8 (by decide) h0 h1
theorem and_32 {n : Int} (h0 : 0 ≤ n) (h1 : n < 4611686018427387904) : Sp.andI .i64 n 4294967295 = n % 4294967296 := and_mod 32 (by decide) h0 h1
theorem or_sum {a b : Int} (k : Nat) (hk : k ≤ 30) (h0 : 0 ≤ a) (h1 : a < ((2 ^ k : Nat) : Int)) (h2 : 0 ≤ b) (h3 : b < 1024) : Sp.orI .i64 a (b * ((2 ^ k : Nat) : Int)) = a + b * ((2 ^ k : Nat) : Int) := by
 obtain ⟨x, rfl⟩ := Int.eq_ofNat_of_zero_le h0
 obtain ⟨y, rfl⟩ := Int.eq_ofNat_of_zero_le h2
 have hb : (2 : Nat) ^ k ≤ 2 ^ 30 := Nat.pow_le_pow_right (by decide) hk
 have e30 : (2 : Nat) ^ 30 = 1073741824 := by decide
 have e62 : (2 : Nat) ^ 62 = 4611686018427387904 := by decide
 have hxy : y * 2 ^ k ≤ 1024 * 1073741824 := Nat.mul_le_mul (by omega) (by omega)
 have hx : x < 2 ^ k := by exact_mod_cast h1
 rw [← Int.natCast_mul, orI_nat 62 (by decide) (by omega) (by omega), Nat.or_comm, or_add k hx]
 push_cast
 omega
theorem btab (P : Int → Bool) (N : Nat) (h : (List.range N).all (fun n => P (n : Int)) = true) {s : Int} (h0 : 0 ≤ s) (h1 : s < N) : P s = true := by
 obtain ⟨n, rfl⟩ := Int.eq_ofNat_of_zero_le h0
 rw [List.all_eq_true] at h
 exact h n (by rw [List.mem_range]; omega)
theorem st_22 {s : Int} (h0 : 0 ≤ s) (h1 : s ≤ 31) : 0 ≤ Sp.andI .i64 s 22 ∧ Sp.andI .i64 s 22 ≤ 31 ∧ Sp.andnI .i64 (Sp.andI .i64 s 22) 22 = 0 ∧ Sp.andI .i64 (Sp.andI .i64 s 22) 22 = Sp.andI .i64 s 22 := by
 have := btab (fun s => decide (0 ≤ Sp.andI .i64 s 22 ∧ Sp.andI .i64 s 22 ≤ 31 ∧ Sp.andnI .i64 (Sp.andI .i64 s 22) 22 = 0 ∧ Sp.andI .i64 (Sp.andI .i64 s 22) 22 = Sp.andI .i64 s 22)) 32 (by decide +kernel) h0 (by omega)
 exact of_decide_eq_true this
theorem st_back {s : Int} (h0 : 0 ≤ s) (h1 : s ≤ 255) (h : Sp.andnI .i64 s 22 = 0) : Sp.andI .i64 s 22 = s := by
 have := btab (fun s => decide (Sp.andnI .i64 s 22 = 0 → Sp.andI .i64 s 22 = s)) 256 (by decide +kernel) h0 (by omega)
 exact (of_decide_eq_true this) h
/-! Lists of words. -/
theorem pfl_len : ∀ l : List Int, (Sp.flat l).length = 2 * l.length
 | [] => rfl
 | _ :: l => by simp only [Sp.flat, List.length_cons, pfl_len l]; omega
theorem flat_app : ∀ a b : List Int, Sp.flat (a ++ b) = Sp.flat a ++ Sp.flat b
 | [], _ => rfl
 | v :: a, b => by simp [Sp.flat, flat_app a b]
theorem upfl_len : ∀ (n : Nat) (l : List Int), l.length = 2 * n → (Sp.unflat l).length = n
 | 0, [], _ => rfl
 | n + 1, a :: b :: l, h => by
   have := upfl_len n l (by simp only [List.length_cons] at h; omega)
   simp [Sp.unflat, this]
 | 0, _ :: _, h => by simp at h
 | n + 1, [], h => by simp at h
 | n + 1, [_], h => by exfalso; simp only [List.length_cons, List.length_nil] at h; omega
theorem unflat_snoc : ∀ (k : Nat) (t : List Int), 2 * k + 1 < t.length → Sp.unflat (t.take (2 * (k + 1))) = Sp.unflat (t.take (2 * k)) ++ [t.getD (2 * k) 0 * 4294967296 + t.getD (2 * k + 1) 0 - 1099511627776]
 | 0, a :: b :: t, _ => by simp [Sp.unflat]
 | k + 1, a :: b :: t, h => by
   have ih := unflat_snoc k t (by simp only [List.length_cons] at h; omega)
   rw [show 2 * (k + 1 + 1) = 2 * (k + 1) + 1 + 1 by omega, List.take_succ_cons, List.take_succ_cons, show 2 * (k + 1) = 2 * k + 1 + 1 by omega, List.take_succ_cons, List.take_succ_cons, Sp.unflat, Sp.unflat, show 2 * k + 1 + 1 = 2 * (k + 1) by omega, ih]
   rw [show 2 * (k + 1) = 2 * k + 1 + 1 by omega]
   simp [List.getD_eq_getElem?_getD]
 | 0, [], h => by simp at h
 | 0, [_], h => by simp at h
 | k + 1, [], h => by simp at h
 | k + 1, [_], h => by exfalso; simp only [List.length_cons, List.length_nil] at h; omega
/-! The functions. -/
theorem hdr_ok {f : FaT} (h : Sp.good f = true) : wrap .u32 (Sp.orI .i64 (Sp.orI .i64 (Sp.orI .i64 (Sp.andI .i64 f.1 (22 : Int)) (wrap .i64 (f.2.2.1 * (256 : Int)))) (wrap .i64 (f.2.2.2.1 * (65536 : Int)))) (wrap .i64 (f.2.2.2.2.1 * (16777216 : Int)))) = Sp.hdr f := by
 obtain ⟨h1, h2, h3, h4, h5, h6, h7⟩ := good_iff.1 h
 have hs := st_22 h1.1 h1.2
 unfold Sp.hdr
 rw [wi64 (n := f.2.2.1 * 256) (by omega) (by omega), wi64 (n := f.2.2.2.1 * 65536) (by omega) (by omega), wi64 (n := f.2.2.2.2.1 * 16777216) (by omega) (by omega)]
 generalize Sp.andI .i64 f.1 22 = s at *
 have e1 : Sp.orI .i64 s (f.2.2.1 * 256) = s + f.2.2.1 * 256 := or_sum 8 (by decide) hs.1 (by omega) h2.1 (by omega)
 have e2 : Sp.orI .i64 (s + f.2.2.1 * 256) (f.2.2.2.1 * 65536) = s + f.2.2.1 * 256 + f.2.2.2.1 * 65536 := or_sum 16 (by decide) (by omega) (by omega) h3.1 (by omega)
 have e3 : Sp.orI .i64 (s + f.2.2.1 * 256 + f.2.2.2.1 * 65536) (f.2.2.2.2.1 * 16777216) = s + f.2.2.1 * 256 + f.2.2.2.1 * 65536 + f.2.2.2.2.1 * 16777216 := or_sum 24 (by decide) (by omega) (by omega) h4.1 (by omega)
 rw [e1, e2, e3, wu32' (by omega) (by omega)]
 omega
theorem pack_loop (fr base : List Int) (hv : ∀ x ∈ fr, -1099511627776 ≤ x ∧ x ≤ 1099511627776) (hl : fr.length ≤ 8) (hb : base.length ≤ 3) : L_34_0 4611686018427387904 fr fr.length 0 base = some (.e0 (base ++ Sp.flat fr)) := by
 have h := run0 (fun m i o => L_34_0 m fr fr.length i o) (n := fr.length) (fun j => base ++ Sp.flat (fr.take j)) (r := some (.e0 (base ++ Sp.flat fr))) (by omega) (fun m j hj => by
   show L_34_0 (m + 1) fr fr.length (j : Int) (base ++ Sp.flat (fr.take j)) = L_34_0 m fr fr.length ((j + 1 : Nat) : Int) (base ++ Sp.flat (fr.take (j + 1)))
   have hlen : (base ++ Sp.flat (fr.take j)).length ≤ 100 := by
     rw [List.length_append, pfl_len, List.length_take]; omega
   have hx : fr.getD j 0 = fr[j] := getD_at 0 hj
   have hvj := hv fr[j] (List.getElem_mem hj)
   rw [List.take_succ_eq_append_getElem hj, flat_app, L_34_0, S_34_0, cond_dtt (by omega), gd_inB (by omega) (by omega), Int.toNat_natCast, hx]
   generalize fr[j] = v at *
   rw [← List.append_assoc]
   generalize base ++ Sp.flat (fr.take j) = o at *
   rw [gd_room (by omega) (by omega), gd_room (by rw [List.length_append, List.length_singleton]; omega) (by rw [List.length_append, List.length_singleton]; omega), wi64 (n := v + 1099511627776) (by omega) (by omega), wi64 (n := (j : Int) + 1) (by omega) (by omega), Int.fdiv_eq_ediv_of_nonneg _ (by decide), and_32 (by omega) (by omega), wu32' (n := (v + 1099511627776) / 4294967296) (by omega) (by omega), wu32' (n := (v + 1099511627776) % 4294967296) (by omega) (by omega)]
   push_cast
   simp [Sp.flat, List.append_assoc]) (fun m => by
   show L_34_0 (m + 1) fr fr.length fr.length (base ++ Sp.flat (fr.take fr.length)) = _
   rw [L_34_0, S_34_0, cond_dff (by omega), List.take_length])
 simpa [Sp.flat] using h
theorem pack_ok (f : FaT) : F_34 f = some (bif Sp.good f then (Sp.wpk f, 0, ()) else ([], 1, ())) := by
 cases hg : Sp.good f
 · -- an error
   have hg2 := hg
   unfold Sp.good at hg2
   unfold F_34
   simp only [wi_pv, gd_tt]
   cases h1 : Sp.wi f.1 31
   · rfl
   cases h2 : Sp.wi f.2.2.1 2
   · rfl
   cases h3 : Sp.wi f.2.2.2.1 254
   · rfl
   cases h4 : Sp.wi f.2.2.2.2.1 255
   · rfl
   cases h5 : Sp.wi f.2.2.2.2.2.2.1 1073741824
   · rfl
   simp only [Bool.not_true, cond_f]
   by_cases h6 : (f.2.2.2.2.2.1.length : Int) > 8
   · rw [cond_dtt h6]
   rw [h1, h2, h3, h4, h5, decide_eq_true (by omega)] at hg2
   simp only [Bool.true_and] at hg2
   unfold Sp.bvals at hg2
   have hf := find0 (fun m i => L_34_114_0_0 m f.2.2.2.2.2.1 f.2.2.2.2.2.1.length i f) (n := f.2.2.2.2.2.1.length) (fun j => !Sp.bval (f.2.2.2.2.2.1.getD j 0)) (ex := fun j => some (.e0 (j : Int) f)) (e1 := some (.e1 f)) (by omega) (fun m j hj => by
     show L_34_114_0_0 (m + 1) f.2.2.2.2.2.1 f.2.2.2.2.2.1.length j f = bif !Sp.bval (f.2.2.2.2.2.1.getD j 0) then some (.e0 (j : Int) f) else L_34_114_0_0 m f.2.2.2.2.2.1 f.2.2.2.2.2.1.length ((j + 1 : Nat) : Int) f
     rw [L_34_114_0_0, S_34_114_0_0, cond_dtt (by omega), gd_inB (by omega) (by omega), Int.toNat_natCast, (bval_pv _).1, (bval_pv _).2, gd_tt, wi64 (by omega) (by omega)]
     push_cast
     rfl) (fun m => by
     show L_34_114_0_0 (m + 1) f.2.2.2.2.2.1 f.2.2.2.2.2.1.length f.2.2.2.2.2.1.length f = _
     rw [L_34_114_0_0, S_34_114_0_0, cond_dff (by omega)])
   rw [cond_dff h6, hf]
   cases hk : fnd (fun j => !Sp.bval (f.2.2.2.2.2.1.getD j 0)) f.2.2.2.2.2.1.length 0 with
   | none => rw [hk] at hg2; cases hg2
   | some k =>
     simp only [B_34_114_0_0]
     rw [cond_dtt (by omega)]
 · obtain ⟨h1, h2, h3, h4, h5, h6, h7⟩ := good_iff.1 hg
   unfold F_34
   simp only [wi_pv, gd_tt]
   rw [wi_iff.2 h1, wi_iff.2 h2, wi_iff.2 h3, wi_iff.2 h4, wi_iff.2 h5]
   simp only [Bool.not_true, cond_f]
   have hf := run0 (fun m i (_ : Unit) => L_34_114_0_0 m f.2.2.2.2.2.1 f.2.2.2.2.2.1.length i f) (n := f.2.2.2.2.2.1.length) (fun _ => ()) (r := some (.e1 f)) (by omega) (fun m j hj => by
     show L_34_114_0_0 (m + 1) f.2.2.2.2.2.1 f.2.2.2.2.2.1.length j f = L_34_114_0_0 m f.2.2.2.2.2.1 f.2.2.2.2.2.1.length ((j + 1 : Nat) : Int) f
     have hvj := h7 f.2.2.2.2.2.1[j] (List.getElem_mem hj)
     rw [L_34_114_0_0, S_34_114_0_0, cond_dtt (by omega), gd_inB (by omega) (by omega), Int.toNat_natCast, (bval_pv _).1, (bval_pv _).2, gd_tt, getD_at 0 hj, wi64 (by omega) (by omega)]
     have hv : Sp.bval f.2.2.2.2.2.1[j] = true := by simp [Sp.bval, hvj]
     rw [hv]
     push_cast
     rfl) (fun m => by
     show L_34_114_0_0 (m + 1) f.2.2.2.2.2.1 f.2.2.2.2.2.1.length f.2.2.2.2.2.1.length f = _
     rw [L_34_114_0_0, S_34_114_0_0, cond_dff (by omega)])
   have hf' : L_34_114_0_0 4611686018427387904 f.2.2.2.2.2.1 f.2.2.2.2.2.1.length 0 f = _ := hf
   rw [cond_dff (by omega), hf']
   simp only [B_34_114_0_0]
   rw [hdr_ok hg, wu32' (n := f.2.2.2.2.2.2.1) (by omega) (by omega), wu32' (n := (f.2.2.2.2.2.1.length : Int)) (by omega) (by omega), pack_loop _ _ h7 h6 (by simp)]
   rfl
theorem pack_pv (f : FaT) : p_34 f = true ∧ v_34 f = (bif Sp.good f then (Sp.wpk f, 0, ()) else ([], 1, ())) := pv_34 f (pack_ok f)
set_option maxRecDepth 100000
set_option maxHeartbeats 4000000
noncomputable def Sp.zeroF : FaT := (0, 0, 0, 0, 0, [], 0, ())
theorem unp_loop (l : List Int) (n : Nat) (hl : l.length = 3 + 2 * n) (hn : n ≤ 100) (hw : ∀ x ∈ l, 0 ≤ x ∧ x < 4294967296) (p2 p3 p4 p5 p6 : Int) (p7 : Int × Unit) (p8 : List Int) (p9 p10 p11 p12 p13 : Int) (p14 : Int × Unit) :
   L_42_0 4611686018427387904 l 3 p2 p3 p4 p5 p6 p7 p8 p9 p10 p11 p12 p13 p14 [] = (match fnd (fun j => decide (l.getD (3 + 2 * j) 0 > 512)) n 0 with | some _ => some .e0 | none => some (.e1 p2 p3 p4 p5 p6 p7 p8 p9 p10 p11 p12 p13 p14 (Sp.unflat (l.drop 3)))) := by
 have hat : ∀ j, j < l.length → 0 ≤ l.getD j 0 ∧ l.getD j 0 < 4294967296 := by
   intro j hj
   rw [getD_at 0 hj]
   exact hw _ (List.getElem_mem hj)
 have h := find0 (fun m i => L_42_0 m l (3 + 2 * i) p2 p3 p4 p5 p6 p7 p8 p9 p10 p11 p12 p13 p14 (Sp.unflat ((l.drop 3).take (2 * i.toNat)))) (n := n) (fun j => decide (l.getD (3 + 2 * j) 0 > 512)) (ex := fun _ => some .e0) (e1 := some (.e1 p2 p3 p4 p5 p6 p7 p8 p9 p10 p11 p12 p13 p14 (Sp.unflat (l.drop 3)))) (by omega) (fun m j hj => by
   show L_42_0 (m + 1) l (3 + 2 * (j : Int)) p2 p3 p4 p5 p6 p7 p8 p9 p10 p11 p12 p13 p14 (Sp.unflat ((l.drop 3).take (2 * j))) = bif decide (l.getD (3 + 2 * j) 0 > 512) then some .e0 else L_42_0 m l (3 + 2 * ((j + 1 : Nat) : Int)) p2 p3 p4 p5 p6 p7 p8 p9 p10 p11 p12 p13 p14 (Sp.unflat ((l.drop 3).take (2 * (j + 1))))
   have hlen : (Sp.unflat ((l.drop 3).take (2 * j))).length = j := by
     refine upfl_len j _ ?_
     rw [List.length_take, List.length_drop]; omega
   rw [unflat_snoc j (l.drop 3) (by rw [List.length_drop]; omega)]
   have g1 : (l.drop 3).getD (2 * j) 0 = l.getD (3 + 2 * j) 0 := by simp [List.getD_eq_getElem?_getD]
   have g2 : (l.drop 3).getD (2 * j + 1) 0 = l.getD (3 + 2 * j + 1) 0 := by simp [List.getD_eq_getElem?_getD, Nat.add_assoc]
   rw [g1, g2]
   have b1 := hat (3 + 2 * j) (by omega)
   have b2 := hat (3 + 2 * j + 1) (by omega)
   rw [L_42_0, S_42_0, cond_dtt (by omega), gd_inB (by omega) (by omega), show (3 + 2 * (j : Int)).toNat = 3 + 2 * j by omega]
   generalize Sp.unflat ((l.drop 3).take (2 * j)) = fr at *
   by_cases hh : l.getD (3 + 2 * j) 0 > 512
   · rw [cond_dtt hh, cond_dtt hh]
   rw [cond_dff hh, cond_dff hh, gd_inB (by omega) (by omega), wi64 (n := 3 + 2 * (j : Int) + 1) (by omega) (by omega), gd_inB (by omega) (by omega), gd_room (by omega) (by omega), show (3 + 2 * (j : Int) + 1).toNat = 3 + 2 * j + 1 by omega]
   generalize l.getD (3 + 2 * j) 0 = a at *
   generalize l.getD (3 + 2 * j + 1) 0 = b at *
   rw [wi64 (n := a) (by omega) (by omega), wi64 (n := b) (by omega) (by omega), wi64 (n := a * 4294967296) (by omega) (by omega), wi64 (n := a * 4294967296 + b) (by omega) (by omega), wi64 (n := a * 4294967296 + b - 1099511627776) (by omega) (by omega), wi64 (n := 3 + 2 * (j : Int) + 2) (by omega) (by omega), show 3 + 2 * (j : Int) + 2 = 3 + 2 * ((j + 1 : Nat) : Int) by omega]) (fun m => by
   show L_42_0 (m + 1) l (3 + 2 * (n : Int)) p2 p3 p4 p5 p6 p7 p8 p9 p10 p11 p12 p13 p14 (Sp.unflat ((l.drop 3).take (2 * n))) = _
   rw [L_42_0, S_42_0, cond_dff (by omega), List.take_of_length_le (by rw [List.length_drop]; omega)])
 exact h
theorem unp_ok (l : List Int) (hw : ∀ x ∈ l, 0 ≤ x ∧ x < 4294967296) : F_42 l = some (bif Sp.cond l then (Sp.xof l, 0, ()) else (Sp.zeroF, 3, ())) := by
 have hat : ∀ j, j < l.length → 0 ≤ l.getD j 0 ∧ l.getD j 0 < 4294967296 := by
   intro j hj
   rw [getD_at 0 hj]
   exact hw _ (List.getElem_mem hj)
 unfold F_42 Sp.cond
 by_cases h1 : (l.length : Int) < 3
 · rw [cond_dtt h1, decide_eq_true h1]; rfl
 rw [cond_dff h1, decide_eq_false h1, Bool.not_false, Bool.true_and]
 have b0 := hat 0 (by omega)
 have b1 := hat 1 (by omega)
 have b2 := hat 2 (by omega)
 simp only [gd_inB (show (0 : Int) ≤ 2 by decide) (show (2 : Int) < (l.length : Nat) by omega), gd_inB (show (0 : Int) ≤ 1 by decide) (show (1 : Int) < (l.length : Nat) by omega), gd_inB (show (0 : Int) ≤ 0 by decide) (show (0 : Int) < (l.length : Nat) by omega)]
 by_cases h2 : l.getD 2 0 > 8
 · rw [cond_dtt h2, decide_eq_true h2]; rfl
 rw [cond_dff h2, decide_eq_false h2, Bool.not_false, Bool.true_and, wi64 (n := l.getD 2 0) (by omega) (by omega), wi64 (n := 2 * l.getD 2 0) (by omega) (by omega), wi64 (n := 3 + 2 * l.getD 2 0) (by omega) (by omega)]
 by_cases h3 : (l.length : Int) = 3 + 2 * l.getD 2 0
 rotate_left
 · rw [cond_ntt h3, beq_eq_false_iff_ne.2 h3]; rfl
 rw [cond_nff h3, beq_iff_eq.2 h3, Bool.true_and]
 by_cases h4 : l.getD 1 0 > 1073741824
 · rw [cond_dtt h4, decide_eq_true h4]; rfl
 rw [cond_dff h4, decide_eq_false h4, Bool.not_false, Bool.true_and, wi64 (n := l.getD 0 0) (by omega) (by omega), wi64 (n := l.getD 1 0) (by omega) (by omega)]
 by_cases h5 : Sp.andnI .i64 (Sp.andI .i64 (l.getD 0 0) 255) 22 = 0
 rotate_left
 · rw [cond_ntt h5, beq_eq_false_iff_ne.2 h5]; rfl
 rw [cond_nff h5, beq_iff_eq.2 h5, Bool.true_and, unp_loop l (l.getD 2 0).toNat (by omega) (by omega) hw]
 cases hk : fnd (fun j => decide (l.getD (3 + 2 * j) 0 > 512)) (l.getD 2 0).toNat 0 with
 | some k => rfl
 | none =>
   simp only [B_42_0, Option.isNone, Bool.true_and]
   have hx : ((Sp.andI .i64 (l.getD 0 0) 255, 0, Sp.andI .i64 (Int.fdiv (l.getD 0 0) 256) 255, Sp.andI .i64 (Int.fdiv (l.getD 0 0) 65536) 255, Int.fdiv (l.getD 0 0) 16777216, Sp.unflat (l.drop 3), l.getD 1 0, ()) : FaT) = Sp.xof l := rfl
   rw [hx, (pack_pv _).1, (pack_pv _).2, gd_tt]
   cases Sp.good (Sp.xof l) <;> rfl
theorem unp_pv (l : List Int) (hw : ∀ x ∈ l, 0 ≤ x ∧ x < 4294967296) : p_42 l = true ∧ v_42 l = (bif Sp.cond l then (Sp.xof l, 0, ()) else (Sp.zeroF, 3, ())) := pv_42 l (unp_ok l hw)
namespace Sp
noncomputable def cyc (m : MeT) : Int := if (rdk m 254).2.1 = 0 ∧ (rdk m 254).1.length = 1 ∧ (rdk m 254).1.getD 0 0 ≤ 1073741824 then (rdk m 254).1.getD 0 0 else 0
noncomputable def sto (f : FaT) : Bool := Sp.andI .i64 f.1 6 != 0
noncomputable def upk (l : List Int) : FaT × Int × Unit := bif cond l then (xof l, 0, ()) else (zeroF, 3, ())
/-- What stands for a fault in a memory, if anything that may be stored does. -/
noncomputable def lof (m : MeT) (c : CfT) (i : Nat) : Option FaT := if (rdk m i).2.1 = 0 ∧ 1 ≤ (rdk m i).1.length ∧ (rdk m i).1.getD 0 0 = c.1 ∧ (upk ((rdk m i).1.drop 1)).2.1 = 0 ∧ sto (upk ((rdk m i).1.drop 1)).1 = true then some (upk ((rdk m i).1.drop 1)).1 else none
noncomputable def lo1 (m : MeT) (cs : List CfT) (r : Int × Bool × Unit) (i : Nat) (L : List FaT) : List FaT := match lof m (cs.getD i Zd1) i with
 | some f => if vf (cs, L.set i f, r) = true then L.set i f else (L.set i f).set i zeroF
 | none => L
noncomputable def lol (m : MeT) (cs : List CfT) (r : Int × Bool × Unit) : Nat → Nat → List FaT → List FaT
 | 0, _, L => L
 | d + 1, i, L => lol m cs r d (i + 1) (lo1 m cs r i L)
noncomputable def lod (m : MeT) (l : List CfT) : FsT × Int × Unit := if mvl m = true then (if rcs l = 0 then ((l, lol m l (cyc m, false, ()) l.length 0 (replicate l.length Zd0), cyc m, false, ()), 0, ()) else (([], [], 0, false, ()), rcs l, ())) else (([], [], 0, false, ()), 1, ())
end Sp
theorem cyc_pv {m : MeT} (hw : W32f m.1) : p_40 m = true ∧ v_40 m = (Sp.cyc m, ()) := by
 have r := rdk_pv hw 254
 have b := rdk_b hw 254
 refine pv_40 m ?_
 unfold F_40 Sp.cyc
 rw [r.1, r.2, gd_tt]
 have bx := W32l.at b.1 0
 by_cases h1 : (Sp.rdk m 254).2.1 = 0
 rotate_left
 · rw [cond_ntt h1, if_neg (fun a => h1 a.1)]
 rw [cond_nff h1]
 by_cases h2 : (Sp.rdk m 254).1.length = 1
 rotate_left
 · rw [cond_ntt (by omega), if_neg (fun a => h2 a.2.1)]
 rw [cond_nff (by omega), gd_inB (by omega) (by omega)]
 by_cases h3 : (Sp.rdk m 254).1.getD 0 0 ≤ 1073741824
 · rw [cond_dff (by omega), gd_inB (by omega) (by omega), if_pos ⟨h1, h2, h3⟩, wi64 (by omega) (by omega)]
 · rw [cond_dtt (by omega), if_neg (fun a => h3 a.2.2)]
theorem unfl_le : ∀ l : List Int, (Sp.unflat l).length ≤ l.length
 | [] => Nat.le_refl _
 | [_] => Nat.zero_le _
 | a :: b :: l => by
   have := unfl_le l
   simp only [Sp.unflat, List.length_cons]
   omega
theorem upk_fr {l : List Int} (h : l.length ≤ 1000) : (Sp.upk l).1.2.2.2.2.2.1.length ≤ 1000 := by
 unfold Sp.upk
 cases Sp.cond l
 · exact Nat.zero_le _
 · have := unfl_le (l.drop 3)
   rw [List.length_drop] at this
   show (Sp.unflat (l.drop 3)).length ≤ 1000
   omega
/-- Frames are short. -/
noncomputable def FRL (L : List FaT) : Prop := ∀ f ∈ L, f.2.2.2.2.2.1.length ≤ 1000
theorem FRL.set {L : List FaT} (h : FRL L) (i : Nat) {f : FaT} (hf : f.2.2.2.2.2.1.length ≤ 1000) : FRL (L.set i f) := fun x hx => by
 rcases List.mem_or_eq_of_mem_set hx with h1 | rfl
 · exact h x h1
 · exact hf
theorem FRL.sm {F : FsT} (h : FRL F.2.1) (hl : F.2.1.length ≤ 1000) : Sm F := ⟨by omega, fun j hj => by
 have := h _ (List.getElem_mem hj)
 rw [getD_at _ hj]
 omega⟩
theorem lof_fr {m : MeT} (hw : W32f m.1) {c : CfT} {i : Nat} {f : FaT} (h : Sp.lof m c i = some f) : f.2.2.2.2.2.1.length ≤ 1000 := by
 unfold Sp.lof at h
 split at h
 · have b := rdk_b hw (i : Int)
   have := upk_fr (l := (Sp.rdk m i).1.drop 1) (by rw [List.length_drop]; omega)
   injection h with h
   rw [← h]
   exact this
 · cases h
theorem lo1_b {m : MeT} (hw : W32f m.1) (cs : List CfT) (r : Int × Bool × Unit) (i : Nat) {L : List FaT} (h : FRL L) : FRL (Sp.lo1 m cs r i L) ∧ (Sp.lo1 m cs r i L).length = L.length := by
 unfold Sp.lo1
 cases hf : Sp.lof m (cs.getD i Zd1) i with
 | none => exact ⟨h, rfl⟩
 | some f =>
   have := lof_fr hw hf
   dsimp only
   split
   · exact ⟨h.set i this, List.length_set ..⟩
   · exact ⟨(h.set i this).set i (Nat.zero_le _), by rw [List.length_set, List.length_set]⟩
theorem lol_b {m : MeT} (hw : W32f m.1) (cs : List CfT) (r : Int × Bool × Unit) : ∀ (d i : Nat) {L : List FaT}, FRL L → FRL (Sp.lol m cs r d i L) ∧ (Sp.lol m cs r d i L).length = L.length
 | 0, _, _, h => ⟨h, rfl⟩
 | d + 1, i, L, h => by
   have a := lo1_b hw cs r i h
   have b := lol_b hw cs r d (i + 1) a.1
   rw [Sp.lol]
   exact ⟨b.1, b.2.trans a.2⟩
theorem sto_pv (f : FaT) : p_43 f = true ∧ v_43 f = (Sp.sto f, ()) := pv_43 f rfl
theorem ld_l {m : MeT} (hw : W32f m.1) (cs : List CfT) (hc : cs.length ≤ 64) (r p4 : Int × Bool × Unit) (p5 : List CfT) (p6 : List FaT) : ∀ (d q i : Nat) (L : List FaT), FRL L → L.length = cs.length → i + d = cs.length → d < q →
   L_10_0 q cs cs.length i m p4 p5 p6 cs r L = some (.e0 p4 p5 p6 cs r (Sp.lol m cs r d i L)) := by
 intro d
 induction d with
 | zero =>
   intro q i L _ _ hi hq
   obtain ⟨q, rfl⟩ : ∃ k, q = k + 1 := ⟨q - 1, by omega⟩
   rw [L_10_0, S_10_0, cond_dff (by omega)]
   rfl
 | succ d ih =>
   intro q i L hL hl hi hq
   obtain ⟨q, rfl⟩ : ∃ k, q = k + 1 := ⟨q - 1, by omega⟩
   have v := rdk_pv hw (i : Int)
   have b := rdk_b hw (i : Int)
   have bx := W32l.at b.1 0
   have ab := lo1_b hw cs r i hL
   have nx := ih q (i + 1) (Sp.lo1 m cs r i L) ab.1 (ab.2.trans hl) (by omega) (by omega)
   have ei : wrap .i64 ((i : Int) + 1) = ((i + 1 : Nat) : Int) := by rw [wi64 (by omega) (by omega)]; push_cast; rfl
   rw [L_10_0, S_10_0, cond_dtt (by omega), gd_inB (by omega) (by omega), v.1, v.2, gd_tt, Int.toNat_natCast, ei, Sp.lol]
   have skip : Sp.lof m (cs.getD i Zd1) i = none → Sp.lo1 m cs r i L = L := fun h => by unfold Sp.lo1; rw [h]
   have e0 : ∀ c : CfT, Sp.lof m c i = if (Sp.rdk m i).2.1 = 0 ∧ 1 ≤ (Sp.rdk m i).1.length ∧ (Sp.rdk m i).1.getD 0 0 = c.1 ∧ (Sp.upk ((Sp.rdk m i).1.drop 1)).2.1 = 0 ∧ Sp.sto (Sp.upk ((Sp.rdk m i).1.drop 1)).1 = true then some (Sp.upk ((Sp.rdk m i).1.drop 1)).1 else none := fun c => rfl
   by_cases h1 : (Sp.rdk m i).2.1 = 0
   rotate_left
   · rw [skip (by rw [e0, if_neg (fun a => h1 a.1)])] at nx ⊢
     rw [cond_ntt h1]
     exact nx
   rw [cond_nff h1]
   by_cases h2 : 1 ≤ (Sp.rdk m i).1.length
   rotate_left
   · rw [skip (by rw [e0, if_neg (fun a => h2 a.2.1)])] at nx ⊢
     rw [cond_dtt (by omega)]
     exact nx
   rw [cond_dff (by omega), gd_inB (by omega) (by omega), wi64 (n := (Sp.rdk m i).1.getD 0 0) (by omega) (by omega)]
   by_cases h3 : (Sp.rdk m i).1.getD 0 0 = (cs.getD i Zd1).1
   rotate_left
   · rw [skip (by rw [e0, if_neg (fun a => h3 a.2.2.1)])] at nx ⊢
     rw [cond_ntt h3]
     exact nx
   have u := unp_pv ((Sp.rdk m i).1.drop 1) (fun x hx => b.1 x (List.mem_of_mem_drop hx))
   rw [show (bif Sp.cond ((Sp.rdk m i).1.drop 1) then (Sp.xof ((Sp.rdk m i).1.drop 1), 0, ()) else (Sp.zeroF, 3, ())) = Sp.upk ((Sp.rdk m i).1.drop 1) from rfl] at u
   rw [cond_nff h3, gd_sl3 (by omega) (by omega) (by omega), u.1, u.2, gd_tt]
   by_cases h4 : (Sp.upk ((Sp.rdk m i).1.drop 1)).2.1 = 0
   rotate_left
   · rw [skip (by rw [e0, if_neg (fun a => h4 a.2.2.2.1)])] at nx ⊢
     rw [cond_ntt h4]
     exact nx
   have s := sto_pv (Sp.upk ((Sp.rdk m i).1.drop 1)).1
   rw [cond_nff h4, s.1, s.2, gd_tt]
   dsimp only
   cases h5 : Sp.sto (Sp.upk ((Sp.rdk m i).1.drop 1)).1 with
   | false =>
     rw [skip (by rw [e0, if_neg (fun a => by rw [h5] at a; exact Bool.noConfusion a.2.2.2.2)])] at nx ⊢
     rw [Bool.not_false, cond_t]
     exact nx
   | true =>
   have hlo : Sp.lof m (cs.getD i Zd1) i = some (Sp.upk ((Sp.rdk m i).1.drop 1)).1 := by rw [e0, if_pos ⟨h1, h2, h3, h4, h5⟩]
   have hfr := lof_fr hw hlo
   have e1 : Sp.lo1 m cs r i L = if Sp.vf (cs, L.set i (Sp.upk ((Sp.rdk m i).1.drop 1)).1, r) = true then L.set i (Sp.upk ((Sp.rdk m i).1.drop 1)).1 else (L.set i (Sp.upk ((Sp.rdk m i).1.drop 1)).1).set i Sp.zeroF := by
     unfold Sp.lo1; rw [hlo]
   have g := vf_pv (F := (cs, L.set i (Sp.upk ((Sp.rdk m i).1.drop 1)).1, r)) (FRL.sm (hL.set i hfr) (by dsimp only; rw [List.length_set]; omega))
   rw [e1] at nx ⊢
   rw [Bool.not_true, cond_f, gd_inB (by omega) (by omega), Bool.and_true, Bool.and_true, gd_dec (by omega), g.1, g.2, gd_tt]
   dsimp only
   cases h6 : Sp.vf (cs, L.set i (Sp.upk ((Sp.rdk m i).1.drop 1)).1, r) with
   | true =>
     rw [h6, if_pos rfl] at nx
     rw [Bool.not_true, cond_f, if_pos rfl]
     exact nx
   | false =>
     rw [h6, if_neg Bool.false_ne_true] at nx
     rw [Bool.not_false, cond_t, if_neg Bool.false_ne_true, List.length_set, gd_inB (by omega) (by omega), Bool.and_true, Bool.and_true, gd_dec (by omega)]
     exact nx
theorem rcs_len {l : List CfT} (h : Sp.rcs l = 0) : l.length ≤ 64 := by
 unfold Sp.rcs at h
 by_cases c : l.length ≤ 64
 · exact c
 · rw [decide_eq_false c, cond_f] at h; cases h
theorem lod_pv {m : MeT} (hw : W32f m.1) (l : List CfT) : p_10 m l = true ∧ v_10 m l = Sp.lod m l := by
 have v := mvl_pv hw
 have n := new_pv l
 have c := cyc_pv hw
 refine pv_10 m l ?_
 unfold F_10 Sp.lod
 rw [v.1, v.2, gd_tt]
 dsimp only
 cases Sp.mvl m
 · rfl
 rw [Bool.not_true, cond_f, if_pos rfl, n.1, n.2, gd_tt]
 unfold Sp.newF
 by_cases h : Sp.rcs l = 0
 rotate_left
 · rw [cond_eff h, if_neg h, cond_ntt h]
 rw [cond_ett h, if_pos h, cond_nff rfl, c.1, c.2, gd_tt]
 dsimp only
 have fr : FRL (replicate l.length Zd0) := fun x hx => by
   rw [(List.mem_replicate.1 hx).2]; exact Nat.zero_le _
 have t := ld_l hw l (rcs_len h) (Sp.cyc m, false, ()) (0, false, ()) [] [] l.length 4611686018427387904 0 (replicate l.length Zd0) fr (List.length_replicate ..) (by omega) (by have := rcs_len h; omega)
 exact (congrArg (fun z => B_10_0 z _) t).trans rfl
theorem lod_b {m : MeT} (hw : W32f m.1) (l : List CfT) : FRL (Sp.lod m l).1.2.1 ∧ (Sp.lod m l).1.2.1.length ≤ 64 ∧ (Sp.lod m l).1.1.length ≤ 64 := by
 have z : FRL (([], [], 0, false, ()) : FsT).2.1 := fun x hx => by cases hx
 unfold Sp.lod
 split
 · split
   · rename_i h
     have fr : FRL (replicate l.length Zd0) := fun x hx => by
       rw [(List.mem_replicate.1 hx).2]; exact Nat.zero_le _
     have b := lol_b hw l (Sp.cyc m, false, ()) l.length 0 fr
     have hl := rcs_len h
     rw [List.length_replicate] at b
     exact ⟨b.1, by dsimp only; omega, hl⟩
   · exact ⟨z, Nat.zero_le _, Nat.zero_le _⟩
 · exact ⟨z, Nat.zero_le _, Nat.zero_le _⟩
set_option maxRecDepth 100000
set_option maxHeartbeats 4000000
theorem i64_mod (n : Int) : wrap .i64 n = (n + 9223372036854775808) % 18446744073709551616 - 9223372036854775808 := by
 simp [wrap, IntKind.signed, IntKind.bits]
 omega
theorem sin_pv (x l h : Int) : p_123 x l h = true ∧ v_123 x l h = ((decide (x ≥ l) && decide (x ≤ h)), ()) := by
 refine pv_123 x l h ?_
 unfold F_123
 cases decide (x ≥ l) <;> rfl
theorem rgood_pv (f : FaT) (hl : f.2.2.2.2.2.1.length ≤ 1000000) : p_88 f = true ∧ v_88 f = (Sp.good f, ()) := by
 refine pv_88 f ?_
 unfold F_88
 have hf := find0 (fun m i => L_88_0 m i f) (n := f.2.2.2.2.2.1.length) (fun j => !Sp.bval (f.2.2.2.2.2.1.getD j 0)) (ex := fun _ => some .e0) (e1 := some (.e1 f)) (by omega) (fun m j hj => by
   show L_88_0 (m + 1) (j : Int) f = bif !Sp.bval (f.2.2.2.2.2.1.getD j 0) then some .e0 else L_88_0 m ((j + 1 : Nat) : Int) f
   have s := sin_pv (f.2.2.2.2.2.1.getD j 0) (-1099511627776) 1099511627776
   rw [L_88_0, S_88_0, cond_dtt (by omega), gd_inB (by omega) (by omega), Int.toNat_natCast, s.1, s.2, gd_tt, wi64 (by omega) (by omega)]
   push_cast
   rfl) (fun m => by
   show L_88_0 (m + 1) (f.2.2.2.2.2.1.length : Int) f = _
   rw [L_88_0, S_88_0, cond_dff (by omega)])
 refine (congrArg (fun z => B_88_0 z _ _) hf).trans ?_
 unfold Sp.good Sp.bvals
 cases hq : fnd (fun j => !Sp.bval (f.2.2.2.2.2.1.getD j 0)) f.2.2.2.2.2.1.length 0 with
 | some j =>
   show some (false, ()) = _
   simp
 | none =>
   have s0 := sin_pv f.1 0 31
   have s1 := sin_pv f.2.2.1 0 2
   have s2 := sin_pv f.2.2.2.1 0 254
   have s3 := sin_pv f.2.2.2.2.1 0 255
   have s4 := sin_pv f.2.2.2.2.2.2.1 0 1073741824
   unfold B_88_0
   dsimp only
   rw [s0.1, s0.2, gd_tt, s1.1, s1.2, gd_tt, s2.1, s2.2, gd_tt, s3.1, s3.2, gd_tt, s4.1, s4.2, gd_tt]
   dsimp only
   rw [show (decide (f.1 ≥ 0) && decide (f.1 ≤ 31)) = Sp.wi f.1 31 from rfl, show (decide (f.2.2.1 ≥ 0) && decide (f.2.2.1 ≤ 2)) = Sp.wi f.2.2.1 2 from rfl, show (decide (f.2.2.2.1 ≥ 0) && decide (f.2.2.2.1 ≤ 254)) = Sp.wi f.2.2.2.1 254 from rfl, show (decide (f.2.2.2.2.1 ≥ 0) && decide (f.2.2.2.2.1 ≤ 255)) = Sp.wi f.2.2.2.2.1 255 from rfl, show (decide (f.2.2.2.2.2.2.1 ≥ 0) && decide (f.2.2.2.2.2.2.1 ≤ 1073741824)) = Sp.wi f.2.2.2.2.2.2.1 1073741824 from rfl]
   generalize decide ((f.2.2.2.2.2.1.length : Int) ≤ 8) = b0
   generalize Sp.wi f.1 31 = b1
   generalize Sp.wi f.2.2.1 2 = b2
   generalize Sp.wi f.2.2.2.1 254 = b3
   generalize Sp.wi f.2.2.2.2.1 255 = b4
   generalize Sp.wi f.2.2.2.2.2.2.1 1073741824 = b5
   cases b0 <;> cases b1 <;> cases b2 <;> cases b3 <;> cases b4 <;> cases b5 <;> rfl
namespace Sp
noncomputable def rvl (a b : Int) : Int := wrap .i64 (wrap .i64 (wrap .i64 (a * 4294967296) + b) - 1099511627776)
noncomputable def rfr (l : List Int) (n : Nat) : List Int := (List.range n).map fun j => rvl (l.getD (3 + 2 * j) 0) (l.getD (3 + 2 * j + 1) 0)
end Sp
theorem rvl_lo {a b : Int} (h0 : 0 ≤ a) (h1 : a ≤ 512) (h2 : 0 ≤ b) (h3 : b < 4294967296) : Sp.rvl a b = a * 4294967296 + b - 1099511627776 := by
 unfold Sp.rvl
 rw [wi64 (n := a * 4294967296) (by omega) (by omega), wi64 (n := a * 4294967296 + b) (by omega) (by omega), wi64 (by omega) (by omega)]
theorem rvl_hi {a b : Int} (h0 : 512 < a) (h1 : a < 4294967296) (h2 : 0 ≤ b) (h3 : b < 4294967296) : ¬ (-1099511627776 ≤ Sp.rvl a b ∧ Sp.rvl a b ≤ 1099511627776) := by
 unfold Sp.rvl
 rw [i64_mod, i64_mod, i64_mod]
 omega
theorem rfr_len (l : List Int) (n : Nat) : (Sp.rfr l n).length = n := by simp [Sp.rfr]
theorem rfr_succ (l : List Int) (n : Nat) : Sp.rfr l (n + 1) = Sp.rfr l n ++ [Sp.rvl (l.getD (3 + 2 * n) 0) (l.getD (3 + 2 * n + 1) 0)] := by simp [Sp.rfr, List.range_succ]
theorem rfr_unf {l : List Int} (hw : ∀ x ∈ l, 0 ≤ x ∧ x < 4294967296) {n : Nat} (hl : l.length = 3 + 2 * n) (hs : ∀ j, j < n → l.getD (3 + 2 * j) 0 ≤ 512) : ∀ k, k ≤ n → Sp.rfr l k = Sp.unflat ((l.drop 3).take (2 * k))
 | 0, _ => rfl
 | k + 1, hk => by
   have hat : ∀ j, j < l.length → 0 ≤ l.getD j 0 ∧ l.getD j 0 < 4294967296 := by
     intro j hj
     rw [getD_at 0 hj]
     exact hw _ (List.getElem_mem hj)
   have g1 : (l.drop 3).getD (2 * k) 0 = l.getD (3 + 2 * k) 0 := by simp [List.getD_eq_getElem?_getD]
   have g2 : (l.drop 3).getD (2 * k + 1) 0 = l.getD (3 + 2 * k + 1) 0 := by simp [List.getD_eq_getElem?_getD, Nat.add_assoc]
   have b1 := hat (3 + 2 * k) (by omega)
   have b2 := hat (3 + 2 * k + 1) (by omega)
   rw [rfr_succ, rfr_unf hw hl hs k (by omega), unflat_snoc k (l.drop 3) (by rw [List.length_drop]; omega), g1, g2, rvl_lo b1.1 (hs k (by omega)) b2.1 b2.2]
theorem runp_loop (l : List Int) (n : Nat) (hl : l.length = 3 + 2 * n) (hn : n ≤ 100) (hw : ∀ x ∈ l, 0 ≤ x ∧ x < 4294967296) (p2 p3 p4 p5 p6 : Int) (p7 : Int × Unit) (p8 : List Int) (p9 p10 p11 p12 p13 : Int) (p14 : Int × Unit) :
   L_52_0 4611686018427387904 l 3 p2 p3 p4 p5 p6 p7 p8 p9 p10 p11 p12 p13 p14 [] = some (.e0 p2 p3 p4 p5 p6 p7 p8 p9 p10 p11 p12 p13 p14 (Sp.rfr l n)) := by
 have hat : ∀ j, j < l.length → 0 ≤ l.getD j 0 ∧ l.getD j 0 < 4294967296 := by
   intro j hj
   rw [getD_at 0 hj]
   exact hw _ (List.getElem_mem hj)
 have h := run0 (fun m i acc => L_52_0 m l (3 + 2 * i) p2 p3 p4 p5 p6 p7 p8 p9 p10 p11 p12 p13 p14 acc) (n := n) (fun j => Sp.rfr l j) (r := some (.e0 p2 p3 p4 p5 p6 p7 p8 p9 p10 p11 p12 p13 p14 (Sp.rfr l n))) (by omega) (fun m j hj => by
   show L_52_0 (m + 1) l (3 + 2 * (j : Int)) p2 p3 p4 p5 p6 p7 p8 p9 p10 p11 p12 p13 p14 (Sp.rfr l j) = L_52_0 m l (3 + 2 * ((j + 1 : Nat) : Int)) p2 p3 p4 p5 p6 p7 p8 p9 p10 p11 p12 p13 p14 (Sp.rfr l (j + 1))
   have b1 := hat (3 + 2 * j) (by omega)
   have b2 := hat (3 + 2 * j + 1) (by omega)
   rw [L_52_0, S_52_0, cond_dtt (by omega), gd_inB (by omega) (by omega), wi64 (n := 3 + 2 * (j : Int) + 1) (by omega) (by omega), gd_inB (by omega) (by omega), rfr_len, gd_room (by omega) (by omega), show (3 + 2 * (j : Int)).toNat = 3 + 2 * j by omega, show (3 + 2 * (j : Int) + 1).toNat = 3 + 2 * j + 1 by omega, rfr_succ, wi64 (n := l.getD (3 + 2 * j) 0) (by omega) (by omega), wi64 (n := l.getD (3 + 2 * j + 1) 0) (by omega) (by omega), wi64 (n := 3 + 2 * (j : Int) + 2) (by omega) (by omega), show 3 + 2 * (j : Int) + 2 = 3 + 2 * ((j + 1 : Nat) : Int) by omega]
   rfl) (fun m => by
   show L_52_0 (m + 1) l (3 + 2 * (n : Int)) p2 p3 p4 p5 p6 p7 p8 p9 p10 p11 p12 p13 p14 (Sp.rfr l n) = _
   rw [L_52_0, S_52_0, cond_dff (by omega)])
 exact h
theorem st_fwd {s : Int} (h0 : 0 ≤ s) (h1 : s ≤ 255) (h : Sp.andI .i64 s 22 = s) : Sp.andnI .i64 s 22 = 0 := by
 have := btab (fun s => decide (Sp.andI .i64 s 22 = s → Sp.andnI .i64 s 22 = 0)) 256 (by decide +kernel) h0 (by omega)
 exact of_decide_eq_true this h
theorem runp_ok (l : List Int) (hw : ∀ x ∈ l, 0 ≤ x ∧ x < 4294967296) (hln : l.length ≤ 1000) : F_52 l = some (bif Sp.cond l then (Sp.xof l, true, ()) else (Sp.zeroF, false, ())) := by
 have hat : ∀ j, j < l.length → 0 ≤ l.getD j 0 ∧ l.getD j 0 < 4294967296 := by
   intro j hj
   rw [getD_at 0 hj]
   exact hw _ (List.getElem_mem hj)
 unfold F_52 Sp.cond
 by_cases h1 : (l.length : Int) < 3
 · rw [cond_dtt h1, decide_eq_true h1]; rfl
 rw [cond_dff h1, decide_eq_false h1, Bool.not_false, Bool.true_and]
 have b0 := hat 0 (by omega)
 have b1 := hat 1 (by omega)
 have b2 := hat 2 (by omega)
 simp only [gd_inB (show (0 : Int) ≤ 2 by decide) (show (2 : Int) < (l.length : Nat) by omega), gd_inB (show (0 : Int) ≤ 1 by decide) (show (1 : Int) < (l.length : Nat) by omega), gd_inB (show (0 : Int) ≤ 0 by decide) (show (0 : Int) < (l.length : Nat) by omega)]
 by_cases h2 : l.getD 2 0 > 8
 · rw [cond_dtt h2, decide_eq_true h2]; rfl
 rw [cond_dff h2, decide_eq_false h2, Bool.not_false, Bool.true_and, wi64 (n := l.getD 2 0) (by omega) (by omega), wi64 (n := 2 * l.getD 2 0) (by omega) (by omega), wi64 (n := 3 + 2 * l.getD 2 0) (by omega) (by omega)]
 by_cases h3 : (l.length : Int) = 3 + 2 * l.getD 2 0
 rotate_left
 · rw [cond_ntt h3, beq_eq_false_iff_ne.2 h3]; rfl
 rw [cond_nff h3, beq_iff_eq.2 h3, Bool.true_and, wi64 (n := l.getD 0 0) (by omega) (by omega), wi64 (n := l.getD 1 0) (by omega) (by omega)]
 have f1 : Int.fdiv (l.getD 0 0) 256 = l.getD 0 0 / 256 := Int.fdiv_eq_ediv_of_nonneg _ (by decide)
 have f2 : Int.fdiv (l.getD 0 0) 65536 = l.getD 0 0 / 65536 := Int.fdiv_eq_ediv_of_nonneg _ (by decide)
 have t0 : Int.tmod (l.getD 0 0) 256 = Sp.andI .i64 (l.getD 0 0) 255 := by rw [and_255 b0.1 (by omega), Int.tmod_eq_emod_of_nonneg b0.1]
 have t1 : Int.tmod (Int.fdiv (l.getD 0 0) 256) 256 = Sp.andI .i64 (Int.fdiv (l.getD 0 0) 256) 255 := by rw [f1, and_255 (by omega) (by omega), Int.tmod_eq_emod_of_nonneg (by omega)]
 have t2 : Int.tmod (Int.fdiv (l.getD 0 0) 65536) 256 = Sp.andI .i64 (Int.fdiv (l.getD 0 0) 65536) 255 := by rw [f2, and_255 (by omega) (by omega), Int.tmod_eq_emod_of_nonneg (by omega)]
 have x0 : 0 ≤ Sp.andI .i64 (l.getD 0 0) 255 ∧ Sp.andI .i64 (l.getD 0 0) 255 ≤ 255 := by rw [and_255 b0.1 (by omega)]; omega
 rw [t0, t1, t2, runp_loop l (l.getD 2 0).toNat (by omega) (by omega) hw]
 unfold B_52_0
 dsimp only
 by_cases h5 : Sp.andnI .i64 (Sp.andI .i64 (l.getD 0 0) 255) 22 = 0
 rotate_left
 · have : Sp.andI .i64 (Sp.andI .i64 (l.getD 0 0) 255) 22 ≠ Sp.andI .i64 (l.getD 0 0) 255 := fun z => h5 (st_fwd x0.1 x0.2 z)
   rw [cond_ntt this, beq_eq_false_iff_ne.2 h5, Bool.false_and, Bool.and_false]
   rfl
 have s5 := st_back x0.1 x0.2 h5
 rw [cond_nff s5, beq_iff_eq.2 h5, Bool.true_and]
 have rg := rgood_pv (Sp.andI .i64 (l.getD 0 0) 255, 0, Sp.andI .i64 (Int.fdiv (l.getD 0 0) 256) 255, Sp.andI .i64 (Int.fdiv (l.getD 0 0) 65536) 255, Int.fdiv (l.getD 0 0) 16777216, Sp.rfr l (l.getD 2 0).toNat, l.getD 1 0, ()) (by dsimp only; rw [rfr_len]; omega)
 rw [rg.1, rg.2, gd_tt]
 dsimp only
 cases hk : fnd (fun j => decide (l.getD (3 + 2 * j) 0 > 512)) (l.getD 2 0).toNat 0 with
 | some k =>
   have hs := fnd_some hk
   have hk1 : k < (l.getD 2 0).toNat := by have := hs.2.1; omega
   have hk2 : l.getD (3 + 2 * k) 0 > 512 := of_decide_eq_true hs.2.2.1
   have c1 := hat (3 + 2 * k) (by omega)
   have c2 := hat (3 + 2 * k + 1) (by omega)
   have ng : Sp.good (Sp.andI .i64 (l.getD 0 0) 255, 0, Sp.andI .i64 (Int.fdiv (l.getD 0 0) 256) 255, Sp.andI .i64 (Int.fdiv (l.getD 0 0) 65536) 255, Int.fdiv (l.getD 0 0) 16777216, Sp.rfr l (l.getD 2 0).toNat, l.getD 1 0, ()) = false := by
     rw [Bool.eq_false_iff]
     intro z
     have := (good_iff.1 z).2.2.2.2.2.2 (Sp.rvl (l.getD (3 + 2 * k) 0) (l.getD (3 + 2 * k + 1) 0)) (by
       unfold Sp.rfr
       exact List.mem_map.2 ⟨k, List.mem_range.2 hk1, rfl⟩)
     exact rvl_hi hk2 c1.2 c2.1 c2.2 this
   rw [ng, Bool.not_false, cond_t, Option.isNone_some, Bool.false_and, Bool.and_false]
   rfl
 | none =>
   have hs : ∀ j, j < (l.getD 2 0).toNat → l.getD (3 + 2 * j) 0 ≤ 512 := fun j hj => by
     have := of_decide_eq_false (fnd_none.1 hk j (by omega) (by omega))
     omega
   have e : Sp.rfr l (l.getD 2 0).toNat = Sp.unflat (l.drop 3) := by
     rw [rfr_unf hw (n := (l.getD 2 0).toNat) (by omega) hs _ (Nat.le_refl _), List.take_of_length_le (by rw [List.length_drop]; omega)]
   have hx : ((Sp.andI .i64 (l.getD 0 0) 255, 0, Sp.andI .i64 (Int.fdiv (l.getD 0 0) 256) 255, Sp.andI .i64 (Int.fdiv (l.getD 0 0) 65536) 255, Int.fdiv (l.getD 0 0) 16777216, Sp.unflat (l.drop 3), l.getD 1 0, ()) : FaT) = Sp.xof l := rfl
   rw [e, hx, Option.isNone_none, Bool.true_and]
   by_cases h4 : l.getD 1 0 > 1073741824
   · have ng : Sp.good (Sp.xof l) = false := by
       rw [Bool.eq_false_iff]
       intro z
       have := (good_iff.1 z).2.2.2.2.1.2
       have : l.getD 1 0 ≤ 1073741824 := this
       omega
     rw [ng, decide_eq_true h4]
     rfl
   · rw [decide_eq_false h4, Bool.not_false, Bool.true_and]
     cases Sp.good (Sp.xof l) <;> rfl
theorem runp_pv {l : List Int} (hw : ∀ x ∈ l, 0 ≤ x ∧ x < 4294967296) (hln : l.length ≤ 1000) : p_52 l = true ∧ v_52 l = (bif Sp.cond l then (Sp.xof l, true, ()) else (Sp.zeroF, false, ())) := pv_52 l (runp_ok l hw hln)
set_option maxRecDepth 100000
set_option maxHeartbeats 4000000
theorem rlife_pv (n : Int) : p_68 n = true ∧ v_68 n = (decide (1 ≤ n) && decide (n ≤ 1000000), ()) := by
 refine pv_68 n ?_
 unfold F_68
 by_cases h : n ≥ 1
 · rw [cond_dtt h, decide_eq_true (p := 1 ≤ n) h, Bool.true_and]
 · rw [cond_dff h, decide_eq_false (p := 1 ≤ n) h, Bool.false_and]
theorem rfv_ok (f : FlT) : F_27 f = some (Sp.fv f, ()) := by
 unfold F_27 Sp.fv
 by_cases h1 : (f.2.1.length : Int) < 1
 · rw [cond_dtt h1, decide_eq_false (by omega)]; rfl
 rw [cond_dff h1, decide_eq_true (p := 1 ≤ f.2.1.length) (by omega), Bool.true_and]
 by_cases h2 : (f.2.1.length : Int) > 64
 · rw [cond_dtt h2, decide_eq_false (by omega)]; rfl
 rw [cond_dff h2, decide_eq_true (p := f.2.1.length ≤ 64) (by omega), Bool.true_and, wi64 (by omega) (by omega)]
 by_cases h3 : (f.1.length : Int) = (f.2.1.length : Int) * 64
 rotate_left
 · rw [cond_ntt h3, decide_eq_false (p := f.1.length = _) (by omega)]; rfl
 rw [cond_nff h3, decide_eq_true (p := f.1.length = _) (by omega), Bool.true_and, (rlife_pv f.2.2.1).1, (rlife_pv f.2.2.1).2, gd_tt]
 by_cases h4 : f.2.2.1 < 1
 · rw [decide_eq_false (p := 1 ≤ f.2.2.1) (by omega)]; rfl
 rw [decide_eq_true (p := 1 ≤ f.2.2.1) (by omega), Bool.true_and, Bool.true_and]
 by_cases h5 : f.2.2.1 > 1000000
 · rw [decide_eq_false (p := f.2.2.1 ≤ 1000000) (by omega)]; rfl
 rw [decide_eq_true (p := f.2.2.1 ≤ 1000000) (by omega), Bool.true_and, show (!(true, ()).1) = false from rfl, cond_f]
 have hf := find0 (fun m i => L_27_0 m f.2.1.length i f) (n := f.2.1.length) (Sp.wb f) (ex := fun j => some .e0) (e1 := some .e1) (by omega) (fun m j hj => by
   show L_27_0 (m + 1) f.2.1.length j f = bif Sp.wb f j then some .e0 else L_27_0 m f.2.1.length ((j + 1 : Nat) : Int) f
   rw [L_27_0, S_27_0, cond_dtt (by omega), gd_inB (by omega) (by omega), gd_inB (by omega) (by omega), Int.toNat_natCast, wi64 (by omega) (by omega)]
   unfold Sp.wb
   push_cast
   cases decide (f.2.1.getD j 0 < 0) <;> cases decide (f.2.1.getD j 0 > f.2.2.1) <;> rfl) (fun m => by
   show L_27_0 (m + 1) f.2.1.length f.2.1.length f = _
   rw [L_27_0, S_27_0, cond_dff (by omega)])
 have e1 : L_27_0 4611686018427387904 f.2.1.length 0 f = _ := hf
 rw [e1]
 cases fnd (Sp.wb f) f.2.1.length 0 <;> rfl
theorem rpair_pv {n : Int} (h0 : 0 ≤ n) (h1 : n < 65536) : p_136 n = true ∧ v_136 n = (Sp.prw n, ()) := by
 refine pv_136 n ?_
 obtain ⟨k, rfl⟩ := Int.eq_ofNat_of_zero_le h0
 unfold F_136 Sp.prw
 rw [wi64 (n := 65535 - (k : Int)) (by omega) (by omega), u32_wrap_nat (by omega), show (k : Int) * 65536 = ((k * 65536 : Nat) : Int) from (Int.natCast_mul k 65536).symm, u32_wrap_nat (by omega), show 65535 - (k : Int) = ((65535 - k : Nat) : Int) by omega, u32_wrap_nat (by omega), orU_nat (by omega) (by omega), show k * 65536 = k * 2 ^ 16 from rfl, or_add 16 (by omega)]
 congr 2
theorem rnum_pv {w : Int} (h0 : 0 ≤ w) (h1 : w < 4294967296) : p_121 w = true ∧ v_121 w = ((Sp.nmb w).1, (Sp.nmb w).2, ()) := by
 refine pv_121 w ?_
 unfold F_121
 have e : Int.fdiv w 65536 = w / 65536 := Int.fdiv_eq_ediv_of_nonneg _ (by decide)
 rw [e, wi64 (by omega) (by omega), (rpair_pv (n := w / 65536) (by omega) (by omega)).1, (rpair_pv (n := w / 65536) (by omega) (by omega)).2, gd_tt]
 rfl
theorem rplc_pv (f : FlT) (a n : Int) (h : f.2.1.length ≤ 1000000) : p_49 f a n = true ∧ v_49 f a n = (Sp.plc (f, a, n, ()), ()) := by
 refine pv_49 f a n ?_
 unfold F_49 Sp.plc
 dsimp only
 by_cases h1 : 2 ≤ n
 rotate_left
 · rw [cond_dtt (by omega), decide_eq_false h1]; rfl
 rw [cond_dff (by omega), decide_eq_true h1, Bool.true_and]
 by_cases h2 : n ≤ 16
 rotate_left
 · rw [cond_dtt (by omega), decide_eq_false h2]; rfl
 rw [cond_dff (by omega), decide_eq_true h2, Bool.true_and, Int.tmod_eq_emod_of_nonneg (by omega), wi64 (by omega) (by omega)]
 by_cases h3 : n % 2 = 0
 rotate_left
 · rw [cond_ntt h3, beq_eq_false_iff_ne.2 h3]; rfl
 rw [cond_nff h3, beq_iff_eq.2 h3, Bool.true_and]
 by_cases h4 : 0 ≤ a
 · rw [cond_dff (by omega), decide_eq_true h4, Bool.true_and]
 · rw [cond_dtt (by omega), decide_eq_false h4]; rfl
theorem rsz_pv {m : MeT} (hv : Sp.fv m.1 = true) (hp : Sp.plc m = true) : p_101 m = true ∧ v_101 m = ((Sp.hsz m : Int), ()) := by
 obtain ⟨p1, p2, p3, p4, p5⟩ := plc_iff.1 hp
 have b := pl_b hv hp
 refine pv_101 m ?_
 unfold F_101
 rw [wi64 (n := 64 * m.2.2.1) (by omega) (by omega), Int.tdiv_eq_ediv_of_nonneg (by omega), wi64 (by omega) (by omega), b.2.2.2.2.2.1]
 congr 2
 omega
theorem rbs_pv {m : MeT} (hv : Sp.fv m.1 = true) (hp : Sp.plc m = true) {k : Nat} (hk : k < 2) : p_103 m k = true ∧ v_103 m k = ((Sp.hbs m k : Int), ()) := by
 obtain ⟨p1, p2, p3, p4, p5⟩ := plc_iff.1 hp
 have v := fv_iff.1 hv
 have b := pl_b hv hp
 have bk := pl_k hv hp hk
 have s := rsz_pv hv hp
 refine pv_103 m k ?_
 unfold F_103
 rw [s.1, s.2, gd_tt]
 dsimp only
 have e2 : 0 ≤ (k : Int) * (Sp.hsz m : Int) ∧ (k : Int) * (Sp.hsz m : Int) ≤ 512 ∧ (k : Int) * (Sp.hsz m : Int) = (k : Int) * (32 * m.2.2.1) := by
   match k, hk with
   | 0, _ => simp
   | 1, _ => simp; omega
 rw [wi64 (n := 64 * m.2.1) (by omega) (by omega), wi64 (n := (k : Int) * (Sp.hsz m : Int)) (by omega) (by omega), bk.2, wi64 (by omega) (by omega), e2.2.2]
theorem hwr_at {m : MeT} (hv : Sp.fv m.1 = true) (hp : Sp.plc m = true) {k : Nat} (hk : k < 2) {i : Nat} (hi : i < Sp.hsz m) : m.1.1.getD (Sp.hbs m k + i) 0 = (Sp.hwr m k).getD i 0 := by
 unfold Sp.hwr
 rw [List.getD_eq_getElem?_getD, List.getD_eq_getElem?_getD, List.getElem?_take, if_pos hi, List.getElem?_drop]
theorem rwd_pv {m : MeT} (hv : Sp.fv m.1 = true) (hp : Sp.plc m = true) {k : Nat} (hk : k < 2) {i : Nat} (hi : i < Sp.hsz m) : p_122 m k i = true ∧ v_122 m k i = ((Sp.hwr m k).getD i 0, ()) := by
 have b := pl_b hv hp
 have bk := pl_k hv hp hk
 have s := rbs_pv hv hp hk
 refine pv_122 m k i ?_
 unfold F_122
 rw [s.1, s.2, gd_tt]
 dsimp only
 rw [wi64 (by omega) (by omega), show (Sp.hbs m k : Int) + (i : Int) = ((Sp.hbs m k + i : Nat) : Int) by push_cast; rfl, gd_inB (by omega) (by omega), Int.toNat_natCast, hwr_at hv hp hk hi]
theorem rgn_pv {m : MeT} (hw : W32f m.1) (hv : Sp.fv m.1 = true) (hp : Sp.plc m = true) {k : Nat} (hk : k < 2) : p_86 m k = true ∧ v_86 m k = (Sp.gnr m k, ()) := by
 have b := pl_b hv hp
 have w := rwd_pv hv hp hk (i := 0) (by omega)
 have w : p_122 m k 0 = true ∧ v_122 m k 0 = ((Sp.hwr m k).getD 0 0, ()) := w
 have h0 := (hw.half k).at 0
 have n := rnum_pv h0.1 h0.2
 refine pv_86 m k ?_
 unfold F_86 Sp.gnr
 rw [w.1, w.2, gd_tt, n.1, n.2, gd_tt]
 dsimp only
 cases (Sp.nmb ((Sp.hwr m k).getD 0 0)).2 <;> rfl
namespace Sp
noncomputable def rac (m : MeT) : Int := if acb m = true then (acv m : Int) else -1
end Sp
theorem rac_pv {m : MeT} (hw : W32f m.1) (hv : Sp.fv m.1 = true) (hp : Sp.plc m = true) : p_50 m = true ∧ v_50 m = (Sp.rac m, ()) := by
 have g0 := rgn_pv hw hv hp (k := 0) (by decide)
 have g1 := rgn_pv hw hv hp (k := 1) (by decide)
 have g0 : p_86 m 0 = true ∧ v_86 m 0 = (Sp.gnr m 0, ()) := g0
 have g1 : p_86 m 1 = true ∧ v_86 m 1 = (Sp.gnr m 1, ()) := g1
 have b0 := gnr_b hw 0
 have b1 := gnr_b hw 1
 refine pv_50 m ?_
 unfold F_50 Sp.rac Sp.acv Sp.acb
 rw [g0.1, g0.2, gd_tt, g1.1, g1.2, gd_tt]
 dsimp only
 by_cases h0 : Sp.gnr m 0 = 0
 · rw [cond_ett h0]
   by_cases h1 : Sp.gnr m 1 = 0
   · rw [cond_ett h1, decide_eq_false (p := Sp.gnr m 1 > Sp.gnr m 0) (by omega), decide_eq_false (p := Sp.gnr m 0 > 0) (by omega)]
     rfl
   · rw [cond_eff h1, cond_dtt (by omega), decide_eq_true (p := Sp.gnr m 1 > Sp.gnr m 0) (by omega)]
     rfl
 · rw [cond_eff h0]
   by_cases h1 : Sp.gnr m 1 > Sp.gnr m 0
   · rw [cond_dtt h1, decide_eq_true h1]; rfl
   · rw [cond_dff h1, decide_eq_false h1, decide_eq_true (p := Sp.gnr m 0 > 0) (by omega)]; rfl
theorem rmv_pv {m : MeT} (hw : W32f m.1) : p_13 m = true ∧ v_13 m = (Sp.mvl m, ()) := by
 have v := pv_27 _ (rfv_ok m.1)
 refine pv_13 m ?_
 unfold F_13 Sp.mvl
 rw [v.1, v.2, gd_tt]
 dsimp only
 cases hv : Sp.fv m.1
 · rfl
 have hl := fv_iff.1 hv
 have p := rplc_pv m.1 m.2.1 m.2.2.1 (by omega)
 rw [cond_t, p.1, p.2, gd_tt]
 show (bif Sp.plc m then _ else _) = _
 cases hp : Sp.plc m
 · rfl
 have a := rac_pv hw hv hp
 rw [cond_t, a.1, a.2, gd_tt]
 dsimp only
 unfold Sp.rac
 cases Sp.acb m
 · rfl
 · rw [if_pos rfl, decide_eq_true (by omega)]; rfl
set_option maxRecDepth 100000
set_option maxHeartbeats 4000000
theorem rky_pv (k : Int) : p_134 k = true ∧ v_134 k = ((decide (0 ≤ k) && decide (k ≤ 254)), ()) := by
 refine pv_134 k ?_
 unfold F_134
 by_cases h : k ≥ 0
 · rw [cond_dtt h, decide_eq_true (p := 0 ≤ k) h, Bool.true_and]
 · rw [cond_dff h, decide_eq_false (p := 0 ≤ k) h, Bool.false_and]
theorem rsum_l {l : List Int} (hw : W32l l) (hl : l.length < 1000000) : ∀ (d m j : Nat) (s : Int), 0 ≤ s → s < 65536 → j + d = l.length → d < m → L_135_0 m l s j = some (.e0 ((l.drop j).foldl Sp.stp s)) := by
 intro d
 induction d with
 | zero =>
   intro m j s _ _ hj hm
   obtain ⟨m, rfl⟩ : ∃ k, m = k + 1 := ⟨m - 1, by omega⟩
   rw [L_135_0, S_135_0, cond_dff (by omega), List.drop_of_length_le (by omega)]
   rfl
 | succ d ih =>
   intro m j s h0 h1 hj hm
   obtain ⟨m, rfl⟩ : ∃ k, m = k + 1 := ⟨m - 1, by omega⟩
   have hx := hw.at j
   have e : Int.fdiv (l.getD j 0) 65536 = l.getD j 0 / 65536 := Int.fdiv_eq_ediv_of_nonneg _ (by decide)
   have e2 : Int.tmod (l.getD j 0) 65536 = l.getD j 0 % 65536 := Int.tmod_eq_emod_of_nonneg hx.1
   have e3 : l.drop j = l.getD j 0 :: l.drop (j + 1) := by
     have hj' : j < l.length := by omega
     rw [List.drop_eq_getElem_cons hj', List.getD_eq_getElem?_getD, List.getElem?_eq_getElem hj']; rfl
   have r := ih m (j + 1) (Sp.stp s (l.getD j 0)) (by unfold Sp.stp; omega) (by unfold Sp.stp; omega) (by omega) (by omega)
   rw [L_135_0, S_135_0, cond_dtt (by omega), gd_inB (by omega) (by omega), gd_inB (by omega) (by omega), Int.toNat_natCast, e, e2, e3, List.foldl_cons]
   generalize l.getD j 0 = x at *
   rw [wi64 (n := 31 * s) (by omega) (by omega), wi64 (n := x / 65536) (by omega) (by omega), wi64 (n := 31 * s + x / 65536) (by omega) (by omega), wi64 (n := x % 65536) (by omega) (by omega), wi64 (n := 7 * (x % 65536)) (by omega) (by omega), wi64 (n := 31 * s + x / 65536 + 7 * (x % 65536)) (by omega) (by omega), Int.tmod_eq_emod_of_nonneg (by omega), wi64 (by omega) (by omega), show (j : Int) + 1 = ((j + 1 : Nat) : Int) by push_cast; rfl]
   exact r
theorem rsum_pv {l : List Int} (hw : W32l l) (hl : l.length < 1000000) : p_135 l = true ∧ v_135 l = (Sp.smw l, ()) := by
 refine pv_135 l ?_
 unfold F_135
 have := rsum_l hw hl l.length 4611686018427387904 0 0 (by decide) (by decide) (by omega) (by omega)
 rw [List.drop_zero] at this
 exact (congrArg (fun z => B_135_0 z _) this).trans rfl
/-- Entries ascending by their keys. -/
noncomputable def Asc (es : List EnT) : Prop := ∀ i j, i < j → j < es.length → (es.getD i Sp.dE).1 < (es.getD j Sp.dE).1
theorem bsl_at {es : List EnT} (h : Asc es) (key : Int) : ∀ (f lo hi : Nat), hi - lo ≤ f → lo ≤ hi → hi ≤ es.length → (∀ i, i < lo → (es.getD i Sp.dE).1 < key) → (∀ i, hi ≤ i → i < es.length → key ≤ (es.getD i Sp.dE).1) →
   (∀ i, i < Sp.bsl es key f lo hi → (es.getD i Sp.dE).1 < key) ∧ (∀ i, Sp.bsl es key f lo hi ≤ i → i < es.length → key ≤ (es.getD i Sp.dE).1)
 | 0, lo, hi, h0, h1, h2, ha, hb => by
   have : lo = hi := by omega
   subst this
   exact ⟨ha, hb⟩
 | f + 1, lo, hi, h0, h1, h2, ha, hb => by
   rw [Sp.bsl]
   split
   · split
     · rename_i c
       refine bsl_at h key f _ hi (by omega) (by omega) h2 (fun i hi2 => ?_) hb
       by_cases e : i = (lo + hi) / 2
       · rw [e]; exact c
       · have := h i ((lo + hi) / 2) (by omega) (by omega)
         omega
     · rename_i c
       refine bsl_at h key f lo _ (by omega) (by omega) (by omega) ha (fun i h3 h4 => ?_)
       by_cases e : i = (lo + hi) / 2
       · rw [e]; omega
       · have := h ((lo + hi) / 2) i (by omega) h4
         omega
   · have : lo = hi := by omega
     subst this
     exact ⟨ha, hb⟩
theorem plE_at {es : List EnT} (h : Asc es) (key : Int) : (∀ i, i < Sp.plE es key → (es.getD i Sp.dE).1 < key) ∧ (∀ i, Sp.plE es key ≤ i → i < es.length → key ≤ (es.getD i Sp.dE).1) :=
 bsl_at h key es.length 0 es.length (by omega) (Nat.zero_le _) (Nat.le_refl _) (fun i hi => by omega) (fun i h1 h2 => by omega)
/-- How many entries a new one takes the place of. -/
noncomputable def skE (es : List EnT) (key : Int) : Nat := if Sp.plE es key < es.length ∧ (es.getD (Sp.plE es key) Sp.dE).1 = key then 1 else 0
theorem putE_eq (es : List EnT) (key : Int) (data : List Int) : Sp.putE es key data = es.take (Sp.plE es key) ++ ([(key, data, ())] ++ es.drop (Sp.plE es key + skE es key)) := by
 unfold Sp.putE skE
 split
 · rename_i c
   rw [List.set_eq_take_append_cons_drop, if_pos c.1]
   rfl
 · rw [Nat.add_zero]
theorem putE_get (es : List EnT) (key : Int) (data : List Int) (i : Nat) : ((Sp.putE es key data).getD i Sp.dE).1 = if i < Sp.plE es key then (es.getD i Sp.dE).1 else if i = Sp.plE es key then key else (es.getD (i - 1 + skE es key) Sp.dE).1 := by
 have hp := plE_le es key
 have tl : (es.take (Sp.plE es key)).length = Sp.plE es key := by rw [List.length_take]; omega
 rw [putE_eq, List.getD_eq_getElem?_getD, List.getD_eq_getElem?_getD, List.getD_eq_getElem?_getD, List.getElem?_append, tl]
 split
 · rename_i c
   rw [List.getElem?_take, if_pos c]
 · rename_i c
   rw [List.singleton_append]
   obtain ⟨d, rfl⟩ : ∃ d, i = Sp.plE es key + d := ⟨i - Sp.plE es key, by omega⟩
   rw [Nat.add_sub_cancel_left]
   cases d with
   | zero => rw [List.getElem?_cons_zero, if_pos (show Sp.plE es key + 0 = Sp.plE es key from rfl)]; rfl
   | succ d => rw [List.getElem?_cons_succ, List.getElem?_drop, if_neg (by omega), show Sp.plE es key + (d + 1) - 1 + skE es key = Sp.plE es key + skE es key + d by omega]
theorem putE_ln (es : List EnT) (key : Int) (data : List Int) : (Sp.putE es key data).length = es.length + 1 - skE es key := by
 have hp := plE_le es key
 have : Sp.plE es key + skE es key ≤ es.length := by unfold skE; split <;> omega
 rw [putE_eq, List.length_append, List.length_append, List.length_take, List.length_drop, List.length_singleton]; omega
theorem Asc.put {es : List EnT} (h : Asc es) (key : Int) (data : List Int) : Asc (Sp.putE es key data) := by
 have hp := plE_le es key
 have ha := plE_at h key
 intro i j hij hj
 rw [putE_ln] at hj
 rw [putE_get, putE_get]
 have hs : Sp.plE es key + skE es key ≤ es.length := by unfold skE; split <;> omega
 have hgt : ∀ k, Sp.plE es key + skE es key ≤ k → k < es.length → key < (es.getD k Sp.dE).1 := fun k h1 h2 => by
   have h3 := ha.2 k (by omega) h2
   unfold skE at h1
   split at h1
   · rename_i c
     have := h (Sp.plE es key) k (by omega) h2
     omega
   · rename_i c
     by_cases e : (es.getD k Sp.dE).1 = key
     · exfalso
       by_cases e2 : k = Sp.plE es key
       · exact c ⟨by omega, e2 ▸ e⟩
       · have := h (Sp.plE es key) k (by omega) h2
         have := ha.2 (Sp.plE es key) (by omega) (by omega)
         omega
     · omega
 by_cases c1 : i < Sp.plE es key
 · rw [if_pos c1]
   have k1 := ha.1 i c1
   by_cases c2 : j < Sp.plE es key
   · rw [if_pos c2]; exact h i j hij (by omega)
   rw [if_neg c2]
   by_cases c3 : j = Sp.plE es key
   · rw [if_pos c3]; exact k1
   · rw [if_neg c3]
     have := hgt (j - 1 + skE es key) (by omega) (by omega)
     omega
 rw [if_neg c1, if_neg (show ¬ j < Sp.plE es key by omega), if_neg (show ¬ j = Sp.plE es key by omega)]
 by_cases c3 : i = Sp.plE es key
 · rw [if_pos c3]
   exact hgt _ (by omega) (by omega)
 · rw [if_neg c3]
   exact h _ _ (by omega) (by omega)
/-- The rest of the list, once the entry is in. -/
theorem rp_t {es : List EnT} {key : Int} (data : List Int) (hl : es.length ≤ 100000) : ∀ (d m j : Nat) (acc : List EnT), j + d = es.length → d < m → acc.length ≤ j + 1 → (∀ i, j ≤ i → i < es.length → (es.getD i Sp.dE).1 ≠ key) → L_105_0 m es key data true j acc = some (.e0 key data true (acc ++ es.drop j)) := by
 intro d
 induction d with
 | zero =>
   intro m j acc hj hm ha hk
   obtain ⟨m, rfl⟩ : ∃ k, m = k + 1 := ⟨m - 1, by omega⟩
   rw [L_105_0, S_105_0, cond_dff (by omega), List.drop_of_length_le (by omega), List.append_nil]
 | succ d ih =>
   intro m j acc hj hm ha hk
   obtain ⟨m, rfl⟩ : ∃ k, m = k + 1 := ⟨m - 1, by omega⟩
   have hx := hk j (Nat.le_refl _) (by omega)
   have hx : (es.getD j Zd2).1 ≠ key := hx
   have dr : es.drop j = es.getD j Zd2 :: es.drop (j + 1) := by
     have hj' : j < es.length := by omega
     rw [List.drop_eq_getElem_cons hj', List.getD_eq_getElem?_getD, List.getElem?_eq_getElem hj']; rfl
   rw [L_105_0, S_105_0, cond_dtt (by omega), Bool.not_true, cond_f, gd_inB (by omega) (by omega), Int.toNat_natCast, cond_ntt hx, gd_inB (by omega) (by omega), gd_room (by omega) (by omega), wi64 (by omega) (by omega), show (j : Int) + 1 = ((j + 1 : Nat) : Int) by push_cast; rfl, dr,
     ih m (j + 1) (acc ++ [es.getD j Zd2]) (by omega) (by omega) (by rw [List.length_append, List.length_singleton]; omega) (fun i h1 h2 => hk i (by omega) h2), List.append_assoc, List.singleton_append]
theorem rp_f {es : List EnT} (h : Asc es) {key : Int} (data : List Int) (hd : data.length ≤ 1000) (hl : es.length ≤ 100000) : ∀ (d m j : Nat), j + d = es.length → d < m → (∀ i, i < j → (es.getD i Sp.dE).1 < key) →
   L_105_0 m es key data false j (es.take j) = some (if Sp.plE es key < es.length then .e0 key data true (Sp.putE es key data) else .e0 key data false es) := by
 have hp := plE_le es key
 have hpa := plE_at h key
 intro d
 induction d with
 | zero =>
   intro m j hj hm hk
   obtain ⟨m, rfl⟩ : ∃ k, m = k + 1 := ⟨m - 1, by omega⟩
   have : ¬ Sp.plE es key < es.length := fun c => by
     have h1 := hpa.2 (Sp.plE es key) (Nat.le_refl _) c
     have h2 := hk (Sp.plE es key) (by omega)
     omega
   rw [L_105_0, S_105_0, cond_dff (by omega), if_neg this, List.take_of_length_le (by omega)]
 | succ d ih =>
   intro m j hj hm hk
   obtain ⟨m, rfl⟩ : ∃ k, m = k + 1 := ⟨m - 1, by omega⟩
   have tl : (es.take j).length = j := by rw [List.length_take]; omega
   have dr : es.drop j = es.getD j Zd2 :: es.drop (j + 1) := by
     have hj' : j < es.length := by omega
     rw [List.drop_eq_getElem_cons hj', List.getD_eq_getElem?_getD, List.getElem?_eq_getElem hj']; rfl
   rw [L_105_0, S_105_0, cond_dtt (by omega), Bool.not_false, cond_t, gd_inB (by omega) (by omega), Int.toNat_natCast]
   by_cases c : (es.getD j Zd2).1 ≥ key
   · have c' : key ≤ (es.getD j Sp.dE).1 := c
     have pj : Sp.plE es key = j := by
       by_cases a : Sp.plE es key < j
       · have := hk _ a
         have := hpa.2 (Sp.plE es key) (Nat.le_refl _) (by omega)
         omega
       · by_cases b : j < Sp.plE es key
         · have := hpa.1 j b
           omega
         · omega
     have gt : ∀ i, j + 1 ≤ i → i < es.length → (es.getD i Sp.dE).1 ≠ key := fun i h1 h2 => by
       have := h j i (by omega) h2
       omega
     rw [cond_dtt c, gd_room (by omega) (by omega), gd_room (by omega) (by omega), gd_inB (by omega) (by omega), if_pos (by omega), wi64 (n := (j : Int) + 1) (by omega) (by omega), show (j : Int) + 1 = ((j + 1 : Nat) : Int) by push_cast; rfl, List.nil_append, putE_eq, pj]
     by_cases e : (es.getD j Zd2).1 = key
     · have sk : skE es key = 1 := by unfold skE; rw [pj, if_pos ⟨by omega, e⟩]
       rw [cond_nff e, rp_t data hl d m (j + 1) _ (by omega) (by omega) (by rw [List.length_append, List.length_singleton]; omega) gt, sk, List.append_assoc]
     · have sk : skE es key = 0 := by unfold skE; rw [pj, if_neg (fun z => e z.2)]
       have ln : (es.take j ++ [((key, data, PUnit.unit) : EnT)]).length = j + 1 := by rw [List.length_append, List.length_singleton, tl]
       rw [cond_ntt e, gd_inB (by omega) (by omega), gd_room (by omega) (by omega), rp_t data hl d m (j + 1) _ (by omega) (by omega) (by rw [List.length_append, List.length_append, List.length_singleton, List.length_singleton]; omega) gt, sk, Nat.add_zero j, dr, List.append_assoc, List.append_assoc]
       rfl
   · have c' : (es.getD j Sp.dE).1 < key := by
       have : ¬ (es.getD j Sp.dE).1 ≥ key := c
       omega
     have ne : (es.getD j Zd2).1 ≠ key := by
       have : (es.getD j Sp.dE).1 ≠ key := by omega
       exact this
     rw [cond_dff c, gd_inB (by omega) (by omega), cond_ntt ne, gd_inB (by omega) (by omega), gd_room (by omega) (by omega), wi64 (by omega) (by omega), show (j : Int) + 1 = ((j + 1 : Nat) : Int) by push_cast; rfl]
     have := ih m (j + 1) (by omega) (by omega) (fun i hi => by
       by_cases e : i = j
       · rw [e]; exact c'
       · exact hk i (by omega))
     have tk : es.take (j + 1) = es.take j ++ [es.getD j Zd2] := by
       have hj' : j < es.length := by omega
       rw [List.take_succ_eq_append_getElem hj', List.getD_eq_getElem?_getD, List.getElem?_eq_getElem hj']; rfl
     rw [tk] at this
     exact this
theorem rput_pv {es : List EnT} (h : Asc es) (key : Int) {data : List Int} (hd : data.length ≤ 1000) (hl : es.length ≤ 100000) : p_105 es key data = true ∧ v_105 es key data = (Sp.putE es key data, ()) := by
 refine pv_105 es key data ?_
 unfold F_105
 have t := rp_f h (key := key) data hd hl es.length 4611686018427387904 0 (by omega) (by omega) (fun i hi => by omega)
 rw [List.take_zero] at t
 refine (congrArg (fun z => B_105_0 z _) t).trans ?_
 have hp := plE_le es key
 by_cases c : Sp.plE es key < es.length
 · rw [if_pos c]
   rfl
 · rw [if_neg c]
   unfold B_105_0
   dsimp only
   have sk : skE es key = 0 := by unfold skE; rw [if_neg (fun z => c z.1)]
   rw [Bool.not_false, cond_t, gd_room (by omega) (by omega), gd_room (by omega) (by omega), putE_eq, sk, List.take_of_length_le (by omega), List.drop_of_length_le (by omega)]
   rfl
theorem hwr_sub {m : MeT} {k i n : Nat} (h : i + n ≤ Sp.hsz m) : take n (drop (Sp.hbs m k + i) m.1.1) = take n (drop i (Sp.hwr m k)) := by
 unfold Sp.hwr
 rw [List.drop_take, List.take_take, List.drop_drop, Nat.min_eq_left (by omega)]
theorem nmb_blank : Sp.nmb 4294967295 = (65535, false) := by decide
/-- The loop over the records, with some entries already. -/
theorem lg1 {m : MeT} (hw : W32f m.1) (hv : Sp.fv m.1 = true) (hp : Sp.plc m = true) {k : Nat} (hk : k < 2) (l : List Int) (hl : l = Sp.hwr m k) : ∀ (f q i : Nat) (es : List EnT), Asc es → es.length ≤ i → i ≤ l.length → l.length - i ≤ f → f < q → ∀ R, R = Sp.rdl l f i es →
   L_99_0_1 q k l.length es i m = some (if R.1 < l.length ∧ l.getD R.1 0 ≠ 4294967295 then .e0 l.length R.2 else .e1 k l.length R.2 (R.1 : Nat) m) ∧ Asc R.2 := by
 have b := pl_b hv hp
 have bk := pl_k hv hp hk
 have hln : l.length = Sp.hsz m := by rw [hl]; exact hwr_len hv hp hk
 have hW : W32l l := by rw [hl]; exact hw.half k
 have bs := rbs_pv hv hp hk
 intro f
 induction f with
 | zero =>
   intro q i es ha hn hi hf hq R hR
   obtain ⟨q, rfl⟩ : ∃ k, q = k + 1 := ⟨q - 1, by omega⟩
   rw [Sp.rdl] at hR
   subst hR
   refine ⟨?_, ha⟩
   rw [if_neg (fun z => by have := z.1; dsimp only at this; omega), L_99_0_1, S_99_0_1, cond_dff (by omega)]
 | succ f ih =>
   intro q i es ha hn hi hf hq R hR
   obtain ⟨q, rfl⟩ : ∃ k, q = k + 1 := ⟨q - 1, by omega⟩
   obtain ⟨n, key, ok, h⟩ := hd_at hW i
   have hn2 := h.n
   have hk0 := h.k0
   have hk1 := h.k1
   rw [rdl_s h] at hR
   by_cases c1 : i < l.length
   rotate_left
   · rw [if_neg (fun a => c1 a.1)] at hR
     subst hR
     refine ⟨?_, ha⟩
     rw [if_neg (fun z => c1 z.1), L_99_0_1, S_99_0_1, cond_dff (by omega)]
   have wi := rwd_pv hv hp hk (i := i) (by omega)
   rw [← hl] at wi
   have hx := hW.at i
   have nv := rnum_pv hx.1 hx.2
   rw [L_99_0_1, S_99_0_1, cond_dtt (by omega), wi.1, wi.2, gd_tt]
   by_cases c0 : l.getD i 0 = 4294967295
   · have eo : ok = false := by
       have := h.e
       rw [c0, nmb_blank] at this
       exact (congrArg Prod.snd this).symm
     rw [if_neg (fun a => by rw [eo] at a; exact Bool.noConfusion a.2.1)] at hR
     subst hR
     rw [cond_nff c0]
     exact ⟨by rw [if_neg (fun z => z.2 c0)], ha⟩
   rw [cond_ntt c0, gd_tt, nv.1, nv.2, gd_tt, h.e]
   dsimp only
   have stop : some (E_99_0_1.e0 l.length es) = some (if i < l.length ∧ l.getD i 0 ≠ 4294967295 then .e0 l.length es else .e1 k l.length es (i : Nat) m) := by rw [if_pos ⟨c1, c0⟩]
   cases ok with
   | false =>
     rw [if_neg (fun a => Bool.noConfusion a.2.1)] at hR
     subst hR
     rw [Bool.not_false, cond_t]
     exact ⟨stop, ha⟩
   | true =>
   have e1 : Int.tdiv (key * 256 + (n : Int)) 256 = key := by rw [Int.tdiv_eq_ediv_of_nonneg (by omega)]; omega
   have e2 : Int.tmod (key * 256 + (n : Int)) 256 = (n : Int) := by rw [Int.tmod_eq_emod_of_nonneg (by omega)]; omega
   have ky := rky_pv key
   rw [Bool.not_true, cond_f, e1, e2, wi64 (n := key) (by omega) (by omega), ky.1, ky.2, gd_tt, decide_eq_true hk0, Bool.true_and]
   by_cases c2 : key ≤ 254
   rotate_left
   · rw [if_neg (fun a => c2 a.2.2.1)] at hR
     subst hR
     rw [decide_eq_false c2]
     exact ⟨stop, ha⟩
   rw [decide_eq_true c2, Bool.not_true, cond_f]
   by_cases c3 : (n : Int) > 24
   · rw [if_neg (fun a => by omega)] at hR
     subst hR
     rw [cond_dtt c3]
     exact ⟨stop, ha⟩
   rw [cond_dff c3, wi64 (n := (i : Int) + (n : Int)) (by omega) (by omega), wi64 (n := (i : Int) + (n : Int) + 2) (by omega) (by omega), wi64 (n := (i : Int) + (n : Int) + 1) (by omega) (by omega)]
   by_cases c4 : (i : Int) + (n : Int) + 2 > (l.length : Int)
   · rw [if_neg (fun a => by omega)] at hR
     subst hR
     rw [cond_dtt c4]
     exact ⟨stop, ha⟩
   have wy := rwd_pv hv hp hk (i := i + n + 1) (by omega)
   rw [← hl] at wy
   have hy := hW.at (i + n + 1)
   have ny := rnum_pv hy.1 hy.2
   rw [if_pos (show i < l.length ∧ true = true ∧ key ≤ 254 ∧ n ≤ 24 ∧ i + n + 2 ≤ l.length from ⟨c1, rfl, c2, by omega, by omega⟩)] at hR
   rw [cond_dff c4, bs.1, bs.2, gd_tt]
   dsimp only
   rw [wi64 (n := (Sp.hbs m k : Int) + (i : Int)) (by omega) (by omega), wi64 (n := (Sp.hbs m k : Int) + (i : Int) + (n : Int)) (by omega) (by omega), wi64 (n := (Sp.hbs m k : Int) + (i : Int) + (n : Int) + 1) (by omega) (by omega), gd_sl3 (by omega) (by omega) (by omega),
     show (i : Int) + (n : Int) + 1 = ((i + n + 1 : Nat) : Int) by push_cast; rfl, show (i : Int) + (n : Int) + 2 = ((i + n + 2 : Nat) : Int) by push_cast; rfl, wy.1, wy.2, gd_tt, ny.1, ny.2, gd_tt,
     show ((Sp.hbs m k : Int) + (i : Int) + (n : Int) + 1).toNat - ((Sp.hbs m k : Int) + (i : Int)).toNat = n + 1 by omega, show ((Sp.hbs m k : Int) + (i : Int)).toNat = Sp.hbs m k + i by omega, hwr_sub (by omega), ← hl]
   dsimp only
   have next : ∀ es', Asc es' → es'.length ≤ es.length + 1 → _ := fun es' g1 g2 => ih q (i + n + 2) es' g1 (by omega) (by omega) (by omega) (by omega) R
   cases hb : (Sp.nmb (l.getD (i + n + 1) 0)).2 with
   | false =>
     rw [hb, if_neg (fun a => Bool.noConfusion a.1)] at hR
     rw [cond_f]
     exact next es ha (by omega) hR
   | true =>
   have tl : (take (n + 1) (drop i l)).length = n + 1 := by rw [List.length_take, List.length_drop]; omega
   have s := rsum_pv (W32l.td hW (n + 1) i) (by omega)
   rw [cond_t, s.1, s.2, gd_tt]
   dsimp only
   by_cases c5 : (Sp.nmb (l.getD (i + n + 1) 0)).1 = Sp.smw (take (n + 1) (drop i l))
   rotate_left
   · rw [if_neg (fun a => c5 a.2)] at hR
     rw [cond_eff c5]
     exact next es ha (by omega) hR
   have dl : (take n (drop (i + 1) l)).length ≤ 24 := by rw [List.length_take]; omega
   have pt := rput_pv ha key (data := take n (drop (i + 1) l)) (by omega) (by omega)
   rw [if_pos ⟨hb, c5⟩] at hR
   rw [cond_ett c5, tl, gd_sl3 (by omega) (by omega) (by omega), List.drop_take, List.drop_drop, show n + 1 - 1 = n from rfl, pt.1, pt.2, gd_tt]
   exact next _ (ha.put key _) (putE_len _ _ _) hR
/-- The loop over the records, from no entries on. -/
theorem lg0 {m : MeT} (hw : W32f m.1) (hv : Sp.fv m.1 = true) (hp : Sp.plc m = true) {k : Nat} (hk : k < 2) (l : List Int) (hl : l = Sp.hwr m k) : ∀ (f q i : Nat), i ≤ l.length → l.length - i ≤ f → f < q → ∀ R, R = Sp.rdl l f i [] →
   ((L_99_0 q k l.length i m [] = some (if R.1 < l.length ∧ l.getD R.1 0 ≠ 4294967295 then .e0 l.length [] else .e1 k l.length (R.1 : Nat) m []) ∧ R.2 = []) ∨
    L_99_0 q k l.length i m [] = some (if R.1 < l.length ∧ l.getD R.1 0 ≠ 4294967295 then .e2 l.length R.2 else .e3 k l.length R.2 (R.1 : Nat) m)) ∧ Asc R.2 := by
 have b := pl_b hv hp
 have bk := pl_k hv hp hk
 have hln : l.length = Sp.hsz m := by rw [hl]; exact hwr_len hv hp hk
 have hW : W32l l := by rw [hl]; exact hw.half k
 have bs := rbs_pv hv hp hk
 have ha : Asc [] := fun i j _ h => absurd h (Nat.not_lt_zero _)
 intro f
 induction f with
 | zero =>
   intro q i hi hf hq R hR
   obtain ⟨q, rfl⟩ : ∃ k, q = k + 1 := ⟨q - 1, by omega⟩
   rw [Sp.rdl] at hR
   subst hR
   refine ⟨.inl ⟨?_, rfl⟩, ha⟩
   rw [if_neg (fun z => by have := z.1; dsimp only at this; omega), L_99_0, S_99_0, cond_dff (by omega)]
 | succ f ih =>
   intro q i hi hf hq R hR
   obtain ⟨q, rfl⟩ : ∃ k, q = k + 1 := ⟨q - 1, by omega⟩
   obtain ⟨n, key, ok, h⟩ := hd_at hW i
   have hn2 := h.n
   have hk0 := h.k0
   have hk1 := h.k1
   rw [rdl_s h] at hR
   by_cases c1 : i < l.length
   rotate_left
   · rw [if_neg (fun a => c1 a.1)] at hR
     subst hR
     refine ⟨.inl ⟨?_, rfl⟩, ha⟩
     rw [if_neg (fun z => c1 z.1), L_99_0, S_99_0, cond_dff (by omega)]
   have wi := rwd_pv hv hp hk (i := i) (by omega)
   rw [← hl] at wi
   have hx := hW.at i
   have nv := rnum_pv hx.1 hx.2
   rw [L_99_0, S_99_0, cond_dtt (by omega), wi.1, wi.2, gd_tt]
   by_cases c0 : l.getD i 0 = 4294967295
   · have eo : ok = false := by
       have := h.e
       rw [c0, nmb_blank] at this
       exact (congrArg Prod.snd this).symm
     rw [if_neg (fun a => by rw [eo] at a; exact Bool.noConfusion a.2.1)] at hR
     subst hR
     rw [cond_nff c0]
     exact ⟨.inl ⟨by rw [if_neg (fun z => z.2 c0)], rfl⟩, ha⟩
   rw [cond_ntt c0, gd_tt, nv.1, nv.2, gd_tt, h.e]
   dsimp only
   have stop : some (E_99_0.e0 l.length []) = some (if i < l.length ∧ l.getD i 0 ≠ 4294967295 then .e0 l.length [] else .e1 k l.length (i : Nat) m []) := by rw [if_pos ⟨c1, c0⟩]
   cases ok with
   | false =>
     rw [if_neg (fun a => Bool.noConfusion a.2.1)] at hR
     subst hR
     rw [Bool.not_false, cond_t]
     exact ⟨.inl ⟨stop, rfl⟩, ha⟩
   | true =>
   have e1 : Int.tdiv (key * 256 + (n : Int)) 256 = key := by rw [Int.tdiv_eq_ediv_of_nonneg (by omega)]; omega
   have e2 : Int.tmod (key * 256 + (n : Int)) 256 = (n : Int) := by rw [Int.tmod_eq_emod_of_nonneg (by omega)]; omega
   have ky := rky_pv key
   rw [Bool.not_true, cond_f, e1, e2, wi64 (n := key) (by omega) (by omega), ky.1, ky.2, gd_tt, decide_eq_true hk0, Bool.true_and]
   by_cases c2 : key ≤ 254
   rotate_left
   · rw [if_neg (fun a => c2 a.2.2.1)] at hR
     subst hR
     rw [decide_eq_false c2]
     exact ⟨.inl ⟨stop, rfl⟩, ha⟩
   rw [decide_eq_true c2, Bool.not_true, cond_f]
   by_cases c3 : (n : Int) > 24
   · rw [if_neg (fun a => by omega)] at hR
     subst hR
     rw [cond_dtt c3]
     exact ⟨.inl ⟨stop, rfl⟩, ha⟩
   rw [cond_dff c3, wi64 (n := (i : Int) + (n : Int)) (by omega) (by omega), wi64 (n := (i : Int) + (n : Int) + 2) (by omega) (by omega), wi64 (n := (i : Int) + (n : Int) + 1) (by omega) (by omega)]
   by_cases c4 : (i : Int) + (n : Int) + 2 > (l.length : Int)
   · rw [if_neg (fun a => by omega)] at hR
     subst hR
     rw [cond_dtt c4]
     exact ⟨.inl ⟨stop, rfl⟩, ha⟩
   have wy := rwd_pv hv hp hk (i := i + n + 1) (by omega)
   rw [← hl] at wy
   have hy := hW.at (i + n + 1)
   have ny := rnum_pv hy.1 hy.2
   rw [if_pos (show i < l.length ∧ true = true ∧ key ≤ 254 ∧ n ≤ 24 ∧ i + n + 2 ≤ l.length from ⟨c1, rfl, c2, by omega, by omega⟩)] at hR
   rw [cond_dff c4, bs.1, bs.2, gd_tt]
   dsimp only
   rw [wi64 (n := (Sp.hbs m k : Int) + (i : Int)) (by omega) (by omega), wi64 (n := (Sp.hbs m k : Int) + (i : Int) + (n : Int)) (by omega) (by omega), wi64 (n := (Sp.hbs m k : Int) + (i : Int) + (n : Int) + 1) (by omega) (by omega), gd_sl3 (by omega) (by omega) (by omega),
     show (i : Int) + (n : Int) + 1 = ((i + n + 1 : Nat) : Int) by push_cast; rfl, show (i : Int) + (n : Int) + 2 = ((i + n + 2 : Nat) : Int) by push_cast; rfl, wy.1, wy.2, gd_tt, ny.1, ny.2, gd_tt,
     show ((Sp.hbs m k : Int) + (i : Int) + (n : Int) + 1).toNat - ((Sp.hbs m k : Int) + (i : Int)).toNat = n + 1 by omega, show ((Sp.hbs m k : Int) + (i : Int)).toNat = Sp.hbs m k + i by omega, hwr_sub (by omega), ← hl]
   dsimp only
   have next := ih q (i + n + 2) (by omega) (by omega) (by omega) R
   cases hb : (Sp.nmb (l.getD (i + n + 1) 0)).2 with
   | false =>
     rw [hb, if_neg (fun a => Bool.noConfusion a.1)] at hR
     rw [cond_f]
     exact next hR
   | true =>
   have tl : (take (n + 1) (drop i l)).length = n + 1 := by rw [List.length_take, List.length_drop]; omega
   have s := rsum_pv (W32l.td hW (n + 1) i) (by omega)
   rw [cond_t, s.1, s.2, gd_tt]
   dsimp only
   by_cases c5 : (Sp.nmb (l.getD (i + n + 1) 0)).1 = Sp.smw (take (n + 1) (drop i l))
   rotate_left
   · rw [if_neg (fun a => c5 a.2)] at hR
     rw [cond_eff c5]
     exact next hR
   have dl : (take n (drop (i + 1) l)).length ≤ 24 := by rw [List.length_take]; omega
   have pt := rput_pv ha key (data := take n (drop (i + 1) l)) (by omega) (by decide)
   rw [if_pos ⟨hb, c5⟩] at hR
   rw [cond_ett c5, tl, gd_sl3 (by omega) (by omega) (by omega), List.drop_take, List.drop_drop, show n + 1 - 1 = n from rfl, pt.1, pt.2, gd_tt]
   have r := lg1 hw hv hp hk l hl f q (i + n + 2) (Sp.putE [] key (take n (drop (i + 1) l))) (ha.put key _) (by have := putE_len [] key (take n (drop (i + 1) l)); rw [List.length_nil] at this; omega) (by omega) (by omega) (by omega) R hR
   refine ⟨.inr ?_, r.2⟩
   refine (congrArg (fun z => B_99_0_1 z _ _) r.1).trans ?_
   split <;> rfl
theorem blk_s {l : List Int} {j : Nat} (h : j < l.length) : Sp.blk l j = ((l.getD j 0 == 4294967295) && Sp.blk l (j + 1)) := by
 unfold Sp.blk
 have dr : l.drop j = l.getD j 0 :: l.drop (j + 1) := by
   rw [List.drop_eq_getElem_cons h, List.getD_eq_getElem?_getD, List.getElem?_eq_getElem h]; rfl
 rw [dr, List.all_cons]
theorem blk_e {l : List Int} {j : Nat} (h : l.length ≤ j) : Sp.blk l j = true := by
 unfold Sp.blk
 rw [List.drop_of_length_le h]; rfl
theorem tb0 {m : MeT} (hv : Sp.fv m.1 = true) (hp : Sp.plc m = true) {k : Nat} (hk : k < 2) (l : List Int) (hl : l = Sp.hwr m k) (e : Int) (es : List EnT) : ∀ (d q j : Nat), j + d = l.length → d < q → L_99_2 q k l.length e j m es = some (if Sp.blk l j = true then .e1 e es else .e0 l.length es) := by
 have b := pl_b hv hp
 have hln : l.length = Sp.hsz m := by rw [hl]; exact hwr_len hv hp hk
 intro d
 induction d with
 | zero =>
   intro q j hj hq
   obtain ⟨q, rfl⟩ : ∃ k, q = k + 1 := ⟨q - 1, by omega⟩
   rw [L_99_2, S_99_2, cond_dff (by omega), blk_e (by omega), if_pos rfl]
 | succ d ih =>
   intro q j hj hq
   obtain ⟨q, rfl⟩ : ∃ k, q = k + 1 := ⟨q - 1, by omega⟩
   have wi := rwd_pv hv hp hk (i := j) (by omega)
   rw [← hl] at wi
   rw [L_99_2, S_99_2, cond_dtt (by omega), wi.1, wi.2, gd_tt, blk_s (by omega)]
   by_cases c : l.getD j 0 = 4294967295
   · rw [cond_nff c, beq_iff_eq.2 c, Bool.true_and, wi64 (by omega) (by omega), show (j : Int) + 1 = ((j + 1 : Nat) : Int) by push_cast; rfl]
     exact ih q (j + 1) (by omega) (by omega)
   · rw [cond_ntt c, beq_eq_false_iff_ne.2 c, Bool.false_and, if_neg Bool.false_ne_true]
theorem tb1 {m : MeT} (hv : Sp.fv m.1 = true) (hp : Sp.plc m = true) {k : Nat} (hk : k < 2) (l : List Int) (hl : l = Sp.hwr m k) (e : Int) (es : List EnT) : ∀ (d q j : Nat), j + d = l.length → d < q → L_99_2_1 q k l.length es e j m = some (if Sp.blk l j = true then .e1 es e else .e0 l.length es) := by
 have b := pl_b hv hp
 have hln : l.length = Sp.hsz m := by rw [hl]; exact hwr_len hv hp hk
 intro d
 induction d with
 | zero =>
   intro q j hj hq
   obtain ⟨q, rfl⟩ : ∃ k, q = k + 1 := ⟨q - 1, by omega⟩
   rw [L_99_2_1, S_99_2_1, cond_dff (by omega), blk_e (by omega), if_pos rfl]
 | succ d ih =>
   intro q j hj hq
   obtain ⟨q, rfl⟩ : ∃ k, q = k + 1 := ⟨q - 1, by omega⟩
   have wi := rwd_pv hv hp hk (i := j) (by omega)
   rw [← hl] at wi
   rw [L_99_2_1, S_99_2_1, cond_dtt (by omega), wi.1, wi.2, gd_tt, blk_s (by omega)]
   by_cases c : l.getD j 0 = 4294967295
   · rw [cond_nff c, beq_iff_eq.2 c, Bool.true_and, wi64 (by omega) (by omega), show (j : Int) + 1 = ((j + 1 : Nat) : Int) by push_cast; rfl]
     exact ih q (j + 1) (by omega) (by omega)
   · rw [cond_ntt c, beq_eq_false_iff_ne.2 c, Bool.false_and, if_neg Bool.false_ne_true]
namespace Sp
/-- The entries of a half, and its first free word. -/
noncomputable def lgv (l : List Int) : List EnT × Int × Unit := ((rdl l l.length 1 []).2, (if blk l (rdl l l.length 1 []).1 = true then ((rdl l l.length 1 []).1 : Int) else (l.length : Int)), ())
end Sp
theorem rlog_pv {m : MeT} (hw : W32f m.1) (hv : Sp.fv m.1 = true) (hp : Sp.plc m = true) {k : Nat} (hk : k < 2) : (p_99 m k = true ∧ v_99 m k = Sp.lgv (Sp.hwr m k)) ∧ Asc (Sp.rdv (Sp.hwr m k)).1 := by
 have b := pl_b hv hp
 have hln : (Sp.hwr m k).length = Sp.hsz m := hwr_len hv hp hk
 have sz := rsz_pv hv hp
 have rb := rdv_b (hw.half k) (by omega) (by omega)
 generalize hl : Sp.hwr m k = l at *
 have g := lg0 hw hv hp hk l hl.symm l.length 4611686018427387904 1 (by omega) (by omega) (by omega) _ rfl
 refine ⟨pv_99 m k ?_, g.2⟩
 unfold F_99 Sp.lgv
 unfold Sp.rdv at rb
 dsimp only at rb
 generalize Sp.rdl l l.length 1 [] = R at *
 obtain ⟨e, es⟩ := R
 dsimp only at *
 rw [sz.1, sz.2, gd_tt]
 dsimp only
 rw [← hln]
 rcases g.1 with ⟨g1, rfl⟩ | g1
 · refine (congrArg (fun z => B_99_0 z _ _ _ _) g1).trans ?_
   split
   · rename_i c
     rw [blk_s c.1, beq_eq_false_iff_ne.2 c.2, Bool.false_and, if_neg Bool.false_ne_true]
     rfl
   · have t := tb0 hv hp hk l hl.symm (e : Nat) [] (l.length - e) 4611686018427387904 e (by omega) (by omega)
     unfold B_99_0
     dsimp only
     unfold J_99_1 S_99_1
     rw [t]
     split <;> rfl
 · refine (congrArg (fun z => B_99_0 z _ _ _ _) g1).trans ?_
   split
   · rename_i c
     rw [blk_s c.1, beq_eq_false_iff_ne.2 c.2, Bool.false_and, if_neg Bool.false_ne_true]
     rfl
   · have t := tb1 hv hp hk l hl.symm (e : Nat) es (l.length - e) 4611686018427387904 e (by omega) (by omega)
     unfold B_99_0
     dsimp only
     unfold J_99_1_1 S_99_1_1
     rw [t]
     split <;> rfl
set_option maxRecDepth 100000
set_option maxHeartbeats 4000000
theorem rac_v {m : MeT} (h : Sp.mvl m = true) : Sp.rac m = (Sp.acv m : Int) := by
 unfold Sp.rac
 rw [if_pos (mvl_d h).2.2]
theorem rent_pv {m : MeT} (hw : W32f m.1) (h : Sp.mvl m = true) : p_87 m = true ∧ v_87 m = (Sp.ent m, ()) := by
 obtain ⟨hv, hp, _⟩ := mvl_d h
 have a := rac_pv hw hv hp
 rw [rac_v h] at a
 have l := (rlog_pv hw hv hp (acv_lt m)).1
 refine pv_87 m ?_
 unfold F_87
 rw [a.1, a.2, gd_tt]
 dsimp only
 rw [l.1, l.2, gd_tt]
 rfl
theorem rety_pv {m : MeT} (hw : W32f m.1) (h : Sp.mvl m = true) {key : Int} (h0 : 0 ≤ key) (h1 : key ≤ 254) : p_51 m key = true ∧ v_51 m key = ((Sp.rdk m key).1, (Sp.rdk m key).2.1 == 0, ()) := by
 have en := rent_pv hw h
 have eb := ent_b hw h
 refine pv_51 m key ?_
 unfold F_51 Sp.rdk
 rw [en.1, en.2, gd_tt, if_pos h, if_neg (fun z => by omega)]
 dsimp only
 generalize Sp.ent m = es at *
 have hf := find0 (fun q i => L_51_0 q key es i) (n := es.length) (fun j => (es.getD j Sp.dE).1 == key) (ex := fun j => some (.e0 es (j : Int))) (e1 := some .e1) (by omega) (fun q j hj => by
   show L_51_0 (q + 1) key es (j : Int) = bif (es.getD j Sp.dE).1 == key then some (.e0 es (j : Int)) else L_51_0 q key es ((j + 1 : Nat) : Int)
   rw [L_51_0, S_51_0, cond_dtt (by omega), gd_inB (by omega) (by omega), Int.toNat_natCast, gd_inB (by omega) (by omega), wi64 (by omega) (by omega)]
   push_cast
   rfl) (fun q => by
   show L_51_0 (q + 1) key es (es.length : Int) = _
   rw [L_51_0, S_51_0, cond_dff (by omega)])
 rw [show fnd (fun j => (es.getD j Sp.dE).1 == key) es.length 0 = Sp.fky es key from rfl] at hf
 refine (congrArg (fun z => B_51_0 z _ _) hf).trans ?_
 cases Sp.fky es key with
 | none => rfl
 | some j =>
   show some ((getD es (toNat (j : Int)) _).2.1, true, ()) = _
   rw [Int.toNat_natCast]
   rfl
theorem rkno_pv (f : FaT) : p_53 f = true ∧ v_53 f = (Sp.sto f, ()) := pv_53 f rfl
namespace Sp
noncomputable def rla (m : MeT) (cs : List CfT) (cy : Int) (i : Nat) : FaT := match lof m (cs.getD i Zd1) i with
 | some f => if rgt (cs.getD i Zd1) f cy = true then f else zeroF
 | none => zeroF
noncomputable def rll (m : MeT) (cs : List CfT) (cy : Int) (n : Nat) : List FaT := (List.range n).map (rla m cs cy)
/-- What the program has after some rounds. -/
noncomputable def rlw (m : MeT) (cs : List CfT) (cy : Int) (n i : Nat) : List FaT := (List.range n).map fun k => if k < i then rla m cs cy k else zeroF
end Sp
theorem rcs_d {l : List CfT} (h : Sp.rcs l = 0) : l.length ≤ 64 ∧ Sp.cfgs l = true ∧ Sp.dst (l.map fun c => c.1) = true := by
 unfold Sp.rcs at h
 by_cases c : l.length ≤ 64
 rotate_left
 · rw [decide_eq_false c, cond_f] at h; cases h
 rw [decide_eq_true c, cond_t] at h
 cases hc : Sp.cfgs l
 · rw [hc, cond_f] at h; cases h
 rw [hc, cond_t] at h
 cases hd : Sp.dst (Sp.codesL l)
 · rw [hd, cond_f] at h; cases h
 exact ⟨c, rfl, hd⟩
theorem cyc_b {m : MeT} (hw : W32f m.1) : 0 ≤ Sp.cyc m ∧ Sp.cyc m ≤ 1073741824 := by
 have b := W32l.at (rdk_b hw 254).1 0
 unfold Sp.cyc
 split
 · rename_i h; exact ⟨b.1, h.2.2⟩
 · decide
theorem rgt_z {c : CfT} (h : Sp.cfg c = true) {cy : Int} (h0 : 0 ≤ cy) : Sp.rgt c Sp.zeroF cy = true := by
 obtain ⟨c1, c2, c3, c4, c5, c6, c7, c8, ⟨⟩⟩ := c
 simp only [Sp.cfg, Bool.and_eq_true, inr_iff] at h
 have z : Sp.zeroF = (0, 0, 0, 0, 0, [], 0, ()) := rfl
 have r : Sp.rngs (c1, c2, c3, c4, c5, c6, c7, c8, ()) (0, 0, 0, 0, 0, [], 0, ()) cy = true := by
   simp only [Sp.rngs, Bool.and_eq_true, inr_iff]
   omega
 rw [z]
 unfold Sp.rgt
 rw [r]
 rfl
theorem rla_r {m : MeT} {cs : List CfT} {cy : Int} (h0 : 0 ≤ cy) (hc : Sp.cfgs cs = true) {i : Nat} (hi : i < cs.length) : Sp.rgt (cs.getD i Zd1) (Sp.rla m cs cy i) cy = true := by
 unfold Sp.rla
 split
 · split
   · assumption
   · exact rgt_z (cfgs_at hc hi) h0
 · exact rgt_z (cfgs_at hc hi) h0
theorem rlw_len (m : MeT) (cs : List CfT) (cy : Int) (n i : Nat) : (Sp.rlw m cs cy n i).length = n := by simp [Sp.rlw]
theorem rlw_get (m : MeT) (cs : List CfT) (cy : Int) {n k : Nat} (i : Nat) (hk : k < n) (d : FaT) : (Sp.rlw m cs cy n i).getD k d = if k < i then Sp.rla m cs cy k else Sp.zeroF := by
 rw [getD_at d (by rw [rlw_len]; exact hk)]
 simp [Sp.rlw]
theorem lo1_w {m : MeT} {cs : List CfT} {cy : Int} (h0 : 0 ≤ cy) (h1 : cy ≤ 1073741824) (hr : Sp.rcs cs = 0) {i : Nat} (hi : i < cs.length) : Sp.lo1 m cs (cy, false, ()) i (Sp.rlw m cs cy cs.length i) = Sp.rlw m cs cy cs.length (i + 1) := by
 obtain ⟨r1, r2, r3⟩ := rcs_d hr
 have set_eq : ∀ f, f = Sp.rla m cs cy i → (Sp.rlw m cs cy cs.length i).set i f = Sp.rlw m cs cy cs.length (i + 1) := fun f hf => by
   refine list_ext Sp.zeroF (by rw [List.length_set, rlw_len, rlw_len]) (fun k hk => ?_)
   rw [List.length_set, rlw_len] at hk
   rw [getD_set _ _ _ _ _ (by rw [rlw_len]; exact hi), rlw_get m cs cy i hk, rlw_get m cs cy (i + 1) hk, hf]
   by_cases e : i = k
   · rw [if_pos e, if_pos (by omega), e]
   · rw [if_neg e]
     by_cases c : k < i
     · rw [if_pos c, if_pos (by omega)]
     · rw [if_neg c, if_neg (by omega)]
 unfold Sp.lo1
 cases hl : Sp.lof m (cs.getD i Zd1) i with
 | none =>
   have e : Sp.rla m cs cy i = Sp.zeroF := by unfold Sp.rla; rw [hl]
   dsimp only
   have := set_eq Sp.zeroF e.symm
   rw [← this]
   refine list_ext Sp.zeroF (by rw [List.length_set]) (fun k hk => ?_)
   rw [rlw_len] at hk
   rw [getD_set _ _ _ _ _ (by rw [rlw_len]; exact hi)]
   split
   · rename_i e2
     subst e2
     rw [rlw_get m cs cy i hk, if_neg (by omega)]
   · rfl
 | some f =>
   dsimp only
   have vfe : Sp.vf (cs, (Sp.rlw m cs cy cs.length i).set i f, cy, false, ()) = Sp.rgt (cs.getD i Zd1) f cy := by
     have rg : Sp.rgts (cs, (Sp.rlw m cs cy cs.length i).set i f, cy, false, ()) = Sp.rgt (cs.getD i Zd1) f cy := by
       rw [Bool.eq_iff_iff]
       unfold Sp.rgts
       dsimp only
       rw [List.all_eq_true, List.length_set, rlw_len]
       constructor
       · intro h
         have := h i (List.mem_range.2 hi)
         rw [getD_set _ _ _ _ _ (by rw [rlw_len]; exact hi), if_pos rfl] at this
         exact this
       · intro h k hk
         have hk := List.mem_range.1 hk
         rw [getD_set _ _ _ _ _ (by rw [rlw_len]; exact hi)]
         split
         · rename_i e; subst e; exact h
         · rw [rlw_get m cs cy i hk]
           split
           · exact rla_r h0 r2 hk
           · exact rgt_z (cfgs_at r2 hk) h0
     unfold Sp.vf
     rw [rg]
     dsimp only
     rw [decide_eq_true r1, r2, r3, List.length_set, rlw_len, beq_self_eq_true, inr_iff.2 ⟨h0, h1⟩]
     rfl
   rw [vfe]
   cases hg : Sp.rgt (cs.getD i Zd1) f cy
   · rw [if_neg Bool.false_ne_true, List.set_set]
     exact set_eq _ (by unfold Sp.rla; rw [hl]; dsimp only; rw [hg, if_neg Bool.false_ne_true])
   · rw [if_pos rfl]
     exact set_eq _ (by unfold Sp.rla; rw [hl]; dsimp only; rw [hg, if_pos rfl])
theorem lol_w {m : MeT} {cs : List CfT} {cy : Int} (h0 : 0 ≤ cy) (h1 : cy ≤ 1073741824) (hr : Sp.rcs cs = 0) : ∀ (d i : Nat), i + d = cs.length → Sp.lol m cs (cy, false, ()) d i (Sp.rlw m cs cy cs.length i) = Sp.rll m cs cy cs.length
 | 0, i, hi => by
   rw [Sp.lol]
   unfold Sp.rlw Sp.rll
   refine List.map_congr_left (fun k hk => ?_)
   have := List.mem_range.1 hk
   rw [if_pos (by omega)]
 | d + 1, i, hi => by
   rw [Sp.lol, lo1_w h0 h1 hr (by omega)]
   exact lol_w h0 h1 hr d (i + 1) (by omega)
theorem lod_r {m : MeT} (hw : W32f m.1) {cs : List CfT} (hm : Sp.mvl m = true) (hr : Sp.rcs cs = 0) : Sp.lod m cs = ((cs, Sp.rll m cs (Sp.cyc m) cs.length, Sp.cyc m, false, ()), 0, ()) := by
 have cb := cyc_b hw
 have w0 : Sp.rlw m cs (Sp.cyc m) cs.length 0 = replicate cs.length Zd0 := by
   refine list_ext Sp.zeroF (by rw [rlw_len, List.length_replicate]) (fun k hk => ?_)
   rw [rlw_len] at hk
   rw [rlw_get m cs _ 0 hk, if_neg (by omega), List.getD_eq_getElem?_getD, List.getElem?_replicate, if_pos hk]
   rfl
 have l := lol_w (m := m) cb.1 cb.2 hr cs.length 0 (by omega)
 rw [w0] at l
 unfold Sp.lod
 rw [if_pos hm, if_pos hr, l]
theorem rload_pv {m : MeT} (hw : W32f m.1) {cs : List CfT} (hm : Sp.mvl m = true) (hr : Sp.rcs cs = 0) : p_15 m cs = true ∧ v_15 m cs = ((cs, Sp.rll m cs (Sp.cyc m) cs.length, Sp.cyc m, false, ()), ()) := by
 obtain ⟨r1, r2, r3⟩ := rcs_d hr
 have cb := cyc_b hw
 have e := rety_pv hw hm (key := 254) (by decide) (by decide)
 have eb := rdk_b hw 254
 have ew := W32l.at eb.1 0
 have J : J_15_0 cs m (0, false, ()) [] [] cs (Sp.cyc m, false, ()) [] = some (.e0 cs (Sp.cyc m, false, ()) (Sp.rll m cs (Sp.cyc m) cs.length)) := by
   unfold J_15_0 S_15_0
   have t := run0 (fun q i acc => L_15_1 q cs i m (0, false, ()) [] [] cs (Sp.cyc m, false, ()) acc) (n := cs.length) (fun j => Sp.rll m cs (Sp.cyc m) j) (r := some (.e0 (0, false, ()) [] [] cs (Sp.cyc m, false, ()) (Sp.rll m cs (Sp.cyc m) cs.length))) (by omega) (fun q i hi => by
     show L_15_1 (q + 1) cs (i : Int) m (0, false, ()) [] [] cs (Sp.cyc m, false, ()) (Sp.rll m cs (Sp.cyc m) i) = L_15_1 q cs ((i + 1 : Nat) : Int) m (0, false, ()) [] [] cs (Sp.cyc m, false, ()) (Sp.rll m cs (Sp.cyc m) (i + 1))
     have ll : (Sp.rll m cs (Sp.cyc m) i).length = i := by simp [Sp.rll]
     have ls : Sp.rll m cs (Sp.cyc m) (i + 1) = Sp.rll m cs (Sp.cyc m) i ++ [Sp.rla m cs (Sp.cyc m) i] := by simp [Sp.rll, List.range_succ]
     have v := rety_pv hw hm (key := (i : Int)) (by omega) (by omega)
     have b := rdk_b hw (i : Int)
     have bx := W32l.at b.1 0
     have hc := cfgs_at r2 hi
     have ei : wrap .i64 ((i : Int) + 1) = ((i + 1 : Nat) : Int) := by rw [wi64 (by omega) (by omega)]; push_cast; rfl
     have e0 : Sp.lof m (cs.getD i Zd1) i = if (Sp.rdk m i).2.1 = 0 ∧ 1 ≤ (Sp.rdk m i).1.length ∧ (Sp.rdk m i).1.getD 0 0 = (cs.getD i Zd1).1 ∧ (Sp.upk ((Sp.rdk m i).1.drop 1)).2.1 = 0 ∧ Sp.sto (Sp.upk ((Sp.rdk m i).1.drop 1)).1 = true then some (Sp.upk ((Sp.rdk m i).1.drop 1)).1 else none := rfl
     have no : Sp.lof m (cs.getD i Zd1) i = none → Sp.rla m cs (Sp.cyc m) i = (0, 0, 0, 0, 0, [], 0, ()) := fun h => by unfold Sp.rla; rw [h]; rfl
     rw [L_15_1, S_15_1, cond_dtt (by omega), v.1, v.2, gd_tt, ei, Int.toNat_natCast, ls]
     dsimp only
     by_cases h1 : (Sp.rdk m i).2.1 = 0
     rotate_left
     · rw [beq_eq_false_iff_ne.2 h1, cond_f, ll, gd_room (by omega) (by omega), no (by rw [e0, if_neg (fun a => h1 a.1)])]
     rw [beq_iff_eq.2 h1, cond_t]
     by_cases h2 : 1 ≤ (Sp.rdk m i).1.length
     rotate_left
     · rw [cond_dff (by omega), ll, gd_room (by omega) (by omega), no (by rw [e0, if_neg (fun a => h2 a.2.1)])]
     rw [cond_dtt (by omega), gd_inB (by omega) (by omega), gd_inB (by omega) (by omega), wi64 (n := (Sp.rdk m i).1.getD 0 0) (by omega) (by omega)]
     by_cases h3 : (Sp.rdk m i).1.getD 0 0 = (cs.getD i Zd1).1
     rotate_left
     · rw [cond_eff h3, ll, gd_room (by omega) (by omega), no (by rw [e0, if_neg (fun a => h3 a.2.2.1)])]
     have u := runp_pv (l := (Sp.rdk m i).1.drop 1) (fun x hx => b.1 x (List.mem_of_mem_drop hx)) (by rw [List.length_drop]; omega)
     rw [cond_ett h3, gd_sl3 (by omega) (by omega) (by omega), u.1, u.2, gd_tt]
     cases hcd : Sp.cond ((Sp.rdk m i).1.drop 1)
     · rw [cond_f]
       dsimp only
       rw [cond_f, ll, gd_room (by omega) (by omega), no (by
         rw [e0, if_neg (fun a => by
           have := a.2.2.2.1
           unfold Sp.upk at this
           rw [hcd, cond_f] at this
           exact absurd (show (3 : Int) = 0 from this) (by decide))])]
     have eu : Sp.upk ((Sp.rdk m i).1.drop 1) = (Sp.xof ((Sp.rdk m i).1.drop 1), 0, ()) := by unfold Sp.upk; rw [hcd, cond_t]
     rw [eu] at e0
     dsimp only at e0
     have k := rkno_pv (Sp.xof ((Sp.rdk m i).1.drop 1))
     rw [cond_t]
     dsimp only
     rw [cond_t, k.1, k.2, gd_tt]
     dsimp only
     cases h5 : Sp.sto (Sp.xof ((Sp.rdk m i).1.drop 1))
     · rw [cond_f, ll, gd_room (by omega) (by omega), no (by rw [e0, if_neg (fun a => by rw [h5] at a; exact Bool.noConfusion a.2.2.2.2)])]
     rw [h5, if_pos ⟨h1, h2, h3, rfl, rfl⟩] at e0
     have fr := lof_fr hw e0
     have rf := pv_54 _ _ _ (rfault_ok (c := cs.getD i Zd1) (f := Sp.xof ((Sp.rdk m i).1.drop 1)) (cyc := Sp.cyc m) hc (by omega))
     rw [cond_t, gd_inB (by omega) (by omega), rf.1, rf.2, gd_tt]
     dsimp only
     cases hg : Sp.rgt (cs.getD i Zd1) (Sp.xof ((Sp.rdk m i).1.drop 1)) (Sp.cyc m)
     · rw [cond_f, ll, gd_room (by omega) (by omega)]
       unfold Sp.rla
       rw [e0]
       dsimp only
       rw [hg, if_neg Bool.false_ne_true]
       rfl
     · rw [cond_t, ll, gd_room (by omega) (by omega)]
       unfold Sp.rla
       rw [e0]
       dsimp only
       rw [hg, if_pos rfl]) (fun q => by
     show L_15_1 (q + 1) cs (cs.length : Int) m (0, false, ()) [] [] cs (Sp.cyc m, false, ()) (Sp.rll m cs (Sp.cyc m) cs.length) = _
     rw [L_15_1, S_15_1, cond_dff (by omega)])
   exact (congrArg (fun z => B_15_1 z _) t).trans rfl
 refine pv_15 m cs ?_
 unfold F_15
 have ce : Sp.cyc m = if (Sp.rdk m 254).2.1 = 0 ∧ (Sp.rdk m 254).1.length = 1 ∧ (Sp.rdk m 254).1.getD 0 0 ≤ 1073741824 then (Sp.rdk m 254).1.getD 0 0 else 0 := rfl
 rw [e.1, e.2, gd_tt]
 dsimp only
 by_cases h1 : (Sp.rdk m 254).2.1 = 0
 rotate_left
 · rw [if_neg (fun a => h1 a.1)] at ce
   rw [beq_eq_false_iff_ne.2 h1, cond_f]
   rw [ce] at J ⊢
   exact (congrArg (fun z => B_15_0 z _) J).trans rfl
 rw [beq_iff_eq.2 h1, cond_t]
 by_cases h2 : (Sp.rdk m 254).1.length = 1
 rotate_left
 · rw [if_neg (fun a => h2 a.2.1)] at ce
   rw [cond_eff (by omega)]
   rw [ce] at J ⊢
   exact (congrArg (fun z => B_15_0 z _) J).trans rfl
 rw [cond_ett (by omega), gd_inB (by omega) (by omega)]
 by_cases h3 : (Sp.rdk m 254).1.getD 0 0 ≤ 1073741824
 rotate_left
 · rw [if_neg (fun a => h3 a.2.2)] at ce
   rw [cond_dff h3]
   rw [ce] at J ⊢
   exact (congrArg (fun z => B_15_0 z _) J).trans rfl
 rw [if_pos ⟨h1, h2, h3⟩] at ce
 rw [cond_dtt h3, gd_inB (by omega) (by omega), wi64 (n := (Sp.rdk m 254).1.getD 0 0) (by omega) (by omega)]
 rw [ce] at J ⊢
 exact (congrArg (fun z => B_15_0 z _) J).trans rfl
set_option maxRecDepth 100000
set_option maxHeartbeats 4000000
theorem u32_b {n : Int} (h : (Lit.int .u32 n).wf = true) : 0 ≤ n ∧ n < 4294967296 := by
 simp [Lit.wf, IntKind.min, IntKind.max, IntKind.signed, IntKind.bits] at h; omega
theorem eq_all {a b : List Int} (h : a.length = b.length) : (List.range a.length).all (fun j => a.getD j 0 == b.getD j 0) = decide (a = b) := by
 rw [Bool.eq_iff_iff, List.all_eq_true, decide_eq_true_eq]
 constructor
 · intro q
   exact list_ext 0 h (fun j hj => beq_iff_eq.1 (q j (List.mem_range.2 hj)))
 · rintro rfl j _
   exact beq_self_eq_true _
theorem eqi_pv (a b : List Int) (hl : a.length ≤ 1000000) : p_20 a b = true ∧ v_20 a b = (decide (a = b), ()) := by
 refine pv_20 a b ?_
 unfold F_20
 by_cases h : a.length = b.length
 rotate_left
 · rw [cond_ntt (by omega), decide_eq_false (fun q => h (by rw [q]))]
 rw [cond_nff (by omega), ← eq_all h]
 have t := all0 (fun m i => L_20_0 m a b a.length i) (n := a.length) (fun j => a.getD j 0 == b.getD j 0) (e0 := some .e0) (e1 := some .e1) (by omega) (fun m j hj => by
   show L_20_0 (m + 1) a b a.length (j : Int) = bif a.getD j 0 == b.getD j 0 then L_20_0 m a b a.length ((j + 1 : Nat) : Int) else some .e0
   rw [L_20_0, S_20_0, cond_dtt (by omega), gd_inB (by omega) (by omega), gd_inB (by omega) (by omega), Int.toNat_natCast, wi64 (by omega) (by omega), show (j : Int) + 1 = ((j + 1 : Nat) : Int) by push_cast; rfl]
   by_cases c : a.getD j 0 = b.getD j 0
   · rw [cond_nff c, cond_ett c]
   · rw [cond_ntt c, cond_eff c]) (fun m => by
   show L_20_0 (m + 1) a b a.length (a.length : Int) = _
   rw [L_20_0, S_20_0, cond_dff (by omega)])
 refine (congrArg (fun z => B_20_0 z _ _) t).trans ?_
 cases (List.range a.length).all (fun j => a.getD j 0 == b.getD j 0) <;> rfl
theorem eqn_pv (a b : List Int) (hl : a.length ≤ 1000000) : p_56 a b = true ∧ v_56 a b = (decide (a = b), ()) := by
 refine pv_56 a b ?_
 unfold F_56
 by_cases h : a.length = b.length
 rotate_left
 · rw [cond_ntt (by omega), decide_eq_false (fun q => h (by rw [q]))]
 rw [cond_nff (by omega), ← eq_all h]
 have t := all0 (fun m i => L_56_0 m a b i) (n := a.length) (fun j => a.getD j 0 == b.getD j 0) (e0 := some .e0) (e1 := some .e1) (by omega) (fun m j hj => by
   show L_56_0 (m + 1) a b (j : Int) = bif a.getD j 0 == b.getD j 0 then L_56_0 m a b ((j + 1 : Nat) : Int) else some .e0
   rw [L_56_0, S_56_0, cond_dtt (by omega), gd_inB (by omega) (by omega), gd_inB (by omega) (by omega), Int.toNat_natCast, wi64 (by omega) (by omega), show (j : Int) + 1 = ((j + 1 : Nat) : Int) by push_cast; rfl]
   by_cases c : a.getD j 0 = b.getD j 0
   · rw [cond_nff c, cond_ett c]
   · rw [cond_ntt c, cond_eff c]) (fun m => by
   show L_56_0 (m + 1) a b (a.length : Int) = _
   rw [L_56_0, S_56_0, cond_dff (by omega)])
 refine (congrArg (fun z => B_56_0 z _ _) t).trans ?_
 cases (List.range a.length).all (fun j => a.getD j 0 == b.getD j 0) <;> rfl
namespace Sp
noncomputable def ceq (l m : List CfT) : Bool := decide (l.length = m.length) && (List.range l.length).all fun j => Ty.beq (.pair (.int .i64) (.pair (.int .i64) (.pair (.int .i64) (.pair (.int .i64) (.pair (.int .i64) (.pair (.int .i64) (.pair .bool (.pair (.int .i64) .unit)))))))) (l.getD j Zd1) (m.getD j Zd1)
noncomputable def kpt (f : FaT) : FaT := if sto f = true then (andI .i64 f.1 22, 0, f.2.2) else zeroF
noncomputable def sfe (a b : FaT) : Bool := bif a.1 == b.1 then bif a.2.1 == b.2.1 then bif a.2.2.1 == b.2.2.1 then bif a.2.2.2.1 == b.2.2.2.1 then bif a.2.2.2.2.1 == b.2.2.2.2.1 then bif a.2.2.2.2.2.2.1 == b.2.2.2.2.2.2.1 then decide (a.2.2.2.2.2.1 = b.2.2.2.2.2.1) else false else false else false else false else false else false
/-- The faults of which different things are kept. -/
noncomputable def chl (a b : FsT) : Nat → List Int
 | 0 => []
 | j + 1 => chl a b j ++ (if sfe (kpt (a.2.1.getD j Zd0)) (kpt (b.2.1.getD j Zd0)) = true then [] else [(j : Int)])
noncomputable def chd (a b : FsT) : List Int × Int × Unit := if vf a = true ∧ vf b = true ∧ ceq a.1 b.1 = true then (chl a b a.2.1.length, 0, ()) else ([], 1, ())
end Sp
theorem ceq_pv (a b : List CfT) (hl : a.length ≤ 1000000) : p_45 a b = true ∧ v_45 a b = (Sp.ceq a b, ()) := by
 refine pv_45 a b ?_
 unfold F_45 Sp.ceq
 by_cases h : a.length = b.length
 rotate_left
 · rw [cond_ntt (by omega), decide_eq_false h, Bool.false_and]
 rw [cond_nff (by omega), decide_eq_true h, Bool.true_and]
 have t := all0 (fun m i => L_45_0 m a b a.length i) (n := a.length) (fun j => Ty.beq (.pair (.int .i64) (.pair (.int .i64) (.pair (.int .i64) (.pair (.int .i64) (.pair (.int .i64) (.pair (.int .i64) (.pair .bool (.pair (.int .i64) .unit)))))))) (a.getD j Zd1) (b.getD j Zd1)) (e0 := some .e0) (e1 := some .e1) (by omega) (fun m j hj => by
   show L_45_0 (m + 1) a b a.length (j : Int) = bif Ty.beq (.pair (.int .i64) (.pair (.int .i64) (.pair (.int .i64) (.pair (.int .i64) (.pair (.int .i64) (.pair (.int .i64) (.pair .bool (.pair (.int .i64) .unit)))))))) (a.getD j Zd1) (b.getD j Zd1) then L_45_0 m a b a.length ((j + 1 : Nat) : Int) else some .e0
   rw [L_45_0, S_45_0, cond_dtt (by omega), gd_inB (by omega) (by omega), gd_inB (by omega) (by omega), Int.toNat_natCast, wi64 (by omega) (by omega), show (j : Int) + 1 = ((j + 1 : Nat) : Int) by push_cast; rfl]
   cases Ty.beq (.pair (.int .i64) (.pair (.int .i64) (.pair (.int .i64) (.pair (.int .i64) (.pair (.int .i64) (.pair (.int .i64) (.pair .bool (.pair (.int .i64) .unit)))))))) (a.getD j Zd1) (b.getD j Zd1) <;> rfl) (fun m => by
   show L_45_0 (m + 1) a b a.length (a.length : Int) = _
   rw [L_45_0, S_45_0, cond_dff (by omega)])
 refine (congrArg (fun z => B_45_0 z _ _) t).trans ?_
 cases (List.range a.length).all (fun j => Ty.beq (.pair (.int .i64) (.pair (.int .i64) (.pair (.int .i64) (.pair (.int .i64) (.pair (.int .i64) (.pair (.int .i64) (.pair .bool (.pair (.int .i64) .unit)))))))) (a.getD j Zd1) (b.getD j Zd1)) <;> rfl
theorem req_pv (a b : List CfT) (hl : a.length ≤ 1000000) : p_17 a b = true ∧ v_17 a b = (Sp.ceq a b, ()) := by
 refine pv_17 a b ?_
 unfold F_17 Sp.ceq
 by_cases h : a.length = b.length
 rotate_left
 · rw [cond_ntt (by omega), decide_eq_false h, Bool.false_and]
 rw [cond_nff (by omega), decide_eq_true h, Bool.true_and]
 have t := all0 (fun m i => L_17_0 m a b i) (n := a.length) (fun j => Ty.beq (.pair (.int .i64) (.pair (.int .i64) (.pair (.int .i64) (.pair (.int .i64) (.pair (.int .i64) (.pair (.int .i64) (.pair .bool (.pair (.int .i64) .unit)))))))) (a.getD j Zd1) (b.getD j Zd1)) (e0 := some .e0) (e1 := some .e1) (by omega) (fun m j hj => by
   show L_17_0 (m + 1) a b (j : Int) = bif Ty.beq (.pair (.int .i64) (.pair (.int .i64) (.pair (.int .i64) (.pair (.int .i64) (.pair (.int .i64) (.pair (.int .i64) (.pair .bool (.pair (.int .i64) .unit)))))))) (a.getD j Zd1) (b.getD j Zd1) then L_17_0 m a b ((j + 1 : Nat) : Int) else some .e0
   rw [L_17_0, S_17_0, cond_dtt (by omega), gd_inB (by omega) (by omega), gd_inB (by omega) (by omega), Int.toNat_natCast, wi64 (by omega) (by omega), show (j : Int) + 1 = ((j + 1 : Nat) : Int) by push_cast; rfl]
   cases Ty.beq (.pair (.int .i64) (.pair (.int .i64) (.pair (.int .i64) (.pair (.int .i64) (.pair (.int .i64) (.pair (.int .i64) (.pair .bool (.pair (.int .i64) .unit)))))))) (a.getD j Zd1) (b.getD j Zd1) <;> rfl) (fun m => by
   show L_17_0 (m + 1) a b (a.length : Int) = _
   rw [L_17_0, S_17_0, cond_dff (by omega)])
 refine (congrArg (fun z => B_17_0 z _ _) t).trans ?_
 cases (List.range a.length).all (fun j => Ty.beq (.pair (.int .i64) (.pair (.int .i64) (.pair (.int .i64) (.pair (.int .i64) (.pair (.int .i64) (.pair (.int .i64) (.pair .bool (.pair (.int .i64) .unit)))))))) (a.getD j Zd1) (b.getD j Zd1)) <;> rfl
theorem kpt_pv (f : FaT) : p_47 f = true ∧ v_47 f = (Sp.kpt f, ()) := by
 have s := sto_pv f
 refine pv_47 f ?_
 unfold F_47 Sp.kpt
 rw [s.1, s.2, gd_tt]
 dsimp only
 cases Sp.sto f <;> rfl
theorem rkpt_pv (f : FaT) : p_19 f = true ∧ v_19 f = (Sp.kpt f, ()) := by
 have s := rkno_pv f
 refine pv_19 f ?_
 unfold F_19 Sp.kpt
 rw [s.1, s.2, gd_tt]
 dsimp only
 cases Sp.sto f <;> rfl
theorem sfe_pv (a b : FaT) (h : a.2.2.2.2.2.1.length ≤ 1000000) : p_46 a b = true ∧ v_46 a b = (Sp.sfe a b, ()) := by
 have e := eqi_pv a.2.2.2.2.2.1 b.2.2.2.2.2.1 h
 refine pv_46 a b ?_
 unfold F_46 Sp.sfe
 rw [e.1, e.2, gd_tt]
 cases a.1 == b.1 <;> cases a.2.1 == b.2.1 <;> cases a.2.2.1 == b.2.2.1 <;> cases a.2.2.2.1 == b.2.2.2.1 <;> cases a.2.2.2.2.1 == b.2.2.2.2.1 <;> cases a.2.2.2.2.2.2.1 == b.2.2.2.2.2.2.1 <;> rfl
theorem rsfe_pv (a b : FaT) (h : a.2.2.2.2.2.1.length ≤ 1000000) : p_18 a b = true ∧ v_18 a b = (Sp.sfe a b, ()) := by
 have e := eqn_pv a.2.2.2.2.2.1 b.2.2.2.2.2.1 h
 refine pv_18 a b ?_
 unfold F_18 Sp.sfe
 rw [e.1, e.2, gd_tt]
 cases a.1 == b.1 <;> cases a.2.1 == b.2.1 <;> cases a.2.2.1 == b.2.2.1 <;> cases a.2.2.2.1 == b.2.2.2.1 <;> cases a.2.2.2.2.1 == b.2.2.2.2.1 <;> cases a.2.2.2.2.2.2.1 == b.2.2.2.2.2.2.1 <;> rfl
theorem kpt_fr {f : FaT} (h : f.2.2.2.2.2.1.length ≤ 1000) : (Sp.kpt f).2.2.2.2.2.1.length ≤ 1000000 := by
 unfold Sp.kpt
 split
 · show f.2.2.2.2.2.1.length ≤ _; omega
 · exact Nat.zero_le _
theorem fr_at {L : List FaT} (h : FRL L) (j : Nat) : (L.getD j Zd0).2.2.2.2.2.1.length ≤ 1000 := by
 rw [List.getD_eq_getElem?_getD]
 cases e : L[j]? with
 | none => exact Nat.zero_le _
 | some x => exact h x (List.mem_of_getElem? e)
theorem vf_l {F : FsT} (h : Sp.vf F = true) : F.2.1.length = F.1.length := by
 unfold Sp.vf at h
 simp only [Bool.and_eq_true, beq_iff_eq] at h
 have := h.2.2.2.1
 omega
theorem chl_len (a b : FsT) : ∀ j, (Sp.chl a b j).length ≤ j
 | 0 => Nat.le_refl _
 | j + 1 => by
   have := chl_len a b j
   rw [Sp.chl, List.length_append]
   split
   · rw [List.length_nil]; omega
   · rw [List.length_singleton]; omega
theorem chd_pv {a b : FsT} (fa : FRL a.2.1) (fb : FRL b.2.1) (la : a.2.1.length ≤ 70) (lb : b.2.1.length ≤ 70) (ca : a.1.length ≤ 70) : p_11 a b = true ∧ v_11 a b = Sp.chd a b := by
 have va := vf_pv (FRL.sm fa (by omega))
 have vb := vf_pv (FRL.sm fb (by omega))
 have ce := ceq_pv a.1 b.1 (by omega)
 refine pv_11 a b ?_
 unfold F_11 Sp.chd
 rw [va.1, va.2, gd_tt]
 dsimp only
 cases hva : Sp.vf a
 · rw [if_neg (fun z => Bool.noConfusion z.1)]; rfl
 rw [Bool.not_true, cond_f, vb.1, vb.2, gd_tt]
 dsimp only
 cases hvb : Sp.vf b
 · rw [if_neg (fun z => Bool.noConfusion z.2.1)]; rfl
 rw [Bool.not_true, cond_f, ce.1, ce.2, gd_tt]
 dsimp only
 cases hc : Sp.ceq a.1 b.1
 · rw [if_neg (fun z => Bool.noConfusion z.2.2)]; rfl
 rw [Bool.not_true, cond_f, if_pos ⟨rfl, rfl, rfl⟩]
 have hl : a.1.length = b.1.length := by
   unfold Sp.ceq at hc
   rw [Bool.and_eq_true] at hc
   exact of_decide_eq_true hc.1
 have l1 := vf_l hva
 have l2 := vf_l hvb
 have t := run0 (fun m i acc => L_11_0 m a.2.1.length i a b acc) (n := a.2.1.length) (fun j => Sp.chl a b j) (r := some (.e0 (Sp.chl a b a.2.1.length))) (by omega) (fun m j hj => by
   show L_11_0 (m + 1) a.2.1.length (j : Int) a b (Sp.chl a b j) = L_11_0 m a.2.1.length ((j + 1 : Nat) : Int) a b (Sp.chl a b (j + 1))
   have k1 := kpt_pv (a.2.1.getD j Zd0)
   have k2 := kpt_pv (b.2.1.getD j Zd0)
   have s := sfe_pv (Sp.kpt (a.2.1.getD j Zd0)) (Sp.kpt (b.2.1.getD j Zd0)) (kpt_fr (fr_at fa j))
   have cl := chl_len a b j
   rw [L_11_0, S_11_0, cond_dtt (by omega), gd_inB (by omega) (by omega), Int.toNat_natCast, k1.1, k1.2, gd_tt, gd_inB (by omega) (by omega), k2.1, k2.2, gd_tt]
   dsimp only
   rw [s.1, s.2, gd_tt, wi64 (by omega) (by omega), show (j : Int) + 1 = ((j + 1 : Nat) : Int) by push_cast; rfl, Sp.chl]
   dsimp only
   cases Sp.sfe (Sp.kpt (a.2.1.getD j Zd0)) (Sp.kpt (b.2.1.getD j Zd0))
   · rw [Bool.not_false, cond_t, gd_room (by omega) (by omega), if_neg Bool.false_ne_true]
   · rw [Bool.not_true, cond_f, if_pos rfl, List.append_nil]) (fun m => by
   show L_11_0 (m + 1) a.2.1.length (a.2.1.length : Int) a b (Sp.chl a b a.2.1.length) = _
   rw [L_11_0, S_11_0, cond_dff (by omega)])
 exact (congrArg (fun z => B_11_0 z _) t).trans rfl
theorem few_pv (F : FsT) : ∃ r, p_9 F = true ∧ v_9 F = (r, ()) ∧ (r = true → F.1.length ≤ 70 ∧ F.2.1.length ≤ 70 ∧ FRL F.2.1) := by
 by_cases h1 : (F.1.length : Int) ≤ 70
 rotate_left
 · have := pv_9 F (y := (false, ())) (by unfold F_9; rw [cond_dff h1])
   exact ⟨false, this.1, this.2, fun z => by cases z⟩
 by_cases h2 : (F.2.1.length : Int) ≤ 70
 rotate_left
 · have := pv_9 F (y := (false, ())) (by unfold F_9; rw [cond_dtt h1, cond_dff h2])
   exact ⟨false, this.1, this.2, fun z => by cases z⟩
 have hf := find0 (fun m i => L_9_77_0_0 m F.2.1 F.2.1.length i F) (n := F.2.1.length) (fun j => decide (((F.2.1.getD j Zd0).2.2.2.2.2.1.length : Int) > 20)) (ex := fun j => some (.e0 (j : Int) F)) (e1 := some (.e1 F)) (by omega) (fun m j hj => by
   show L_9_77_0_0 (m + 1) F.2.1 F.2.1.length (j : Int) F = bif decide (((F.2.1.getD j Zd0).2.2.2.2.2.1.length : Int) > 20) then some (.e0 (j : Int) F) else L_9_77_0_0 m F.2.1 F.2.1.length ((j + 1 : Nat) : Int) F
   rw [L_9_77_0_0, S_9_77_0_0, cond_dtt (by omega), gd_inB (by omega) (by omega), Int.toNat_natCast, wi64 (by omega) (by omega)]
   push_cast
   rfl) (fun m => by
   show L_9_77_0_0 (m + 1) F.2.1 F.2.1.length (F.2.1.length : Int) F = _
   rw [L_9_77_0_0, S_9_77_0_0, cond_dff (by omega)])
 cases hq : fnd (fun j => decide (((F.2.1.getD j Zd0).2.2.2.2.2.1.length : Int) > 20)) F.2.1.length 0 with
 | some j =>
   rw [hq] at hf
   have := pv_9 F (y := (false, ())) (by
     unfold F_9
     rw [cond_dtt h1, cond_dtt h2]
     refine (congrArg (fun z => B_9_77_0_0 z _ _) hf).trans ?_
     show some (!decide ((j : Int) ≥ 0), ()) = _
     rw [decide_eq_true (by omega)]
     rfl)
   exact ⟨false, this.1, this.2, fun z => by cases z⟩
 | none =>
   rw [hq] at hf
   have := pv_9 F (y := (true, ())) (by
     unfold F_9
     rw [cond_dtt h1, cond_dtt h2]
     exact (congrArg (fun z => B_9_77_0_0 z _ _) hf).trans rfl)
   refine ⟨true, this.1, this.2, fun _ => ⟨by omega, by omega, fun f hf2 => ?_⟩⟩
   obtain ⟨i, hi, e⟩ := List.mem_iff_getElem.1 hf2
   have := of_decide_eq_false (fnd_none.1 hq i (by omega) (by omega))
   rw [getD_at _ hi, e] at this
   omega
/-- What the law says of Changed. -/
theorem chg_law {a b : FsT} (fa : FRL a.2.1) (fb : FRL b.2.1) (la : a.2.1.length ≤ 70) (lb : b.2.1.length ≤ 70) (ca : a.1.length ≤ 70) :
   B_3_0 (J_3_0 (Sp.chd a b).1 (Sp.chd a b).2.1 a b) (fun y => some (y == 1)) (some false) (fun y => some (y == 0)) = some true := by
 have va := rvf_pv (FRL.sm fa (by omega))
 have vb := rvf_pv (FRL.sm fb (by omega))
 have ce := req_pv a.1 b.1 (by omega)
 unfold J_3_0 S_3_0 Sp.chd
 rw [va.1, va.2, gd_tt]
 dsimp only
 cases hva : Sp.vf a
 · rw [if_neg (fun z => Bool.noConfusion z.1)]; rfl
 rw [Bool.not_true, cond_f, vb.1, vb.2, gd_tt]
 dsimp only
 cases hvb : Sp.vf b
 · rw [if_neg (fun z => Bool.noConfusion z.2.1)]; rfl
 rw [Bool.not_true, cond_f, ce.1, ce.2, gd_tt]
 dsimp only
 cases hc : Sp.ceq a.1 b.1
 · rw [if_neg (fun z => Bool.noConfusion z.2.2)]; rfl
 rw [Bool.not_true, cond_f, if_pos ⟨rfl, rfl, rfl⟩]
 have hl : a.1.length = b.1.length := by
   unfold Sp.ceq at hc
   rw [Bool.and_eq_true] at hc
   exact of_decide_eq_true hc.1
 have l1 := vf_l hva
 have l2 := vf_l hvb
 have t := run0 (fun m i acc => L_3_1 m (Sp.chl a b a.2.1.length) 0 a.2.1.length i a b acc) (n := a.2.1.length) (fun j => Sp.chl a b j) (r := some (.e0 (Sp.chl a b a.2.1.length) 0 (Sp.chl a b a.2.1.length))) (by omega) (fun m j hj => by
   show L_3_1 (m + 1) (Sp.chl a b a.2.1.length) 0 a.2.1.length (j : Int) a b (Sp.chl a b j) = L_3_1 m (Sp.chl a b a.2.1.length) 0 a.2.1.length ((j + 1 : Nat) : Int) a b (Sp.chl a b (j + 1))
   have k1 := rkpt_pv (a.2.1.getD j Zd0)
   have k2 := rkpt_pv (b.2.1.getD j Zd0)
   have s := rsfe_pv (Sp.kpt (a.2.1.getD j Zd0)) (Sp.kpt (b.2.1.getD j Zd0)) (kpt_fr (fr_at fa j))
   have cl := chl_len a b j
   rw [L_3_1, S_3_1, cond_dtt (by omega), gd_inB (by omega) (by omega), Int.toNat_natCast, k1.1, k1.2, gd_tt, gd_inB (by omega) (by omega), k2.1, k2.2, gd_tt]
   dsimp only
   rw [s.1, s.2, gd_tt, wi64 (by omega) (by omega), show (j : Int) + 1 = ((j + 1 : Nat) : Int) by push_cast; rfl, Sp.chl]
   dsimp only
   cases Sp.sfe (Sp.kpt (a.2.1.getD j Zd0)) (Sp.kpt (b.2.1.getD j Zd0))
   · rw [Bool.not_false, cond_t, gd_room (by omega) (by omega), if_neg Bool.false_ne_true]
   · rw [Bool.not_true, cond_f, if_pos rfl, List.append_nil]) (fun m => by
   show L_3_1 (m + 1) (Sp.chl a b a.2.1.length) 0 a.2.1.length (a.2.1.length : Int) a b (Sp.chl a b a.2.1.length) = _
   rw [L_3_1, S_3_1, cond_dff (by omega)])
 have t : L_3_1 4611686018427387904 (Sp.chl a b a.2.1.length) 0 a.2.1.length 0 a b [] = _ := t
 have cl := chl_len a b a.2.1.length
 have e := eqi_pv (Sp.chl a b a.2.1.length) (Sp.chl a b a.2.1.length) (by omega)
 rw [t]
 unfold B_3_1
 dsimp only
 rw [e.1, e.2, gd_tt, decide_eq_true rfl]
 rfl
theorem plain_3 (m : MeT) (a b : FsT) (wf : wfD (.pair (.pair (.slice (.int .u32)) (.pair (.slice (.int .i64)) (.pair (.int .i64) .unit))) (.pair (.int .i64) (.pair (.int .i64) .unit))) m) (_ : wfD (.pair (.slice (.pair (.int .i64) (.pair (.int .i64) (.pair (.int .i64) (.pair (.int .i64) (.pair (.int .i64) (.pair (.int .i64) (.pair .bool (.pair (.int .i64) .unit))))))))) (.pair (.slice (.pair (.int .i64) (.pair (.int .i64) (.pair (.int .i64) (.pair (.int .i64) (.pair (.int .i64) (.pair (.slice (.int .i64)) (.pair (.int .i64) .unit)))))))) (.pair (.int .i64) (.pair .bool .unit)))) a) (_ : wfD (.pair (.slice (.pair (.int .i64) (.pair (.int .i64) (.pair (.int .i64) (.pair (.int .i64) (.pair (.int .i64) (.pair (.int .i64) (.pair .bool (.pair (.int .i64) .unit))))))))) (.pair (.slice (.pair (.int .i64) (.pair (.int .i64) (.pair (.int .i64) (.pair (.int .i64) (.pair (.int .i64) (.pair (.slice (.int .i64)) (.pair (.int .i64) .unit)))))))) (.pair (.int .i64) (.pair .bool .unit)))) b) : F_3 m a b = some true := by
 have hw : W32f m.1 := fun x hx => u32_b (wf.1.1 x hx)
 obtain ⟨ra, pa, qa, ha⟩ := few_pv a
 obtain ⟨rb, pb, qb, hb⟩ := few_pv b
 have sm : ∃ r, p_8 m a = true ∧ v_8 m a = (r, ()) ∧ (r = true → ra = true) := by
   by_cases h1 : (m.1.1.length : Int) ≤ 1024
   rotate_left
   · have := pv_8 m a (y := (false, ())) (by unfold F_8; rw [cond_dff h1])
     exact ⟨false, this.1, this.2, fun z => by cases z⟩
   by_cases h2 : (m.1.2.1.length : Int) ≤ 16
   rotate_left
   · have := pv_8 m a (y := (false, ())) (by unfold F_8; rw [cond_dtt h1, cond_dff h2])
     exact ⟨false, this.1, this.2, fun z => by cases z⟩
   by_cases h3 : m.2.2.1 ≤ 16
   rotate_left
   · have := pv_8 m a (y := (false, ())) (by unfold F_8; rw [cond_dtt h1, cond_dtt h2, cond_dff h3])
     exact ⟨false, this.1, this.2, fun z => by cases z⟩
   have := pv_8 m a (y := (ra, ())) (by unfold F_8; rw [cond_dtt h1, cond_dtt h2, cond_dtt h3, pa, qa, gd_tt])
   exact ⟨ra, this.1, this.2, id⟩
 obtain ⟨rs, ps, qs, hs⟩ := sm
 unfold F_3
 rw [aw_pv.1, aw_pv.2, gd_tt, ps, qs, gd_tt]
 dsimp only
 rw [Bool.not_true, cond_f, gd_tt]
 cases rs
 · rfl
 rw [Bool.not_true, cond_f, pb, qb, gd_tt]
 dsimp only
 cases rb
 · rfl
 obtain ⟨ca, la, fa⟩ := ha (hs rfl)
 obtain ⟨cb, lb, fb⟩ := hb rfl
 have lo := lod_pv hw a.1
 have ch := chd_pv fa fb la lb ca
 have cs := rcs_pv a.1
 have rv := rmv_pv hw
 have cl := chg_law fa fb la lb ca
 rw [Bool.not_true, cond_f, lo.1, lo.2, gd_tt, ch.1, ch.2, gd_tt, cs.1, cs.2, gd_tt, rv.1, rv.2, gd_tt]
 dsimp only
 cases hm : Sp.mvl m
 · have e : Sp.lod m a.1 = (([], [], 0, false, ()), 1, ()) := by unfold Sp.lod; rw [hm, if_neg Bool.false_ne_true]
   rw [Bool.not_false, cond_t, e]
   dsimp only
   rw [cond_nff rfl]
   exact cl
 rw [Bool.not_true, cond_f]
 by_cases hr : Sp.rcs a.1 = 0
 rotate_left
 · have e : Sp.lod m a.1 = (([], [], 0, false, ()), Sp.rcs a.1, ()) := by unfold Sp.lod; rw [hm, if_pos rfl, if_neg hr]
   rw [cond_ntt hr, e]
   dsimp only
   rw [cond_nff rfl]
   exact cl
 have e := lod_r hw hm hr
 have rl := rload_pv hw hm hr
 have lb2 := lod_b hw a.1
 rw [e] at lb2
 have sa := same_pv (F := (a.1, Sp.rll m a.1 (Sp.cyc m) a.1.length, Sp.cyc m, false, ())) (FRL.sm lb2.1 (by have := lb2.2.1; dsimp only at this ⊢; omega)) (by dsimp only; omega)
 rw [cond_nff hr, rl.1, rl.2, gd_tt, e]
 dsimp only
 rw [sa.1, sa.2, gd_tt]
 dsimp only
 rw [Bool.not_true, cond_f, cond_nff rfl]
 exact cl
end Go.Ev
