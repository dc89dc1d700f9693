/- Helpers: functions of the program as Lean functions, and what they compute. No condition. -/
import Derived.Test.YtajplaebcbojgaaE4P3
import Derived.Test.YtajplaebcbojgaaG4P0
set_option maxRecDepth 10000
set_option linter.unusedVariables false
set_option linter.unusedSimpArgs false
set_option linter.unusedSimpArgs false
set_option linter.unusedVariables false
namespace Go.Ev
open Go
set_option maxRecDepth 100000
set_option maxHeartbeats 4000000
abbrev FaT := Int × Int × Int × Int × Int × List Int × Int × Unit
namespace Sp
def wi (x h : Int) : Bool := decide (x ≥ 0) && decide (x ≤ h)
def val (x : Int) : Bool := decide (x ≥ -1099511627776) && decide (x ≤ 1099511627776)
def vals (l : List Int) : Bool := (fnd (fun j => !val (l.getD j 0)) l.length 0).isNone
def good (f : FaT) : Bool := wi f.1 31 && (wi f.2.2.1 2 && (wi f.2.2.2.1 254 && (wi f.2.2.2.2.1 255 && (wi f.2.2.2.2.2.2.1 1073741824 && (decide ((f.2.2.2.2.2.1.length : Int) ≤ 8) && vals f.2.2.2.2.2.1)))))
def flat : List Int → List Int
  | [] => []
  | v :: l => ((v + 1099511627776) / 4294967296) :: ((v + 1099511627776) % 4294967296) :: flat l
def unflat : List Int → List Int
  | a :: b :: l => (a * 4294967296 + b - 1099511627776) :: unflat l
  | _ => []
def hdr (f : FaT) : Int := andI .i64 f.1 22 + 256 * f.2.2.1 + 65536 * f.2.2.2.1 + 16777216 * f.2.2.2.2.1
def wpk (f : FaT) : List Int := [hdr f, f.2.2.2.2.2.2.1, (f.2.2.2.2.2.1.length : Int)] ++ flat f.2.2.2.2.2.1
def xof (l : List Int) : FaT := (andI .i64 (l.getD 0 0) 255, 0, andI .i64 (Int.fdiv (l.getD 0 0) 256) 255, andI .i64 (Int.fdiv (l.getD 0 0) 65536) 255, Int.fdiv (l.getD 0 0) 16777216, unflat (l.drop 3), l.getD 1 0, ())
def cond (l : List Int) : Bool := !decide ((l.length : Int) < 3) && (!decide (l.getD 2 0 > 8) && (((l.length : Int) == 3 + 2 * l.getD 2 0) && (!decide (l.getD 1 0 > 1073741824) && ((andnI .i64 (andI .i64 (l.getD 0 0) 255) 22 == 0) && ((fnd (fun j => decide (l.getD (3 + 2 * j) 0 > 512)) (l.getD 2 0).toNat 0).isNone && good (xof l))))))
end Sp
theorem aw : F_5 = some (true, ()) := by kernel_rfl
theorem aw_pv : Sp.p_5 = true ∧ Sp.v_5 = (true, ()) := pv_5 aw
theorem wi_pv (x h : Int) : Sp.p_13 x h = true ∧ Sp.v_13 x h = (Sp.wi x h, ()) := by
  refine pv_13 x h ?_
  unfold F_13 Sp.wi
  cases decide (x ≥ 0) <;> rfl
theorem val_pv (x : Int) : Sp.p_16 x = true ∧ Sp.v_16 x = (Sp.val x, ()) := by
  refine pv_16 x ?_
  unfold F_16 Sp.val
  cases decide (x ≥ -1099511627776) <;> rfl
theorem wi_iff {x h : Int} : Sp.wi x h = true ↔ 0 ≤ x ∧ x ≤ h := by simp [Sp.wi]
theorem vals_iff {l : List Int} : Sp.vals l = true ↔ ∀ x ∈ l, -1099511627776 ≤ x ∧ x ≤ 1099511627776 := by
  unfold Sp.vals
  rw [Option.isNone_iff_eq_none, fnd_none]
  constructor
  · intro h x hx
    obtain ⟨j, hj, rfl⟩ := List.getElem_of_mem hx
    have := h j (by omega) (by omega)
    rw [getD_at 0 hj] at this
    simpa [Sp.val] using this
  · intro h j _ hj
    have hj : j < l.length := by omega
    rw [getD_at 0 hj]
    have := h l[j] (List.getElem_mem hj)
    simpa [Sp.val] using this
theorem good_iff {f : FaT} : Sp.good f = true ↔ (0 ≤ f.1 ∧ f.1 ≤ 31) ∧ (0 ≤ f.2.2.1 ∧ f.2.2.1 ≤ 2) ∧ (0 ≤ f.2.2.2.1 ∧ f.2.2.2.1 ≤ 254) ∧ (0 ≤ f.2.2.2.2.1 ∧ f.2.2.2.2.1 ≤ 255) ∧ (0 ≤ f.2.2.2.2.2.2.1 ∧ f.2.2.2.2.2.2.1 ≤ 1073741824) ∧ f.2.2.2.2.2.1.length ≤ 8 ∧ ∀ x ∈ f.2.2.2.2.2.1, -1099511627776 ≤ x ∧ x ≤ 1099511627776 := by
  simp only [Sp.good, Bool.and_eq_true, wi_iff, decide_eq_true_eq, vals_iff]
  constructor <;> rintro ⟨a, b, c, d, e, g, h⟩ <;> exact ⟨a, b, c, d, e, by omega, h⟩
/-! Bits and words. -/
theorem and_mod {n : Int} (k : Nat) (hk : k ≤ 40) (h0 : 0 ≤ n) (h1 : n < 4611686018427387904) : Sp.andI .i64 n (((2 ^ k - 1 : Nat) : Int)) = n % ((2 ^ k : Nat) : Int) := by
  obtain ⟨a, rfl⟩ := Int.eq_ofNat_of_zero_le h0
  have ha : a < 2 ^ 62 := by
    have : (2 : Nat) ^ 62 = 4611686018427387904 := by decide
    omega
  have hb : (2 : Nat) ^ k ≤ 2 ^ 40 := Nat.pow_le_pow_right (by decide) hk
  have hb2 : (2 : Nat) ^ 40 < 2 ^ 62 := by decide
  rw [andI_nat 62 (by decide) ha (by omega), Nat.and_two_pow_sub_one_eq_mod, Int.natCast_emod]
theorem and_255 {n : Int} (h0 : 0 ≤ n) (h1 : n < 4611686018427387904) : Sp.andI .i64 n 255 = n % 256 := and_mod 8 (by decide) h0 h1
theorem and_32 {n : Int} (h0 : 0 ≤ n) (h1 : n < 4611686018427387904) : Sp.andI .i64 n 4294967295 = n % 4294967296 := and_mod 32 (by decide) h0 h1
theorem or_sum {a b : Int} (k : Nat) (hk : k ≤ 30) (h0 : 0 ≤ a) (h1 : a < ((2 ^ k : Nat) : Int)) (h2 : 0 ≤ b) (h3 : b < 1024) : Sp.orI .i64 a (b * ((2 ^ k : Nat) : Int)) = a + b * ((2 ^ k : Nat) : Int) := by
  obtain ⟨x, rfl⟩ := Int.eq_ofNat_of_zero_le h0
  obtain ⟨y, rfl⟩ := Int.eq_ofNat_of_zero_le h2
  have hb : (2 : Nat) ^ k ≤ 2 ^ 30 := Nat.pow_le_pow_right (by decide) hk
  have e30 : (2 : Nat) ^ 30 = 1073741824 := by decide
  have e62 : (2 : Nat) ^ 62 = 4611686018427387904 := by decide
  have hxy : y * 2 ^ k ≤ 1024 * 1073741824 := Nat.mul_le_mul (by omega) (by omega)
  have hx : x < 2 ^ k := by exact_mod_cast h1
  rw [← Int.natCast_mul, orI_nat 62 (by decide) (by omega) (by omega), Nat.or_comm, or_add k hx]
  push_cast
  omega
theorem tab (P : Int → Bool) (N : Nat) (h : (List.range N).all (fun n => P (n : Int)) = true) {s : Int} (h0 : 0 ≤ s) (h1 : s < N) : P s = true := by
  obtain ⟨n, rfl⟩ := Int.eq_ofNat_of_zero_le h0
  rw [List.all_eq_true] at h
  exact h n (by rw [List.mem_range]; omega)
theorem st_22 {s : Int} (h0 : 0 ≤ s) (h1 : s ≤ 31) : 0 ≤ Sp.andI .i64 s 22 ∧ Sp.andI .i64 s 22 ≤ 31 ∧ Sp.andnI .i64 (Sp.andI .i64 s 22) 22 = 0 ∧ Sp.andI .i64 (Sp.andI .i64 s 22) 22 = Sp.andI .i64 s 22 := by
  have := tab (fun s => decide (0 ≤ Sp.andI .i64 s 22 ∧ Sp.andI .i64 s 22 ≤ 31 ∧ Sp.andnI .i64 (Sp.andI .i64 s 22) 22 = 0 ∧ Sp.andI .i64 (Sp.andI .i64 s 22) 22 = Sp.andI .i64 s 22)) 32 (by decide +kernel) h0 (by omega)
  exact of_decide_eq_true this
theorem st_back {s : Int} (h0 : 0 ≤ s) (h1 : s ≤ 255) (h : Sp.andnI .i64 s 22 = 0) : Sp.andI .i64 s 22 = s := by
  have := tab (fun s => decide (Sp.andnI .i64 s 22 = 0 → Sp.andI .i64 s 22 = s)) 256 (by decide +kernel) h0 (by omega)
  exact (of_decide_eq_true this) h
/-! Lists of words. -/
theorem pfl_len : ∀ l : List Int, (Sp.flat l).length = 2 * l.length
  | [] => rfl
  | _ :: l => by simp only [Sp.flat, List.length_cons, pfl_len l]; omega
theorem flat_app : ∀ a b : List Int, Sp.flat (a ++ b) = Sp.flat a ++ Sp.flat b
  | [], _ => rfl
  | v :: a, b => by simp [Sp.flat, flat_app a b]
theorem unflat_flat : ∀ {l : List Int}, Sp.unflat (Sp.flat l) = l
  | [] => rfl
  | v :: l => by
    simp only [Sp.flat, Sp.unflat, unflat_flat (l := l)]
    congr 1
    omega
theorem upfl_len : ∀ (n : Nat) (l : List Int), l.length = 2 * n → (Sp.unflat l).length = n
  | 0, [], _ => rfl
  | n + 1, a :: b :: l, h => by
    have := upfl_len n l (by simp only [List.length_cons] at h; omega)
    simp [Sp.unflat, this]
  | 0, _ :: _, h => by simp at h
  | n + 1, [], h => by simp at h
  | n + 1, [_], h => by exfalso; simp only [List.length_cons, List.length_nil] at h; omega
theorem flat_unflat : ∀ (n : Nat) (l : List Int), l.length = 2 * n → (∀ x ∈ l, 0 ≤ x ∧ x < 4294967296) → Sp.flat (Sp.unflat l) = l
  | 0, [], _, _ => rfl
  | n + 1, a :: b :: l, h, hw => by
    have ih := flat_unflat n l (by simp only [List.length_cons] at h; omega) (fun x hx => hw x (by simp [hx]))
    have ha := hw a (by simp)
    have hb := hw b (by simp)
    simp only [Sp.unflat, Sp.flat, ih]
    congr 1
    · omega
    · congr 1
      omega
  | 0, _ :: _, h, _ => by simp at h
  | n + 1, [], h, _ => by simp at h
  | n + 1, [_], h, _ => by exfalso; simp only [List.length_cons, List.length_nil] at h; omega
theorem unflat_snoc : ∀ (k : Nat) (t : List Int), 2 * k + 1 < t.length → Sp.unflat (t.take (2 * (k + 1))) = Sp.unflat (t.take (2 * k)) ++ [t.getD (2 * k) 0 * 4294967296 + t.getD (2 * k + 1) 0 - 1099511627776]
  | 0, a :: b :: t, _ => by simp [Sp.unflat]
  | k + 1, a :: b :: t, h => by
    have ih := unflat_snoc k t (by simp only [List.length_cons] at h; omega)
    rw [show 2 * (k + 1 + 1) = 2 * (k + 1) + 1 + 1 by omega, List.take_succ_cons, List.take_succ_cons, show 2 * (k + 1) = 2 * k + 1 + 1 by omega, List.take_succ_cons, List.take_succ_cons, Sp.unflat, Sp.unflat, show 2 * k + 1 + 1 = 2 * (k + 1) by omega, ih]
    rw [show 2 * (k + 1) = 2 * k + 1 + 1 by omega]
    simp [List.getD_eq_getElem?_getD]
  | 0, [], h => by simp at h
  | 0, [_], h => by simp at h
  | k + 1, [], h => by simp at h
  | k + 1, [_], h => by exfalso; simp only [List.length_cons, List.length_nil] at h; omega
/-! The functions. -/
theorem hdr_ok {f : FaT} (h : Sp.good f = true) : IntKind.wrap .u32 (Sp.orI .i64 (Sp.orI .i64 (Sp.orI .i64 (Sp.andI .i64 f.1 (22 : Int)) (IntKind.wrap .i64 (f.2.2.1 * (256 : Int)))) (IntKind.wrap .i64 (f.2.2.2.1 * (65536 : Int)))) (IntKind.wrap .i64 (f.2.2.2.2.1 * (16777216 : Int)))) = Sp.hdr f := by
  obtain ⟨h1, h2, h3, h4, h5, h6, h7⟩ := good_iff.1 h
  have hs := st_22 h1.1 h1.2
  unfold Sp.hdr
  rw [wi64 (n := f.2.2.1 * 256) (by omega) (by omega), wi64 (n := f.2.2.2.1 * 65536) (by omega) (by omega), wi64 (n := f.2.2.2.2.1 * 16777216) (by omega) (by omega)]
  generalize Sp.andI .i64 f.1 22 = s at *
  have e1 : Sp.orI .i64 s (f.2.2.1 * 256) = s + f.2.2.1 * 256 := or_sum 8 (by decide) hs.1 (by omega) h2.1 (by omega)
  have e2 : Sp.orI .i64 (s + f.2.2.1 * 256) (f.2.2.2.1 * 65536) = s + f.2.2.1 * 256 + f.2.2.2.1 * 65536 := or_sum 16 (by decide) (by omega) (by omega) h3.1 (by omega)
  have e3 : Sp.orI .i64 (s + f.2.2.1 * 256 + f.2.2.2.1 * 65536) (f.2.2.2.2.1 * 16777216) = s + f.2.2.1 * 256 + f.2.2.2.1 * 65536 + f.2.2.2.2.1 * 16777216 := or_sum 24 (by decide) (by omega) (by omega) h4.1 (by omega)
  rw [e1, e2, e3, wu32' (by omega) (by omega)]
  omega
theorem pack_loop (fr base : List Int) (hv : ∀ x ∈ fr, -1099511627776 ≤ x ∧ x ≤ 1099511627776) (hl : fr.length ≤ 8) (hb : base.length ≤ 3) : Sp.L_6_0 4611686018427387904 fr fr.length 0 base = some (.e0 (base ++ Sp.flat fr)) := by
  have h := run0 (fun m i o => Sp.L_6_0 m fr fr.length i o) (n := fr.length) (fun j => base ++ Sp.flat (fr.take j)) (r := some (.e0 (base ++ Sp.flat fr))) (by omega) (fun m j hj => by
    show Sp.L_6_0 (m + 1) fr fr.length (j : Int) (base ++ Sp.flat (fr.take j)) = Sp.L_6_0 m fr fr.length ((j + 1 : Nat) : Int) (base ++ Sp.flat (fr.take (j + 1)))
    have hlen : (base ++ Sp.flat (fr.take j)).length ≤ 100 := by
      rw [List.length_append, pfl_len, List.length_take]; omega
    have hx : fr.getD j 0 = fr[j] := getD_at 0 hj
    have hvj := hv fr[j] (List.getElem_mem hj)
    rw [List.take_succ_eq_append_getElem hj, flat_app, Sp.L_6_0, cond_dtt (by omega), gd_inB (by omega) (by omega), Int.toNat_natCast, hx]
    generalize fr[j] = v at *
    rw [← List.append_assoc]
    generalize base ++ Sp.flat (fr.take j) = o at *
    rw [gd_room (by omega) (by omega), gd_room (by rw [List.length_append, List.length_singleton]; omega) (by rw [List.length_append, List.length_singleton]; omega), wi64 (n := v + 1099511627776) (by omega) (by omega), wi64 (n := (j : Int) + 1) (by omega) (by omega), Int.fdiv_eq_ediv_of_nonneg _ (by decide), and_32 (by omega) (by omega), wu32' (n := (v + 1099511627776) / 4294967296) (by omega) (by omega), wu32' (n := (v + 1099511627776) % 4294967296) (by omega) (by omega)]
    push_cast
    simp [Sp.flat, List.append_assoc]) (fun m => by
    show Sp.L_6_0 (m + 1) fr fr.length fr.length (base ++ Sp.flat (fr.take fr.length)) = _
    rw [Sp.L_6_0, cond_dff (by omega), List.take_length])
  simpa [Sp.flat] using h
theorem pack_ok (f : FaT) : F_6 f = some (bif Sp.good f then (Sp.wpk f, 0, ()) else ([], 1, ())) := by
  cases hg : Sp.good f
  · -- an error
    have hg2 := hg
    unfold Sp.good at hg2
    unfold F_6
    simp only [wi_pv, gd_tt]
    cases h1 : Sp.wi f.1 31
    · rfl
    cases h2 : Sp.wi f.2.2.1 2
    · rfl
    cases h3 : Sp.wi f.2.2.2.1 254
    · rfl
    cases h4 : Sp.wi f.2.2.2.2.1 255
    · rfl
    cases h5 : Sp.wi f.2.2.2.2.2.2.1 1073741824
    · rfl
    simp only [Bool.not_true, cond_f]
    by_cases h6 : (f.2.2.2.2.2.1.length : Int) > 8
    · rw [cond_dtt h6]
    rw [h1, h2, h3, h4, h5, decide_eq_true (by omega)] at hg2
    simp only [Bool.true_and] at hg2
    unfold Sp.vals at hg2
    have hf := find0 (fun m i => Sp.L_6_20_0_0 m f.2.2.2.2.2.1 f.2.2.2.2.2.1.length i f) (n := f.2.2.2.2.2.1.length) (fun j => !Sp.val (f.2.2.2.2.2.1.getD j 0)) (ex := fun j => some (.e0 (j : Int) f)) (e1 := some (.e1 f)) (by omega) (fun m j hj => by
      show Sp.L_6_20_0_0 (m + 1) f.2.2.2.2.2.1 f.2.2.2.2.2.1.length j f = bif !Sp.val (f.2.2.2.2.2.1.getD j 0) then some (.e0 (j : Int) f) else Sp.L_6_20_0_0 m f.2.2.2.2.2.1 f.2.2.2.2.2.1.length ((j + 1 : Nat) : Int) f
      rw [Sp.L_6_20_0_0, cond_dtt (by omega), gd_inB (by omega) (by omega), Int.toNat_natCast, (val_pv _).1, (val_pv _).2, gd_tt, wi64 (by omega) (by omega)]
      push_cast
      rfl) (fun m => by
      show Sp.L_6_20_0_0 (m + 1) f.2.2.2.2.2.1 f.2.2.2.2.2.1.length f.2.2.2.2.2.1.length f = _
      rw [Sp.L_6_20_0_0, cond_dff (by omega)])
    rw [cond_dff h6, hf]
    cases hk : fnd (fun j => !Sp.val (f.2.2.2.2.2.1.getD j 0)) f.2.2.2.2.2.1.length 0 with
    | none => rw [hk] at hg2; cases hg2
    | some k =>
      simp only [Sp.B_6_20_0_0]
      rw [cond_dtt (by omega)]
  · obtain ⟨h1, h2, h3, h4, h5, h6, h7⟩ := good_iff.1 hg
    unfold F_6
    simp only [wi_pv, gd_tt]
    rw [wi_iff.2 h1, wi_iff.2 h2, wi_iff.2 h3, wi_iff.2 h4, wi_iff.2 h5]
    simp only [Bool.not_true, cond_f]
    have hf := run0 (fun m i (_ : Unit) => Sp.L_6_20_0_0 m f.2.2.2.2.2.1 f.2.2.2.2.2.1.length i f) (n := f.2.2.2.2.2.1.length) (fun _ => ()) (r := some (.e1 f)) (by omega) (fun m j hj => by
      show Sp.L_6_20_0_0 (m + 1) f.2.2.2.2.2.1 f.2.2.2.2.2.1.length j f = Sp.L_6_20_0_0 m f.2.2.2.2.2.1 f.2.2.2.2.2.1.length ((j + 1 : Nat) : Int) f
      have hvj := h7 f.2.2.2.2.2.1[j] (List.getElem_mem hj)
      rw [Sp.L_6_20_0_0, cond_dtt (by omega), gd_inB (by omega) (by omega), Int.toNat_natCast, (val_pv _).1, (val_pv _).2, gd_tt, getD_at 0 hj, wi64 (by omega) (by omega)]
      have hv : Sp.val f.2.2.2.2.2.1[j] = true := by simp [Sp.val, hvj]
      rw [hv]
      push_cast
      rfl) (fun m => by
      show Sp.L_6_20_0_0 (m + 1) f.2.2.2.2.2.1 f.2.2.2.2.2.1.length f.2.2.2.2.2.1.length f = _
      rw [Sp.L_6_20_0_0, cond_dff (by omega)])
    have hf' : Sp.L_6_20_0_0 4611686018427387904 f.2.2.2.2.2.1 f.2.2.2.2.2.1.length 0 f = _ := hf
    rw [cond_dff (by omega), hf']
    simp only [Sp.B_6_20_0_0]
    rw [hdr_ok hg, wu32' (n := f.2.2.2.2.2.2.1) (by omega) (by omega), wu32' (n := (f.2.2.2.2.2.1.length : Int)) (by omega) (by omega), pack_loop _ _ h7 h6 (by simp)]
    rfl
theorem pack_pv (f : FaT) : Sp.p_6 f = true ∧ Sp.v_6 f = (bif Sp.good f then (Sp.wpk f, 0, ()) else ([], 1, ())) := pv_6 f (pack_ok f)
end Go.Ev
set_option linter.unusedSimpArgs false
set_option linter.unusedVariables false
namespace Go.Ev
open Go
set_option maxRecDepth 100000
set_option maxHeartbeats 4000000
def Sp.zeroF : FaT := (0, 0, 0, 0, 0, [], 0, ())
theorem unp_loop (l : List Int) (n : Nat) (hl : l.length = 3 + 2 * n) (hn : n ≤ 100) (hw : ∀ x ∈ l, 0 ≤ x ∧ x < 4294967296) (p2 p3 p4 p5 p6 : Int) (p7 : Int × Unit) (p8 : List Int) (p9 p10 p11 p12 p13 : Int) (p14 : Int × Unit) :
    Sp.L_7_0 4611686018427387904 l 3 p2 p3 p4 p5 p6 p7 p8 p9 p10 p11 p12 p13 p14 [] = (match fnd (fun j => decide (l.getD (3 + 2 * j) 0 > 512)) n 0 with | some _ => some .e0 | none => some (.e1 p2 p3 p4 p5 p6 p7 p8 p9 p10 p11 p12 p13 p14 (Sp.unflat (l.drop 3)))) := by
  have hat : ∀ j, j < l.length → 0 ≤ l.getD j 0 ∧ l.getD j 0 < 4294967296 := by
    intro j hj
    rw [getD_at 0 hj]
    exact hw _ (List.getElem_mem hj)
  have h := find0 (fun m i => Sp.L_7_0 m l (3 + 2 * i) p2 p3 p4 p5 p6 p7 p8 p9 p10 p11 p12 p13 p14 (Sp.unflat ((l.drop 3).take (2 * i.toNat)))) (n := n) (fun j => decide (l.getD (3 + 2 * j) 0 > 512)) (ex := fun _ => some .e0) (e1 := some (.e1 p2 p3 p4 p5 p6 p7 p8 p9 p10 p11 p12 p13 p14 (Sp.unflat (l.drop 3)))) (by omega) (fun m j hj => by
    show Sp.L_7_0 (m + 1) l (3 + 2 * (j : Int)) p2 p3 p4 p5 p6 p7 p8 p9 p10 p11 p12 p13 p14 (Sp.unflat ((l.drop 3).take (2 * j))) = bif decide (l.getD (3 + 2 * j) 0 > 512) then some .e0 else Sp.L_7_0 m l (3 + 2 * ((j + 1 : Nat) : Int)) p2 p3 p4 p5 p6 p7 p8 p9 p10 p11 p12 p13 p14 (Sp.unflat ((l.drop 3).take (2 * (j + 1))))
    have hlen : (Sp.unflat ((l.drop 3).take (2 * j))).length = j := by
      refine upfl_len j _ ?_
      rw [List.length_take, List.length_drop]; omega
    rw [unflat_snoc j (l.drop 3) (by rw [List.length_drop]; omega)]
    have g1 : (l.drop 3).getD (2 * j) 0 = l.getD (3 + 2 * j) 0 := by simp [List.getD_eq_getElem?_getD]
    have g2 : (l.drop 3).getD (2 * j + 1) 0 = l.getD (3 + 2 * j + 1) 0 := by simp [List.getD_eq_getElem?_getD, Nat.add_assoc]
    rw [g1, g2]
    have b1 := hat (3 + 2 * j) (by omega)
    have b2 := hat (3 + 2 * j + 1) (by omega)
    rw [Sp.L_7_0, cond_dtt (by omega), gd_inB (by omega) (by omega), show (3 + 2 * (j : Int)).toNat = 3 + 2 * j by omega]
    generalize Sp.unflat ((l.drop 3).take (2 * j)) = fr at *
    by_cases hh : l.getD (3 + 2 * j) 0 > 512
    · rw [cond_dtt hh, cond_dtt hh]
    rw [cond_dff hh, cond_dff hh, gd_inB (by omega) (by omega), wi64 (n := 3 + 2 * (j : Int) + 1) (by omega) (by omega), gd_inB (by omega) (by omega), gd_room (by omega) (by omega), show (3 + 2 * (j : Int) + 1).toNat = 3 + 2 * j + 1 by omega]
    generalize l.getD (3 + 2 * j) 0 = a at *
    generalize l.getD (3 + 2 * j + 1) 0 = b at *
    rw [wi64 (n := a) (by omega) (by omega), wi64 (n := b) (by omega) (by omega), wi64 (n := a * 4294967296) (by omega) (by omega), wi64 (n := a * 4294967296 + b) (by omega) (by omega), wi64 (n := a * 4294967296 + b - 1099511627776) (by omega) (by omega), wi64 (n := 3 + 2 * (j : Int) + 2) (by omega) (by omega), show 3 + 2 * (j : Int) + 2 = 3 + 2 * ((j + 1 : Nat) : Int) by omega]) (fun m => by
    show Sp.L_7_0 (m + 1) l (3 + 2 * (n : Int)) p2 p3 p4 p5 p6 p7 p8 p9 p10 p11 p12 p13 p14 (Sp.unflat ((l.drop 3).take (2 * n))) = _
    rw [Sp.L_7_0, cond_dff (by omega), List.take_of_length_le (by rw [List.length_drop]; omega)])
  exact h
theorem unp_ok (l : List Int) (hw : ∀ x ∈ l, 0 ≤ x ∧ x < 4294967296) : F_7 l = some (bif Sp.cond l then (Sp.xof l, 0, ()) else (Sp.zeroF, 3, ())) := by
  have hat : ∀ j, j < l.length → 0 ≤ l.getD j 0 ∧ l.getD j 0 < 4294967296 := by
    intro j hj
    rw [getD_at 0 hj]
    exact hw _ (List.getElem_mem hj)
  unfold F_7 Sp.cond
  by_cases h1 : (l.length : Int) < 3
  · rw [cond_dtt h1, decide_eq_true h1]; rfl
  rw [cond_dff h1, decide_eq_false h1, Bool.not_false, Bool.true_and]
  have b0 := hat 0 (by omega)
  have b1 := hat 1 (by omega)
  have b2 := hat 2 (by omega)
  simp only [gd_inB (show (0 : Int) ≤ 2 by decide) (show (2 : Int) < (l.length : Nat) by omega), gd_inB (show (0 : Int) ≤ 1 by decide) (show (1 : Int) < (l.length : Nat) by omega), gd_inB (show (0 : Int) ≤ 0 by decide) (show (0 : Int) < (l.length : Nat) by omega)]
  by_cases h2 : l.getD 2 0 > 8
  · rw [cond_dtt h2, decide_eq_true h2]; rfl
  rw [cond_dff h2, decide_eq_false h2, Bool.not_false, Bool.true_and, wi64 (n := l.getD 2 0) (by omega) (by omega), wi64 (n := 2 * l.getD 2 0) (by omega) (by omega), wi64 (n := 3 + 2 * l.getD 2 0) (by omega) (by omega)]
  by_cases h3 : (l.length : Int) = 3 + 2 * l.getD 2 0
  rotate_left
  · rw [cond_ntt h3, beq_eq_false_iff_ne.2 h3]; rfl
  rw [cond_nff h3, beq_iff_eq.2 h3, Bool.true_and]
  by_cases h4 : l.getD 1 0 > 1073741824
  · rw [cond_dtt h4, decide_eq_true h4]; rfl
  rw [cond_dff h4, decide_eq_false h4, Bool.not_false, Bool.true_and, wi64 (n := l.getD 0 0) (by omega) (by omega), wi64 (n := l.getD 1 0) (by omega) (by omega)]
  by_cases h5 : Sp.andnI .i64 (Sp.andI .i64 (l.getD 0 0) 255) 22 = 0
  rotate_left
  · rw [cond_ntt h5, beq_eq_false_iff_ne.2 h5]; rfl
  rw [cond_nff h5, beq_iff_eq.2 h5, Bool.true_and, unp_loop l (l.getD 2 0).toNat (by omega) (by omega) hw]
  cases hk : fnd (fun j => decide (l.getD (3 + 2 * j) 0 > 512)) (l.getD 2 0).toNat 0 with
  | some k => rfl
  | none =>
    simp only [Sp.B_7_0, Option.isNone, Bool.true_and]
    have hx : ((Sp.andI .i64 (l.getD 0 0) 255, 0, Sp.andI .i64 (Int.fdiv (l.getD 0 0) 256) 255, Sp.andI .i64 (Int.fdiv (l.getD 0 0) 65536) 255, Int.fdiv (l.getD 0 0) 16777216, Sp.unflat (l.drop 3), l.getD 1 0, ()) : FaT) = Sp.xof l := rfl
    rw [hx, (pack_pv _).1, (pack_pv _).2, gd_tt]
    cases Sp.good (Sp.xof l) <;> rfl
theorem unp_pv (l : List Int) (hw : ∀ x ∈ l, 0 ≤ x ∧ x < 4294967296) : Sp.p_7 l = true ∧ Sp.v_7 l = (bif Sp.cond l then (Sp.xof l, 0, ()) else (Sp.zeroF, 3, ())) := pv_7 l (unp_ok l hw)
theorem flat_words {fr : List Int} (hv : ∀ x ∈ fr, -1099511627776 ≤ x ∧ x ≤ 1099511627776) : ∀ x ∈ Sp.flat fr, 0 ≤ x ∧ x < 4294967296 := by
  induction fr with
  | nil => intro x hx; simp [Sp.flat] at hx
  | cons v fr ih =>
    intro x hx
    have h0 := hv v (by simp)
    simp only [Sp.flat, List.mem_cons] at hx
    rcases hx with rfl | rfl | hx
    · omega
    · omega
    · exact ih (fun y hy => hv y (by simp [hy])) x hx
theorem flat_hi {fr : List Int} (hv : ∀ x ∈ fr, -1099511627776 ≤ x ∧ x ≤ 1099511627776) : ∀ j, j < fr.length → (Sp.flat fr).getD (2 * j) 0 ≤ 512 := by
  induction fr with
  | nil => intro j hj; simp at hj
  | cons v fr ih =>
    intro j hj
    have h0 := hv v (by simp)
    cases j with
    | zero => simp only [Sp.flat, List.getD_eq_getElem?_getD, Nat.mul_zero, List.getElem?_cons_zero, Option.getD_some]; omega
    | succ j =>
      have := ih (fun y hy => hv y (by simp [hy])) j (by simpa using hj)
      rw [show 2 * (j + 1) = 2 * j + 1 + 1 by omega]
      simp only [Sp.flat, List.getD_eq_getElem?_getD, List.getElem?_cons_succ] at this ⊢
      exact this
theorem hdr_b {f : FaT} (h : Sp.good f = true) : 0 ≤ Sp.hdr f ∧ Sp.hdr f < 4294967296 ∧ Sp.hdr f % 256 = Sp.andI .i64 f.1 22 ∧ Sp.hdr f / 256 % 256 = f.2.2.1 ∧ Sp.hdr f / 65536 % 256 = f.2.2.2.1 ∧ Sp.hdr f / 16777216 = f.2.2.2.2.1 := by
  obtain ⟨h1, h2, h3, h4, h5, h6, h7⟩ := good_iff.1 h
  have hs := st_22 h1.1 h1.2
  unfold Sp.hdr
  omega
theorem back1 {f : FaT} (h : Sp.good f = true) : (∀ x ∈ Sp.wpk f, 0 ≤ x ∧ x < 4294967296) ∧ Sp.xof (Sp.wpk f) = (Sp.andI .i64 f.1 22, 0, f.2.2) ∧ Sp.cond (Sp.wpk f) = true := by
  obtain ⟨h1, h2, h3, h4, h5, h6, h7⟩ := good_iff.1 h
  have hs := st_22 h1.1 h1.2
  obtain ⟨q1, q2, q3, q4, q5, q6⟩ := hdr_b h
  have hx : Sp.xof (Sp.wpk f) = (Sp.andI .i64 f.1 22, 0, f.2.2) := by
    unfold Sp.xof Sp.wpk
    have e0 : ([Sp.hdr f, f.2.2.2.2.2.2.1, (f.2.2.2.2.2.1.length : Int)] ++ Sp.flat f.2.2.2.2.2.1).getD 0 0 = Sp.hdr f := rfl
    have e1 : ([Sp.hdr f, f.2.2.2.2.2.2.1, (f.2.2.2.2.2.1.length : Int)] ++ Sp.flat f.2.2.2.2.2.1).getD 1 0 = f.2.2.2.2.2.2.1 := rfl
    have e3 : ([Sp.hdr f, f.2.2.2.2.2.2.1, (f.2.2.2.2.2.1.length : Int)] ++ Sp.flat f.2.2.2.2.2.1).drop 3 = Sp.flat f.2.2.2.2.2.1 := rfl
    rw [e0, e1, e3, unflat_flat, and_255 q1 (by omega), Int.fdiv_eq_ediv_of_nonneg _ (by decide), Int.fdiv_eq_ediv_of_nonneg _ (by decide), Int.fdiv_eq_ediv_of_nonneg _ (by decide), and_255 (by omega) (by omega), and_255 (by omega) (by omega), q3, q4, q5, q6]
  refine ⟨?_, hx, ?_⟩
  · intro x hx
    unfold Sp.wpk at hx
    rw [List.mem_append] at hx
    rcases hx with hx | hx
    · simp only [List.mem_cons, List.not_mem_nil, or_false] at hx
      rcases hx with rfl | rfl | rfl
      · exact ⟨q1, q2⟩
      · omega
      · omega
    · exact flat_words h7 x hx
  · unfold Sp.cond
    have hl : (Sp.wpk f).length = 3 + 2 * f.2.2.2.2.2.1.length := by
      unfold Sp.wpk
      rw [List.length_append, pfl_len]; rfl
    have e1 : (Sp.wpk f).getD 1 0 = f.2.2.2.2.2.2.1 := rfl
    have e2 : (Sp.wpk f).getD 2 0 = (f.2.2.2.2.2.1.length : Int) := rfl
    have e0 : Sp.andI .i64 ((Sp.wpk f).getD 0 0) 255 = Sp.andI .i64 f.1 22 := by
      show Sp.andI .i64 (Sp.hdr f) 255 = _
      rw [and_255 q1 (by omega), q3]
    have hgx : Sp.good (Sp.xof (Sp.wpk f)) = true := by
      rw [hx, good_iff]
      exact ⟨⟨hs.1, hs.2.1⟩, h2, h3, h4, h5, h6, h7⟩
    have hn : (fnd (fun j => decide ((Sp.wpk f).getD (3 + 2 * j) 0 > 512)) (f.2.2.2.2.2.1.length : Int).toNat 0).isNone = true := by
      rw [Option.isNone_iff_eq_none, fnd_none]
      intro j _ hj
      have hj : j < f.2.2.2.2.2.1.length := by omega
      have := flat_hi h7 j hj
      have e : (Sp.wpk f).getD (3 + 2 * j) 0 = (Sp.flat f.2.2.2.2.2.1).getD (2 * j) 0 := by
        unfold Sp.wpk
        rw [List.getD_eq_getElem?_getD, List.getElem?_append_right (by simp only [List.length_cons, List.length_nil]; omega), List.getD_eq_getElem?_getD]
        congr 2
        simp
      rw [e]
      exact decide_eq_false (by omega)
    rw [e1, e2, e0, hgx, hn, hs.2.2.1, decide_eq_false (by omega), decide_eq_false (by omega), decide_eq_false (by omega), beq_iff_eq.2 (by omega)]
    rfl
theorem back2 {l : List Int} (hw : ∀ x ∈ l, 0 ≤ x ∧ x < 4294967296) (h : Sp.cond l = true) : Sp.good (Sp.xof l) = true ∧ Sp.wpk (Sp.xof l) = l := by
  simp only [Sp.cond, Bool.and_eq_true, Bool.not_eq_true', decide_eq_false_iff_not, beq_iff_eq] at h
  obtain ⟨h1, h2, h3, h4, h5, h6, h7⟩ := h
  refine ⟨h7, ?_⟩
  have hat : ∀ j, j < l.length → 0 ≤ l.getD j 0 ∧ l.getD j 0 < 4294967296 := by
    intro j hj
    rw [getD_at 0 hj]
    exact hw _ (List.getElem_mem hj)
  have b0 := hat 0 (by omega)
  have b1 := hat 1 (by omega)
  have b2 := hat 2 (by omega)
  match l, h1 with
  | a :: b :: c :: t, _ =>
    have ea : (a :: b :: c :: t).getD 0 0 = a := rfl
    have eb : (a :: b :: c :: t).getD 1 0 = b := rfl
    have ec : (a :: b :: c :: t).getD 2 0 = c := rfl
    have et : (a :: b :: c :: t).drop 3 = t := rfl
    rw [ea] at b0 h5
    rw [eb] at b1
    rw [ec] at b2 h2 h3
    have htl : t.length = 2 * c.toNat := by simp only [List.length_cons] at h3; omega
    have hut := upfl_len c.toNat t htl
    have hfu := flat_unflat c.toNat t htl (fun x hx => hw x (by simp [hx]))
    have h255 : Sp.andI .i64 a 255 = a % 256 := and_255 b0.1 (by omega)
    rw [h255] at h5
    have hst := st_back (s := a % 256) (by omega) (by omega) h5
    unfold Sp.wpk Sp.hdr Sp.xof
    rw [ea, eb, et]
    dsimp only
    rw [h255, hst, Int.fdiv_eq_ediv_of_nonneg _ (by decide), Int.fdiv_eq_ediv_of_nonneg _ (by decide), Int.fdiv_eq_ediv_of_nonneg _ (by decide), and_255 (by omega) (by omega), and_255 (by omega) (by omega), hut, hfu, show a % 256 + 256 * (a / 256 % 256) + 65536 * (a / 65536 % 256) + 16777216 * (a / 16777216) = a by omega, show ((c.toNat : Nat) : Int) = c by omega]
    rfl
  | [], h1 => exact absurd (by decide) h1
  | [_], h1 => exact absurd (show (1 : Int) < 3 by decide) h1
  | [_, _], h1 => exact absurd (show (2 : Int) < 3 by decide) h1
theorem eqw_pv (a : List Int) (h : a.length ≤ 1000) : Sp.p_9 a a = true ∧ Sp.v_9 a a = (true, ()) := by
  refine pv_9 a a ?_
  unfold F_9
  rw [cond_nff rfl]
  have h1 := run0 (fun m i (_ : Unit) => Sp.L_9_0 m a a a.length i) (n := a.length) (fun _ => ()) (r := some .e1) (by omega) (fun m j hj => by
    show Sp.L_9_0 (m + 1) a a a.length (j : Int) = Sp.L_9_0 m a a a.length ((j + 1 : Nat) : Int)
    rw [Sp.L_9_0, cond_dtt (by omega), gd_inB (by omega) (by omega), gd_inB (by omega) (by omega), cond_nff rfl, wi64 (by omega) (by omega)]
    push_cast
    rfl) (fun m => by
    show Sp.L_9_0 (m + 1) a a a.length a.length = _
    rw [Sp.L_9_0, cond_dff (by omega)])
  have e1 : Sp.L_9_0 4611686018427387904 a a a.length 0 = _ := h1
  rw [e1]
  rfl
theorem num_pv (l : List Int) (h : l.length < 4611686018427387904) : Sp.p_19 l l = true ∧ Sp.v_19 l l = (true, ()) := by
  refine pv_19 l l ?_
  unfold F_19
  rw [cond_nff rfl]
  have h1 := run0 (fun m i (_ : Unit) => Sp.L_19_0 m l l i) (n := l.length) (fun _ => ()) (r := some .e1) h (fun m j hj => by
    show Sp.L_19_0 (m + 1) l l (j : Int) = Sp.L_19_0 m l l ((j + 1 : Nat) : Int)
    rw [Sp.L_19_0, cond_dtt (by omega), gd_inB (by omega) (by omega), gd_inB (by omega) (by omega), cond_nff rfl, wi64 (by omega) (by omega)]
    push_cast
    rfl) (fun m => by
    show Sp.L_19_0 (m + 1) l l l.length = _
    rw [Sp.L_19_0, cond_dff (by omega)])
  have e1 : Sp.L_19_0 4611686018427387904 l l 0 = _ := h1
  rw [e1]
  rfl
theorem fsame_pv (f : FaT) (h : f.2.2.2.2.2.1.length < 4611686018427387904) : Sp.p_12 f f = true ∧ Sp.v_12 f f = (true, ()) := by
  refine pv_12 f f ?_
  unfold F_12
  simp only [beq_self_eq_true, cond_t, num_pv _ h, gd_tt]
theorem back_J (l : List Int) (hw : ∀ x ∈ l, 0 ≤ x ∧ x < 4294967296) (hl : l.length ≤ 100) : Sp.B_4_0 (Sp.J_4_0 l) (fun (y16 : List Int) => some ((Sp.v_7 y16).2.1 == (3 : Int))) (fun (y17 : List Int) => some (Sp.v_9 (Sp.v_6 (Sp.v_7 y17).1).1 y17).1) (some false) = some true := by
  have hu := unp_pv l hw
  unfold Sp.J_4_0
  rw [hu.1, hu.2, gd_tt]
  cases hc : Sp.cond l
  · rw [hc] at hu
    rw [cond_f, cond_ntt (by decide)]
    simp only [Sp.B_4_0]
    rw [hu.2]
    rfl
  · rw [hc] at hu
    obtain ⟨h1, h2⟩ := back2 hw hc
    have hp := pack_pv (Sp.xof l)
    rw [h1, h2] at hp
    rw [cond_t, cond_nff rfl]
    dsimp only
    rw [hp.1, hp.2, gd_tt, cond_t, cond_ett rfl]
    dsimp only
    rw [(eqw_pv l (by omega)).1, gd_tt]
    simp only [Sp.B_4_0]
    rw [hu.2, cond_t]
    dsimp only
    rw [hp.2, cond_t]
    dsimp only
    rw [(eqw_pv l (by omega)).2]
theorem plain_4 (f : FaT) (l : List Int) (_ : wfD (.pair (.int .i64) (.pair (.int .i64) (.pair (.int .i64) (.pair (.int .i64) (.pair (.int .i64) (.pair (.slice (.int .i64)) (.pair (.int .i64) .unit))))))) f) (wl : wfD (.slice (.int .u32)) l) : F_4 f l = some true := by
  have hw : ∀ x ∈ l, 0 ≤ x ∧ x < 4294967296 := by
    intro x hx
    have h := wl x hx
    simp [wfD, Lit.wf, IntKind.min, IntKind.max, IntKind.signed, IntKind.bits] at h
    omega
  unfold F_4
  rw [aw_pv.1, aw_pv.2, gd_tt, Bool.not_true, cond_f]
  by_cases h1 : (f.2.2.2.2.2.1.length : Int) > 100
  · rw [cond_dtt h1]; rfl
  rw [cond_dff h1]
  by_cases h2 : (l.length : Int) > 100
  · rw [cond_dtt h2]; rfl
  rw [cond_dff h2, (pack_pv f).1, (pack_pv f).2, gd_tt]
  cases hg : Sp.good f
  · rw [cond_f, cond_eff (by decide)]
    exact back_J l hw (by omega)
  · obtain ⟨h3, h4, h5⟩ := back1 hg
    have hu := unp_pv _ h3
    rw [h5] at hu
    rw [cond_t, cond_ett rfl]
    dsimp only
    rw [hu.1, hu.2, gd_tt, cond_t, cond_nff rfl]
    dsimp only
    rw [h4, (fsame_pv (Sp.andI .i64 f.1 22, 0, f.2.2) (by dsimp only; omega)).1, (fsame_pv (Sp.andI .i64 f.1 22, 0, f.2.2) (by dsimp only; omega)).2, gd_tt]
    simp only [Bool.not_true, cond_f]
    exact back_J l hw (by omega)
end Go.Ev
