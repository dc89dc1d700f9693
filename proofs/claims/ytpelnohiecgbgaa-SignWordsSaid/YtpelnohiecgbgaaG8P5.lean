/- Helpers: functions of the program as Lean functions, and what they compute. No condition. -/
import Derived.Test.YtpelnohiecgbgaaG8P4
import Derived.Test.YtpelnohiecgbgaaEvPart4
import Derived.Test.YtpelnohiecgbgaaG8P1
import Derived.Test.YtpelnohiecgbgaaG8P2
import Derived.Test.YtpelnohiecgbgaaEvPart2
import Derived.Test.YtpelnohiecgbgaaG8P0
import Derived.Test.YtpelnohiecgbgaaG8P3
set_option maxRecDepth 10000
set_option linter.unusedVariables false
set_option linter.unusedSimpArgs false
set_option linter.unusedSimpArgs false
set_option linter.unusedVariables false
namespace Go.Ev
open Go
set_option maxRecDepth 100000
set_option maxHeartbeats 4000000
namespace Sp
def wd (a b c d : Int) : Int := orI .u32 (orI .u32 (orI .u32 (IntKind.wrap .u32 (IntKind.wrap .u32 a * 16777216)) (IntKind.wrap .u32 (IntKind.wrap .u32 b * 65536))) (IntKind.wrap .u32 (IntKind.wrap .u32 c * 256))) (IntKind.wrap .u32 d)
def hwd (h : List Int) (i : Nat) : Int := wd (h.getD (4 * i) 0) (h.getD (4 * i + 1) 0) (h.getD (4 * i + 2) 0) (h.getD (4 * i + 3) 0)
def hws (h : List Int) (n : Nat) : List Int := (List.range n).map (hwd h)
def cws (l : List (List Int)) : List Int := l.flatMap fun h => hws h 8
def wordsF (s : SigT) : List Int := [IntKind.wrap .u32 s.1] ++ cws s.2.1 ++ cws s.2.2.1
end Sp
theorem hws_len (h : List Int) (n : Nat) : (Sp.hws h n).length = n := by simp [Sp.hws]
theorem hws_succ (h : List Int) (n : Nat) : Sp.hws h (n + 1) = Sp.hws h n ++ [Sp.hwd h n] := by simp [Sp.hws, List.range_succ]
theorem cws_len : ∀ l : List (List Int), (Sp.cws l).length = 8 * l.length
  | [] => rfl
  | h :: l => by
    have := cws_len l
    simp only [Sp.cws, List.flatMap_cons, List.length_append, List.length_cons, hws_len] at this ⊢
    omega
theorem cws_succ (l : List (List Int)) (j : Nat) (hj : j < l.length) : Sp.cws (l.take (j + 1)) = Sp.cws (l.take j) ++ Sp.hws (l.getD j h0) 8 := by
  rw [List.take_succ_eq_append_getElem hj, getD_at _ hj]
  simp only [Sp.cws, List.flatMap_append, List.flatMap_cons, List.flatMap_nil, List.append_nil]
theorem seg_get (h : List Int) (hl : h.length = 32) (i k : Nat) (hi : i < 8) (hk : k < 4) : (List.take (32 - 4 * i) (List.drop (4 * i) h)).getD k 0 = h.getD (4 * i + k) 0 := by
  rw [List.getD_eq_getElem?_getD, List.getD_eq_getElem?_getD, List.getElem?_take, if_pos (by omega), List.getElem?_drop]
theorem sword_ok (h : List Int) (hl : h.length = 32) (i : Nat) (hi : i < 8) : F_47 (List.take (32 - 4 * i) (List.drop (4 * i) h)) = some (Sp.hwd h i, ()) := by
  have hlen : (List.take (32 - 4 * i) (List.drop (4 * i) h)).length = 32 - 4 * i := by simp; omega
  unfold F_47
  rw [hlen, gd_inB (by omega) (by omega), gd_inB (by omega) (by omega), gd_inB (by omega) (by omega), gd_inB (by omega) (by omega), seg_get h hl i 0 hi (by omega), seg_get h hl i 1 hi (by omega), seg_get h hl i 2 hi (by omega), seg_get h hl i 3 hi (by omega)]
  rfl
theorem hloop (h : List Int) (hl : h.length = 32) (p1 p2 : Int) (p3 : List (List Int)) (p4 p5 : Int) (p6 : List Int) (h6 : p6.length ≤ 1000000) (p8 : List (List (List Int))) : Sp.L_25_2 4611686018427387904 0 p1 p2 p3 p4 p5 p6 h p8 = some (.e0 p1 p2 p3 p4 p5 (p6 ++ Sp.hws h 8) p8) := by
  have := run0 (fun m i s => Sp.L_25_2 m (4 * i) p1 p2 p3 p4 p5 s h p8) (n := 8) (fun j => p6 ++ Sp.hws h j) (r := some (.e0 p1 p2 p3 p4 p5 (p6 ++ Sp.hws h 8) p8)) (by decide) (fun m j hj => by
    have hp := pv_47 _ (sword_ok h hl j hj)
    have e : Int.toNat (4 * (j : Int)) = 4 * j := by omega
    show Sp.L_25_2 (m + 1) (4 * (j : Int)) p1 p2 p3 p4 p5 (p6 ++ Sp.hws h j) h p8 = _
    rw [Sp.L_25_2, cond_dtt (by omega), gd_sl3 (by omega) (by omega) (by omega), e, hp.1, hp.2, Bool.and_true, Bool.and_true, gd_dec (by omega), gd_room (by rw [List.length_append, hws_len]; omega) (by rw [List.length_append, hws_len]; omega), wi64 (by omega) (by omega), hws_succ, List.append_assoc, show 4 * (j : Int) + 4 = 4 * ((j + 1 : Nat) : Int) by omega]) (fun m => by
    show Sp.L_25_2 (m + 1) 32 p1 p2 p3 p4 p5 (p6 ++ Sp.hws h 8) h p8 = _
    rw [Sp.L_25_2, cond_dff (by decide)])
  simpa [Sp.hws] using this
theorem cloop (p0 p1 : Int) (l : List (List Int)) (hl : ∀ h ∈ l, h.length = 32) (hn : l.length ≤ 1000) (p5 : List Int) (h5 : p5.length ≤ 100000) (p6 : List (List (List Int))) : Sp.L_25_1 4611686018427387904 p0 p1 l l.length 0 p5 p6 = some (.e0 p0 p1 (p5 ++ Sp.cws l) p6) := by
  have := run0 (fun m i s => Sp.L_25_1 m p0 p1 l l.length i s p6) (n := l.length) (fun j => p5 ++ Sp.cws (l.take j)) (r := some (.e0 p0 p1 (p5 ++ Sp.cws l) p6)) (by omega) (fun m j hj => by
    have hg : (l.getD j h0).length = 32 := by rw [getD_at _ hj]; exact hl _ (List.getElem_mem hj)
    have hc : (Sp.cws (l.take j)).length ≤ 8000 := by rw [cws_len, List.length_take]; omega
    show Sp.L_25_1 (m + 1) p0 p1 l l.length j (p5 ++ Sp.cws (l.take j)) p6 = _
    rw [Sp.L_25_1, cond_dtt (by omega), gd_inB (by omega) (by omega), Int.toNat_natCast, hloop _ hg _ _ _ _ _ _ (by rw [List.length_append]; omega)]
    simp only [Sp.B_25_2]
    rw [wi64 (by omega) (by omega), cws_succ l j hj, List.append_assoc]
    rfl) (fun m => by
    show Sp.L_25_1 (m + 1) p0 p1 l l.length l.length (p5 ++ Sp.cws (l.take l.length)) p6 = _
    rw [Sp.L_25_1, cond_dff (by omega), List.take_length])
  simpa [Sp.cws] using this
theorem words_ok (s : SigT) (h1 : ∀ h ∈ s.2.1, h.length = 32) (h2 : ∀ h ∈ s.2.2.1, h.length = 32) : F_25 s = some (if Sp.shp s = true then (Sp.wordsF s, 0, ()) else ([], 1, ())) := by
  have a := pv_38 _ (shp_ok s)
  unfold F_25
  rw [a.1, a.2, gd_tt]
  cases hs : Sp.shp s
  · rfl
  · obtain ⟨_, _, h3, h4⟩ : 0 ≤ s.1 ∧ s.1 < 4 ∧ s.2.1.length = 67 ∧ s.2.2.1.length = 2 := by
      simp only [Sp.shp, Bool.and_eq_true, decide_eq_true_eq, beq_iff_eq] at hs
      omega
    have l1 := cws_len s.2.1
    simp only [Bool.not_true, cond_f, if_true]
    have e0 : Sp.L_25_0 4611686018427387904 ((2 : Nat) : Int) 0 [IntKind.wrap .u32 s.1] [s.2.1, s.2.2.1] = some (.e0 (Sp.wordsF s)) := by
      show Sp.L_25_0 (4611686018427387901 + 1 + 1 + 1) ((2 : Nat) : Int) 0 [IntKind.wrap .u32 s.1] [s.2.1, s.2.2.1] = _
      rw [Sp.L_25_0, cond_dtt (by decide), gd_inB (by simp) (by simp)]
      simp only [Int.toNat_zero, List.getD_cons_zero, List.length_cons, List.length_nil, Nat.zero_add]
      rw [Bool.and_true, gd_dec (by decide), cloop _ _ _ h1 (by omega) _ (by simp)]
      simp only [Sp.B_25_1]
      rw [show IntKind.wrap .i64 (0 + 1) = 1 from by decide, Sp.L_25_0, cond_dtt (by decide), gd_inB (by simp) (by simp)]
      simp only [show Int.toNat 1 = 1 from rfl, List.getD_cons_succ, List.getD_cons_zero, List.length_cons, List.length_nil]
      rw [Bool.and_true, gd_dec (by decide), cloop _ _ _ h2 (by omega) _ (by rw [List.length_append, l1, List.length_singleton]; omega)]
      simp only [Sp.B_25_1]
      rw [show IntKind.wrap .i64 (1 + 1) = 2 from by decide, Sp.L_25_0, cond_dff (by decide)]
      rfl
    rw [e0]
    rfl
/-! the reference -/
theorem rhws_ok (h : List Int) : F_48 h = some (Sp.hws h 8, ()) := by
  have := run0 (fun m i s => Sp.L_48_0 m (4 * i) h s) (n := 8) (fun j => Sp.hws h j) (r := some (.e0 (Sp.hws h 8))) (by decide) (fun m j hj => by
    have e0 : Int.toNat (4 * (j : Int)) = 4 * j := by omega
    have e1 : Int.toNat (4 * (j : Int) + 1) = 4 * j + 1 := by omega
    have e2 : Int.toNat (4 * (j : Int) + 2) = 4 * j + 2 := by omega
    have e3 : Int.toNat (4 * (j : Int) + 3) = 4 * j + 3 := by omega
    show Sp.L_48_0 (m + 1) (4 * (j : Int)) h (Sp.hws h j) = _
    rw [Sp.L_48_0, cond_dtt (by omega), wi64 (n := 4 * (j : Int) + 1) (by omega) (by omega), wi64 (n := 4 * (j : Int) + 2) (by omega) (by omega), wi64 (n := 4 * (j : Int) + 3) (by omega) (by omega), wi64 (n := 4 * (j : Int) + 4) (by omega) (by omega), gd_inB (by omega) (by omega), gd_inB (by omega) (by omega), gd_inB (by omega) (by omega), gd_inB (by omega) (by omega), e0, e1, e2, e3, Bool.and_true, Bool.and_true, Bool.and_true, Bool.and_true, gd_dec (by omega), gd_dec (by omega), gd_dec (by omega), gd_dec (by omega), gd_room (by rw [hws_len]; omega) (by rw [hws_len]; omega), hws_succ, show 4 * (j : Int) + 4 = 4 * ((j + 1 : Nat) : Int) by omega]
    rfl) (fun m => by
    show Sp.L_48_0 (m + 1) 32 h (Sp.hws h 8) = _
    rw [Sp.L_48_0, cond_dff (by decide)])
  unfold F_48
  have e : Sp.L_48_0 4611686018427387904 0 h [] = some (.e0 (Sp.hws h 8)) := this
  rw [e]
  rfl
theorem rhws_pv (h : List Int) : Sp.p_48 h = true ∧ Sp.v_48 h = (Sp.hws h 8, ()) := pv_48 h (rhws_ok h)
theorem rwords_ok (s : SigT) (h3 : s.2.1.length = 67) (h4 : s.2.2.1.length = 2) : F_29 s = some (Sp.wordsF s, ()) := by
  have l1 := cws_len s.2.1
  have a := run0 (fun m i t => Sp.L_29_0 m i s t) (n := 67) (fun j => [IntKind.wrap .u32 s.1] ++ Sp.cws (s.2.1.take j)) (r := some (.e0 s ([IntKind.wrap .u32 s.1] ++ Sp.cws s.2.1))) (by decide) (fun m j hj => by
    have hc : (Sp.cws (s.2.1.take j)).length ≤ 8000 := by rw [cws_len, List.length_take]; omega
    show Sp.L_29_0 (m + 1) (j : Int) s ([IntKind.wrap .u32 s.1] ++ Sp.cws (s.2.1.take j)) = _
    rw [Sp.L_29_0, cond_dtt (by omega), gd_inB (by omega) (by omega), Int.toNat_natCast, (rhws_pv _).1, (rhws_pv _).2, gd_tt, gd_room (by rw [List.length_append, hws_len, List.length_singleton]; omega) (by rw [List.length_append, hws_len, List.length_singleton]; omega), wi64 (by omega) (by omega), cws_succ _ j (by omega), List.append_assoc]
    rfl) (fun m => by
    show Sp.L_29_0 (m + 1) 67 s _ = _
    rw [Sp.L_29_0, cond_dff (by decide), List.take_of_length_le (by omega)])
  have b := run0 (fun m i t => Sp.L_29_1 m i s t) (n := 2) (fun j => [IntKind.wrap .u32 s.1] ++ Sp.cws s.2.1 ++ Sp.cws (s.2.2.1.take j)) (r := some (.e0 (Sp.wordsF s))) (by decide) (fun m j hj => by
    have hc : (Sp.cws (s.2.2.1.take j)).length ≤ 8000 := by rw [cws_len, List.length_take]; omega
    show Sp.L_29_1 (m + 1) (j : Int) s ([IntKind.wrap .u32 s.1] ++ Sp.cws s.2.1 ++ Sp.cws (s.2.2.1.take j)) = _
    rw [Sp.L_29_1, cond_dtt (by omega), gd_inB (by omega) (by omega), Int.toNat_natCast, (rhws_pv _).1, (rhws_pv _).2, gd_tt, gd_room (by rw [List.length_append, List.length_append, hws_len, List.length_singleton]; omega) (by rw [List.length_append, List.length_append, hws_len, List.length_singleton]; omega), wi64 (by omega) (by omega), cws_succ _ j (by omega), ← List.append_assoc]
    rfl) (fun m => by
    show Sp.L_29_1 (m + 1) 2 s _ = _
    rw [Sp.L_29_1, cond_dff (by decide), List.take_of_length_le (by omega)]
    rfl)
  unfold F_29
  have a' : Sp.L_29_0 4611686018427387904 0 s [IntKind.wrap .u32 s.1] = some (.e0 s ([IntKind.wrap .u32 s.1] ++ Sp.cws s.2.1)) := a
  have b' : Sp.L_29_1 4611686018427387904 0 s ([IntKind.wrap .u32 s.1] ++ Sp.cws s.2.1) = some (.e0 (Sp.wordsF s)) := by simpa [Sp.cws] using b
  rw [a']
  simp only [Sp.B_29_0]
  rw [b']
  rfl
end Go.Ev
set_option linter.unusedSimpArgs false
set_option linter.unusedVariables false
namespace Go.Ev
open Go
set_option maxRecDepth 100000
set_option maxHeartbeats 4000000
namespace Sp
def byt (w : List Int) (k i : Nat) : Int := IntKind.wrap .u8 (Int.fdiv (w.getD (1 + 8 * k + i / 4) 0) (2 ^ (24 - 8 * (i % 4))))
def rdp (w : List Int) (k n : Nat) : List Int := (List.range 32).map fun i => if i < n then byt w k i else 0
def rdh (w : List Int) (k : Nat) : List Int := (List.range 32).map (byt w k)
def rdC (w : List Int) (n : Nat) : List (List Int) := (List.range (min n 67)).map (rdh w)
def rdP (w : List Int) (n : Nat) : List (List Int) := (List.range (n - 67)).map fun j => rdh w (67 + j)
def rd (w : List Int) : SigT := (IntKind.wrap .i64 (w.getD 0 0), rdC w 69, rdP w 69, ())
def okw (w : List Int) : Bool := decide (w.length = 553) && decide (w.getD 0 0 < 4)
end Sp
theorem rdp_zero (w : List Int) (k : Nat) : Sp.rdp w k 0 = List.replicate 32 0 := by
  unfold Sp.rdp
  apply List.ext_getElem
  · simp
  · intro i h1 h2; rw [List.getElem_replicate, List.getElem_map, List.getElem_range, if_neg (by omega)]
theorem rdp_full (w : List Int) (k : Nat) : Sp.rdp w k 32 = Sp.rdh w k := by
  unfold Sp.rdp Sp.rdh
  refine List.map_congr_left fun i hi => ?_
  rw [if_pos (by simpa using hi)]
theorem set_map (f : Nat → Int) (n a : Nat) (v : Int) : ((List.range n).map f).set a v = (List.range n).map fun i => if i = a then v else f i := by
  apply List.ext_getElem
  · simp
  · intro i h1 h2
    simp only [List.getElem_set, List.getElem_map, List.getElem_range]
    by_cases h : a = i
    · subst h; simp
    · rw [if_neg h, if_neg (fun e => h e.symm)]
theorem rdp_set (w : List Int) (k n : Nat) : (Sp.rdp w k n).set n (Sp.byt w k n) = Sp.rdp w k (n + 1) := by
  unfold Sp.rdp
  rw [set_map]
  refine List.map_congr_left fun i _ => ?_
  by_cases h : i = n
  · subst h; rw [if_pos rfl, if_pos (by omega)]
  · rw [if_neg h]
    by_cases h2 : i < n
    · rw [if_pos h2, if_pos (by omega)]
    · rw [if_neg h2, if_neg (by omega)]
theorem byt_at (w : List Int) (k j r : Nat) (hr : r < 4) : Sp.byt w k (4 * j + r) = IntKind.wrap .u8 (Int.fdiv (w.getD (1 + 8 * k + j) 0) (2 ^ (24 - 8 * r))) := by
  unfold Sp.byt
  rw [show (4 * j + r) / 4 = j by omega, show (4 * j + r) % 4 = r by omega]
theorem fdiv_one (x : Int) : Int.fdiv x (2 ^ 0) = x := by simp
theorem rd_inner (w : List Int) (hw : w.length = 553) (k : Nat) (hk : k < 69) (p2 p4 : Int) (p5 p6 : List (List Int)) (p7 : Int) (p8 p9 : List (List Int)) : Sp.L_27_1 4611686018427387904 w k p2 0 p4 p5 p6 p7 p8 p9 (List.replicate 32 0) = some (.e0 w k p2 p4 p5 p6 p7 p8 p9 (Sp.rdh w k)) := by
  have := run0 (fun m i s => Sp.L_27_1 m w k p2 i p4 p5 p6 p7 p8 p9 s) (n := 8) (fun j => Sp.rdp w k (4 * j)) (r := some (.e0 w k p2 p4 p5 p6 p7 p8 p9 (Sp.rdh w k))) (by decide) (fun m j hj => by
    show Sp.L_27_1 (m + 1) w k p2 (j : Int) p4 p5 p6 p7 p8 p9 (Sp.rdp w k (4 * j)) = _
    have e0 : IntKind.wrap .i64 (4 * (j : Int)) = 4 * (j : Int) := wi64 (by omega) (by omega)
    have e1 : IntKind.wrap .i64 (IntKind.wrap .i64 (1 + IntKind.wrap .i64 (8 * (k : Int))) + (j : Int)) = ((1 + 8 * k + j : Nat) : Int) := by
      rw [wi64 (n := 8 * (k : Int)) (by omega) (by omega), wi64 (n := 1 + 8 * (k : Int)) (by omega) (by omega), wi64 (by omega) (by omega)]; omega
    have e2 : Int.toNat (4 * (j : Int)) = 4 * j := by omega
    rw [Sp.L_27_1, cond_dtt (by omega), e0, e1, e2, Int.toNat_natCast, gd_sl3 (by omega) (by omega) (by omega), gd_inB (by omega) (by omega), gd_inB (by omega) (by omega), gd_inB (by omega) (by omega), gd_inB (by omega) (by omega), gd_inB (by omega) (by omega), Bool.and_true, Bool.and_true, Bool.and_true, Bool.and_true, gd_dec (by omega), gd_dec (by omega), gd_dec (by omega), gd_dec (by omega), wi64 (n := (j : Int) + 1) (by omega) (by omega)]
    have b0 := byt_at w k j 0 (by decide)
    have b1 := byt_at w k j 1 (by decide)
    have b2 := byt_at w k j 2 (by decide)
    have b3 := byt_at w k j 3 (by decide)
    rw [show (24 - 8 * 3 : Nat) = 0 from rfl, fdiv_one] at b3
    have f0 : (16777216 : Int) = 2 ^ (24 - 8 * 0) := by decide
    have f1 : (65536 : Int) = 2 ^ (24 - 8 * 1) := by decide
    have f2 : (256 : Int) = 2 ^ (24 - 8 * 2) := by decide
    have s0 : (Sp.rdp w k (4 * j)).set (4 * j + 0) (Sp.byt w k (4 * j + 0)) = Sp.rdp w k (4 * j + 1) := rdp_set w k (4 * j)
    have s1 : (Sp.rdp w k (4 * j + 1)).set (4 * j + 1) (Sp.byt w k (4 * j + 1)) = Sp.rdp w k (4 * j + 2) := rdp_set w k (4 * j + 1)
    have s2 : (Sp.rdp w k (4 * j + 2)).set (4 * j + 2) (Sp.byt w k (4 * j + 2)) = Sp.rdp w k (4 * j + 3) := rdp_set w k (4 * j + 2)
    have s3 : (Sp.rdp w k (4 * j + 3)).set (4 * j + 3) (Sp.byt w k (4 * j + 3)) = Sp.rdp w k (4 * (j + 1)) := rdp_set w k (4 * j + 3)
    rw [f0, f1, f2, ← b0, ← b1, ← b2, ← b3, s0, s1, s2, s3]
    rfl) (fun m => by
    show Sp.L_27_1 (m + 1) w k p2 8 p4 p5 p6 p7 p8 p9 (Sp.rdp w k 32) = _
    rw [Sp.L_27_1, cond_dff (by decide), rdp_full])
  rw [← rdp_zero w k]
  exact this
theorem rrd_inner (w : List Int) (hw : w.length = 553) (k : Nat) (hk : k < 69) (p3 : Int) (p4 p5 : List (List Int)) (p6 : Int) (p7 p8 : List (List Int)) : Sp.L_30_1 4611686018427387904 w k 0 p3 p4 p5 p6 p7 p8 (List.replicate 32 0) = some (.e0 w k p3 p4 p5 p6 p7 p8 (Sp.rdh w k)) := by
  have := run0 (fun m i s => Sp.L_30_1 m w k i p3 p4 p5 p6 p7 p8 s) (n := 32) (fun j => Sp.rdp w k j) (r := some (.e0 w k p3 p4 p5 p6 p7 p8 (Sp.rdh w k))) (by decide) (fun m j hj => by
    show Sp.L_30_1 (m + 1) w k (j : Int) p3 p4 p5 p6 p7 p8 (Sp.rdp w k j) = _
    have d0 : Int.tdiv (j : Int) 4 = ((j / 4 : Nat) : Int) := (Int.ofNat_tdiv j 4).symm
    have d1 : Int.tmod (j : Int) 4 = ((j % 4 : Nat) : Int) := (Int.ofNat_tmod j 4).symm
    have e1 : IntKind.wrap .i64 (IntKind.wrap .i64 (1 + IntKind.wrap .i64 (8 * (k : Int))) + IntKind.wrap .i64 ((j / 4 : Nat) : Int)) = ((1 + 8 * k + j / 4 : Nat) : Int) := by
      rw [wi64 (n := 8 * (k : Int)) (by omega) (by omega), wi64 (n := 1 + 8 * (k : Int)) (by omega) (by omega), wi64 (n := ((j / 4 : Nat) : Int)) (by omega) (by omega), wi64 (by omega) (by omega)]; omega
    have e2 : IntKind.wrap .u64 (IntKind.wrap .i64 (24 - IntKind.wrap .i64 (((j % 4 : Nat) : Int) * 8))) = ((24 - 8 * (j % 4) : Nat) : Int) := by
      rw [wi64 (n := ((j % 4 : Nat) : Int) * 8) (by omega) (by omega), wi64 (by omega) (by omega), wu64 (by omega) (by omega)]; omega
    rw [Sp.L_30_1, cond_dtt (by omega), d0, d1, e1, e2, Int.toNat_natCast, Int.toNat_natCast, Int.toNat_natCast, gd_inB (by omega) (by omega), gd_dec (by omega), gd_inB (by omega) (by omega), Bool.and_true, gd_dec (by omega), wi64 (n := (j : Int) + 1) (by omega) (by omega), nmin_l (by omega)]
    rw [show IntKind.wrap .u8 (Int.fdiv (w.getD (1 + 8 * k + j / 4) 0) (2 ^ (24 - 8 * (j % 4)))) = Sp.byt w k j from rfl, rdp_set]
    rfl) (fun m => by
    show Sp.L_30_1 (m + 1) w k 32 p3 p4 p5 p6 p7 p8 (Sp.rdp w k 32) = _
    rw [Sp.L_30_1, cond_dff (by decide), rdp_full])
  rw [← rdp_zero w k]
  exact this
theorem rdC_len (w : List Int) (n : Nat) : (Sp.rdC w n).length = min n 67 := by simp [Sp.rdC]
theorem rdP_len (w : List Int) (n : Nat) : (Sp.rdP w n).length = n - 67 := by simp [Sp.rdP]
theorem rd_succ (w : List Int) (k : Nat) : (k < 67 → Sp.rdC w (k + 1) = Sp.rdC w k ++ [Sp.rdh w k] ∧ Sp.rdP w (k + 1) = Sp.rdP w k) ∧ (67 ≤ k → Sp.rdC w (k + 1) = Sp.rdC w k ∧ Sp.rdP w (k + 1) = Sp.rdP w k ++ [Sp.rdh w k]) := by
  refine ⟨fun h => ?_, fun h => ?_⟩
  · unfold Sp.rdC Sp.rdP
    rw [Nat.min_eq_left (by omega), Nat.min_eq_left (by omega), show k + 1 - 67 = 0 by omega, show k - 67 = 0 by omega, List.range_succ, List.map_append]
    exact ⟨rfl, rfl⟩
  · unfold Sp.rdC Sp.rdP
    rw [Nat.min_eq_right (by omega), Nat.min_eq_right (by omega), show k + 1 - 67 = (k - 67) + 1 by omega, List.range_succ (n := k - 67), List.map_append]
    refine ⟨rfl, ?_⟩
    simp only [List.map_cons, List.map_nil, show 67 + (k - 67) = k by omega]
theorem rd_outer (w : List Int) (hw : w.length = 553) (x : Int) : Sp.L_27_0 4611686018427387904 w 0 0 [] [] x [] [] = some (.e0 0 [] [] x (Sp.rdC w 69) (Sp.rdP w 69)) := by
  have := run0 (fun m i (s : List (List Int) × List (List Int)) => Sp.L_27_0 m w i 0 [] [] x s.1 s.2) (n := 69) (fun j => (Sp.rdC w j, Sp.rdP w j)) (r := some (.e0 0 [] [] x (Sp.rdC w 69) (Sp.rdP w 69))) (by decide) (fun m j hj => by
    show Sp.L_27_0 (m + 1) w (j : Int) 0 [] [] x (Sp.rdC w j) (Sp.rdP w j) = Sp.L_27_0 m w ((j + 1 : Nat) : Int) 0 [] [] x (Sp.rdC w (j + 1)) (Sp.rdP w (j + 1))
    have l1 := rdC_len w j
    have l2 := rdP_len w j
    rw [Sp.L_27_0, cond_dtt (by omega), rd_inner w hw j hj]
    simp only [Sp.B_27_1]
    rw [wi64 (by omega) (by omega)]
    by_cases h : j < 67
    · rw [cond_dtt (by omega), gd_room (by omega) (by omega), ((rd_succ w j).1 h).1, ((rd_succ w j).1 h).2]; rfl
    · rw [cond_dff (by omega), gd_room (by omega) (by omega), ((rd_succ w j).2 (by omega)).1, ((rd_succ w j).2 (by omega)).2]; rfl) (fun m => by
    show Sp.L_27_0 (m + 1) w 69 0 [] [] x (Sp.rdC w 69) (Sp.rdP w 69) = _
    rw [Sp.L_27_0, cond_dff (by decide)])
  exact this
theorem rrd_outer (w : List Int) (hw : w.length = 553) (x : Int) : Sp.L_30_0 4611686018427387904 w 0 0 [] [] x [] [] = some (.e0 0 [] [] x (Sp.rdC w 69) (Sp.rdP w 69)) := by
  have := run0 (fun m i (s : List (List Int) × List (List Int)) => Sp.L_30_0 m w i 0 [] [] x s.1 s.2) (n := 69) (fun j => (Sp.rdC w j, Sp.rdP w j)) (r := some (.e0 0 [] [] x (Sp.rdC w 69) (Sp.rdP w 69))) (by decide) (fun m j hj => by
    show Sp.L_30_0 (m + 1) w (j : Int) 0 [] [] x (Sp.rdC w j) (Sp.rdP w j) = Sp.L_30_0 m w ((j + 1 : Nat) : Int) 0 [] [] x (Sp.rdC w (j + 1)) (Sp.rdP w (j + 1))
    have l1 := rdC_len w j
    have l2 := rdP_len w j
    rw [Sp.L_30_0, cond_dtt (by omega), rrd_inner w hw j hj]
    simp only [Sp.B_30_1]
    rw [wi64 (by omega) (by omega)]
    by_cases h : j < 67
    · rw [cond_dtt (by omega), gd_room (by omega) (by omega), ((rd_succ w j).1 h).1, ((rd_succ w j).1 h).2]; rfl
    · rw [cond_dff (by omega), gd_room (by omega) (by omega), ((rd_succ w j).2 (by omega)).1, ((rd_succ w j).2 (by omega)).2]; rfl) (fun m => by
    show Sp.L_30_0 (m + 1) w 69 0 [] [] x (Sp.rdC w 69) (Sp.rdP w 69) = _
    rw [Sp.L_30_0, cond_dff (by decide)])
  exact this
theorem read_ok (w : List Int) : F_27 w = some (if Sp.okw w = true then (Sp.rd w, 0, ()) else ((0, [], [], ()), 3, ())) := by
  unfold F_27 Sp.okw
  by_cases h1 : w.length = 553
  · rw [cond_nff (by omega), decide_eq_true h1, gd_inB (by omega) (by omega)]
    by_cases h2 : w.getD 0 0 < 4
    · rw [cond_dff (by omega), decide_eq_true h2, gd_inB (by omega) (by omega), rd_outer w h1]
      rfl
    · rw [cond_dtt (by omega), decide_eq_false h2]; rfl
  · rw [cond_ntt (by omega), decide_eq_false h1]; rfl
theorem rread_ok (w : List Int) : F_30 w = some (if Sp.okw w = true then (Sp.rd w, true, ()) else ((0, [], [], ()), false, ())) := by
  unfold F_30 Sp.okw
  by_cases h1 : w.length = 553
  · rw [cond_nff (by omega), decide_eq_true h1, gd_inB (by omega) (by omega)]
    by_cases h2 : w.getD 0 0 < 4
    · rw [cond_dff (by omega), decide_eq_true h2, gd_inB (by omega) (by omega), rrd_outer w h1]
      rfl
    · rw [cond_dtt (by omega), decide_eq_false h2]; rfl
  · rw [cond_ntt (by omega), decide_eq_false h1]; rfl
end Go.Ev
set_option linter.unusedSimpArgs false
set_option linter.unusedVariables false
namespace Go.Ev
open Go
set_option maxRecDepth 100000
set_option maxHeartbeats 4000000
theorem bit_of (i : Int) (h0 : 0 ≤ i) (h1 : i < 4) : (Sp.andI .i64 (Int.fdiv i (2 ^ Nat.min 0 64)) 1 = i % 2) ∧ (Sp.andI .i64 (Int.fdiv i (2 ^ Nat.min 1 64)) 1 = i / 2) := by
  rcases (show i = 0 ∨ i = 1 ∨ i = 2 ∨ i = 3 by omega) with rfl | rfl | rfl | rfl <;> exact ⟨by kernel_rfl, by kernel_rfl⟩
theorem up_step (m : Nat) (p : List (List Int)) (hp : p.length = 2) (j : Nat) (hj : j < 2) (key : List Int) (s : SigT) (e : List Int) (b : Int) (hb : Sp.andI .i64 (Int.fdiv s.1 (2 ^ Nat.min j 64)) 1 = b) : Sp.L_18_1 (m + 1) p 2 (j : Nat) key s e = Sp.L_18_1 m p 2 ((j : Int) + 1) key s (Sp.up b (p.getD j h0) e) := by
  have a1 := above_pv (p.getD j h0) e
  have a2 := above_pv e (p.getD j h0)
  rw [Sp.L_18_1, cond_dtt (by omega), gd_inB (by omega) (by omega), gd_dec (by omega), Int.toNat_natCast, hb, wi64 (by omega) (by omega)]
  by_cases h : b = 1
  · rw [cond_ett h, a1.1, a1.2, gd_tt, Sp.up, if_pos h]
  · rw [cond_eff h, a2.1, a2.2, gd_tt, Sp.up, if_neg h]
theorem up_loop (m : Nat) (hm : 3 ≤ m) (p : List (List Int)) (hp : p.length = 2) (key : List Int) (s : SigT) (e : List Int) (h0' : 0 ≤ s.1) (h1' : s.1 < 4) : Sp.L_18_1 m p 2 0 key s e = some (.e0 key (Sp.up (s.1 / 2) (p.getD 1 h0) (Sp.up (s.1 % 2) (p.getD 0 h0) e))) := by
  obtain ⟨m, rfl⟩ : ∃ k, m = k + 3 := ⟨m - 3, by omega⟩
  have hb := bit_of s.1 h0' h1'
  have s1 := up_step (m + 2) p hp 0 (by omega) key s e _ hb.1
  have s2 := up_step (m + 1) p hp 1 (by omega) key s (Sp.up (s.1 % 2) (p.getD 0 h0) e) _ hb.2
  refine s1.trans (s2.trans ?_)
  show Sp.L_18_1 (m + 1) p 2 2 key s _ = _
  rw [Sp.L_18_1, cond_dff (by decide)]
theorem shp_spec {s : SigT} (h : Sp.shp s = true) : 0 ≤ s.1 ∧ s.1 < 4 ∧ s.2.1.length = 67 ∧ s.2.2.1.length = 2 := by
  simp only [Sp.shp, Bool.and_eq_true, decide_eq_true_eq, beq_iff_eq] at h
  omega
theorem verify_ok (key dg : List Int) (hb : bytes dg) (s : SigT) : F_18 key dg s = some (Sp.verF key dg s, ()) := by
  have a := pv_38 _ (shp_ok s)
  unfold F_18 Sp.verF
  rw [a.1, a.2, gd_tt]
  cases hs : Sp.shp s
  · rfl
  · obtain ⟨h1, h2, h3, h4⟩ := shp_spec hs
    have d := pv_13 _ (i_digits dg hb)
    have l := pv_39 _ (leafE_ok (Sp.vend (Sp.digL dg) s.2.1 67) (by rw [vend_len]; omega))
    rw [d.1, d.2, gd_tt]
    dsimp only
    rw [digL_len]
    simp only [Bool.not_true, cond_f]
    rw [show Sp.L_18_0 4611686018427387904 (Sp.digL dg) ((67 : Nat) : Int) 0 key s [] = _ from ver_loop key dg hb s h3 67 4611686018427387904 0 (by omega) (by omega)]
    simp only [Sp.B_18_0]
    rw [l.1, l.2, gd_tt]
    dsimp only
    rw [h4]
    rw [show Sp.L_18_1 4611686018427387904 s.2.2.1 ((2 : Nat) : Int) 0 key s (Sp.leafE (Sp.vend (Sp.digL dg) s.2.1 67)) = _ from up_loop _ (by omega) s.2.2.1 h4 key s _ h1 h2]
    simp only [Sp.B_18_1, arr_beq, Bool.true_and]
theorem J_ver (key : List Int) (s : SigT) (h1 : 0 ≤ s.1) (h2 : s.1 < 4) (h4 : s.2.2.1.length = 2) (e : List Int) :
    Sp.B_19_1 (Sp.J_19_1 key s e) (fun k y z => some (Ty.beq (.arr 32 (.int .u8)) (Sp.v_42 (y.2.2.1.getD 1 h0) z).1 k, PUnit.unit)) (fun k y z => some (Ty.beq (.arr 32 (.int .u8)) (Sp.v_42 z (y.2.2.1.getD 1 h0)).1 k, PUnit.unit)) = some ((Sp.up (s.1 / 2) (s.2.2.1.getD 1 h0) e == key), PUnit.unit) := by
  have n1 := node_pv (s.2.2.1.getD 1 h0) e
  have n2 := node_pv e (s.2.2.1.getD 1 h0)
  have ed : IntKind.wrap .i64 (Int.tdiv s.1 2) = s.1 / 2 := by rw [Int.tdiv_eq_ediv_of_nonneg h1, wi64 (by omega) (by omega)]
  unfold Sp.J_19_1
  rw [ed]
  by_cases h : s.1 / 2 = 1
  · rw [cond_ett h, gd_inB (by omega) (by omega), n1.1, gd_tt]
    simp only [Sp.B_19_1, n1.2, arr_beq, Sp.up, if_pos h]
  · rw [cond_eff h, gd_inB (by omega) (by omega), n2.1, gd_tt]
    simp only [Sp.B_19_1, n2.2, arr_beq, Sp.up, if_neg h]
theorem rverify_ok (key dg : List Int) (hb : bytes dg) (s : SigT) : F_19 key dg s = some (Sp.verF key dg s, ()) := by
  have a := pv_26 _ (rshp_ok s)
  unfold F_19 Sp.verF
  rw [a.1, a.2, gd_tt]
  cases hs : Sp.shp s
  · rfl
  · obtain ⟨h1, h2, h3, h4⟩ := shp_spec hs
    have d := pv_15 _ (r_digits dg hb)
    have l := pv_41 _ (rleafE_ok (Sp.vend (Sp.digL dg) s.2.1 67) (by rw [vend_len]; omega))
    have em : Int.tmod s.1 2 = s.1 % 2 := Int.tmod_eq_emod_of_nonneg h1
    rw [d.1, d.2, gd_tt]
    dsimp only
    simp only [Bool.not_true, cond_f]
    rw [show Sp.L_19_0 4611686018427387904 (Sp.digL dg) 0 key s [] = _ from rver_loop key dg hb s h3 67 4611686018427387904 0 (by omega) (by omega)]
    simp only [Sp.B_19_0]
    rw [l.1, l.2, gd_tt]
    dsimp only
    have n1 := node_pv (s.2.2.1.getD 0 h0) (Sp.leafE (Sp.vend (Sp.digL dg) s.2.1 67))
    have n2 := node_pv (Sp.leafE (Sp.vend (Sp.digL dg) s.2.1 67)) (s.2.2.1.getD 0 h0)
    rw [em]
    by_cases h : s.1 % 2 = 1
    · rw [cond_ett h, gd_inB (by omega) (by omega), n1.1, n1.2, gd_tt]
      dsimp only
      rw [J_ver key s h1 h2 h4, Bool.true_and, show Sp.up (s.1 % 2) (s.2.2.1.getD 0 h0) (Sp.leafE (Sp.vend (Sp.digL dg) s.2.1 67)) = _ from if_pos h]
    · rw [cond_eff h, gd_inB (by omega) (by omega), n2.1, n2.2, gd_tt]
      dsimp only
      rw [J_ver key s h1 h2 h4, Bool.true_and, show Sp.up (s.1 % 2) (s.2.2.1.getD 0 h0) (Sp.leafE (Sp.vend (Sp.digL dg) s.2.1 67)) = _ from if_neg h]
end Go.Ev
namespace Go.Ev
open Go
set_option maxRecDepth 100000
set_option maxHeartbeats 4000000
set_option linter.unusedVariables false
noncomputable section

def sm_20 : Nat → Option Summ := fun f => bif Nat.beq f 13 then some s_13 else bif Nat.beq f 37 then some s_37 else bif Nat.beq f 40 then some s_40 else bif Nat.beq f 43 then some s_43 else bif Nat.beq f 44 then some s_44 else none
def T_20_0 (p0 : Int) (p1 : List Int) (p2 : Int) (p3 : Int) (p4 : List Int) (p5 : Int) (p6 : List (List Int)) (p7 : List (List Int)) (p8 : Int) (p9 : List (List Int)) (p10 : List (List Int)) : St := St.mk [jk, CV.int IntKind.i64 p0, jk, CV.ptr (0 : Nat) [], jk, jk, CV.ptr (1 : Nat) [], jk, CV.ptr (4 : Nat) [], jk, jk, jk, jk, jk, jk, jk, jk, jk, jk, jk, jk, jk, CV.pure (Ty.slice (Ty.int IntKind.i64)) p1, CV.int IntKind.i64 p2, CV.int IntKind.i64 p3, jk, jk, jk, jk, jk, jk, jk, jk, jk, jk, jk, jk, jk, jk, jk, jk, jk, jk, jk, jk, jk, jk, jk, jk, jk, jk, jk, jk, jk, jk, jk, jk, jk, jk] [Blk.mem (CV.pure (Ty.arr (32 : Nat) (Ty.int IntKind.u8)) p4), Blk.mem (CV.pair (CV.int IntKind.i64 p5) (CV.pair (CV.whole (2 : Nat)) (CV.pair (CV.whole (3 : Nat)) (CV.pure Ty.unit PUnit.unit)))), Blk.vec (25 : Nat) (Ty.arr (32 : Nat) (Ty.int IntKind.u8)) p6, Blk.vec (25 : Nat) (Ty.arr (32 : Nat) (Ty.int IntKind.u8)) p7, Blk.mem (CV.pair (CV.int IntKind.i64 p8) (CV.pair (CV.whole (5 : Nat)) (CV.pair (CV.whole (6 : Nat)) (CV.pure Ty.unit PUnit.unit)))), Blk.vec (25 : Nat) (Ty.arr (32 : Nat) (Ty.int IntKind.u8)) p9, Blk.vec (25 : Nat) (Ty.arr (32 : Nat) (Ty.int IntKind.u8)) p10] (0 : Nat)
def X_20_0_0 (p0 : Int) (p4 : List Int) (p5 : Int) (p6 : List (List Int)) (p7 : List (List Int)) (p8 : Int) (p9 : List (List Int)) (p10 : List (List Int)) : St := St.mk [jk, CV.int IntKind.i64 p0, jk, CV.ptr (0 : Nat) [], jk, jk, CV.ptr (1 : Nat) [], jk, CV.ptr (4 : Nat) [], jk, jk, jk, jk, jk, jk, jk, jk, jk, jk, jk, jk, jk, jk, jk, jk, jk, jk, jk, jk, jk, jk, jk, jk, jk, jk, jk, jk, jk, jk, jk, jk, jk, jk, jk, jk, jk, jk, jk, jk, jk, jk, jk, jk, jk, jk, jk, jk, jk, jk] [Blk.mem (CV.pure (Ty.arr (32 : Nat) (Ty.int IntKind.u8)) p4), Blk.mem (CV.pair (CV.int IntKind.i64 p5) (CV.pair (CV.whole (2 : Nat)) (CV.pair (CV.whole (3 : Nat)) (CV.pure Ty.unit PUnit.unit)))), Blk.vec (25 : Nat) (Ty.arr (32 : Nat) (Ty.int IntKind.u8)) p6, Blk.vec (25 : Nat) (Ty.arr (32 : Nat) (Ty.int IntKind.u8)) p7, Blk.mem (CV.pair (CV.int IntKind.i64 p8) (CV.pair (CV.whole (5 : Nat)) (CV.pair (CV.whole (6 : Nat)) (CV.pure Ty.unit PUnit.unit)))), Blk.vec (25 : Nat) (Ty.arr (32 : Nat) (Ty.int IntKind.u8)) p9, Blk.vec (25 : Nat) (Ty.arr (32 : Nat) (Ty.int IntKind.u8)) p10] (0 : Nat)
inductive Sp.E_20_0 where
  | e0 (p0 : Int) (p4 : List Int) (p5 : Int) (p6 : List (List Int)) (p7 : List (List Int)) (p8 : Int) (p9 : List (List Int)) (p10 : List (List Int))
def Sp.B_20_0 {R : Type} (r : Option Sp.E_20_0) (k0 : (Int) → (List Int) → (Int) → (List (List Int)) → (List (List Int)) → (Int) → (List (List Int)) → (List (List Int)) → Option R) : Option R := match r with
  | none => none
  | some (.e0 p0 p4 p5 p6 p7 p8 p9 p10) => k0 p0 p4 p5 p6 p7 p8 p9 p10
def Sp.L_20_0 : Nat → (Int) → (List Int) → (Int) → (Int) → (List Int) → (Int) → (List (List Int)) → (List (List Int)) → (Int) → (List (List Int)) → (List (List Int)) → Option Sp.E_20_0
  | 0, _, _, _, _, _, _, _, _, _, _, _ => none
  | m + 1, p0, p1, p2, p3, p4, p5, p6, p7, p8, p9, p10 => bif decide (p3 < p2) then gd (inB p3 (List.length p1)) (gd (Sp.p_43 p4 p0 p3) (gd (Sp.p_37 (Prod.fst (Sp.v_43 p4 p0 p3)) (0 : Int) (List.getD p1 (Int.toNat p3) (0 : Int))) (gd (room (List.length p9 + (1 : Nat)) (32 : Nat)) (Sp.L_20_0 m p0 p1 p2 (IntKind.wrap IntKind.i64 (p3 + (1 : Int))) p4 p5 p6 p7 p8 (p9 ++ [Prod.fst (Sp.v_37 (Prod.fst (Sp.v_43 p4 p0 p3)) (0 : Int) (List.getD p1 (Int.toNat p3) (0 : Int)))]) p10)))) else some (Sp.E_20_0.e0 p0 p4 p5 p6 p7 p8 p9 p10)
def G_20_0 {R : Type} (p0 : Int) (p1 : List Int) (p2 : Int) (p3 : Int) (p4 : List Int) (p5 : Int) (p6 : List (List Int)) (p7 : List (List Int)) (p8 : Int) (p9 : List (List Int)) (p10 : List (List Int)) (k : Ex → St → Option R) : Option R := Sp.B_20_0 (Sp.L_20_0 FU p0 p1 p2 p3 p4 p5 p6 p7 p8 p9 p10) (fun p0 p4 p5 p6 p7 p8 p9 p10 => k (Ex.exit (0 : Nat)) (X_20_0_0 p0 p4 p5 p6 p7 p8 p9 p10))
def o_20_0 {R : Type} (G : (Int) → (List Int) → (Int) → (Int) → (List Int) → (Int) → (List (List Int)) → (List (List Int)) → (Int) → (List (List Int)) → (List (List Int)) → (Ex → St → Option R) → Option R) : St → (Ex → St → Option R) → Option R := fun T k => match T.sl.getD 1 .junk, T.sl.getD 3 .junk, T.sl.getD 6 .junk, T.sl.getD 8 .junk, T.sl.getD 22 .junk, T.sl.getD 23 .junk, T.sl.getD 24 .junk, T.hp with
  | CV.int IntKind.i64 p0, CV.ptr (0 : Nat) [], CV.ptr (1 : Nat) [], CV.ptr (4 : Nat) [], CV.pure (Ty.slice (Ty.int IntKind.i64)) p1, CV.int IntKind.i64 p2, CV.int IntKind.i64 p3, ((Blk.mem (CV.pure (Ty.arr (32 : Nat) (Ty.int IntKind.u8)) p4)) :: (Blk.mem (CV.pair (CV.int IntKind.i64 p5) (CV.pair (CV.whole (2 : Nat)) (CV.pair (CV.whole (3 : Nat)) (CV.pure Ty.unit PUnit.unit))))) :: (Blk.vec (25 : Nat) (Ty.arr (32 : Nat) (Ty.int IntKind.u8)) p6) :: (Blk.vec (25 : Nat) (Ty.arr (32 : Nat) (Ty.int IntKind.u8)) p7) :: (Blk.mem (CV.pair (CV.int IntKind.i64 p8) (CV.pair (CV.whole (5 : Nat)) (CV.pair (CV.whole (6 : Nat)) (CV.pure Ty.unit PUnit.unit))))) :: (Blk.vec (25 : Nat) (Ty.arr (32 : Nat) (Ty.int IntKind.u8)) p9) :: (Blk.vec (25 : Nat) (Ty.arr (32 : Nat) (Ty.int IntKind.u8)) p10) :: []) => gd (shapeOK T 59 [1, 3, 6, 8, 22, 23, 24] (0 : Nat)) (G p0 p1 p2 p3 p4 p5 p6 p7 p8 p9 p10 k)
  | _, _, _, _, _, _, _, _ => none
theorem o_20_0_inv {R : Type} {G : (Int) → (List Int) → (Int) → (Int) → (List Int) → (Int) → (List (List Int)) → (List (List Int)) → (Int) → (List (List Int)) → (List (List Int)) → (Ex → St → Option R) → Option R} {T : St} {k : Ex → St → Option R} {r : R} (h : o_20_0 G T k = some r) : ∃ p0 p1 p2 p3 p4 p5 p6 p7 p8 p9 p10, T = T_20_0 p0 p1 p2 p3 p4 p5 p6 p7 p8 p9 p10 ∧ G p0 p1 p2 p3 p4 p5 p6 p7 p8 p9 p10 k = some r := by
  unfold o_20_0 at h
  split at h
  · obtain ⟨hs, h'⟩ := gd_some h
    refine ⟨_, _, _, _, _, _, _, _, _, _, _, (st_of (asg := [(1, _), (3, _), (6, _), (8, _), (22, _), (23, _), (24, _)]) hs ⟨by assumption, by assumption, by assumption, by assumption, by assumption, by assumption, by assumption, trivial⟩ (by assumption)).trans ?_, h'⟩
    kernel_rfl
  · cases h
def O_20_20_0 {R : Type} : St → (Ex → St → Option R) → Option R := fun T k => o_20_0 G_20_0 T k
theorem body_20_0 {R : Type} (K0 : St → Option R) (K1 : Ex → St → Option R) (p0 : Int) (p1 : List Int) (p2 : Int) (p3 : Int) (p4 : List Int) (p5 : Int) (p6 : List (List Int)) (p7 : List (List Int)) (p8 : Int) (p9 : List (List Int)) (p10 : List (List Int)) : evLB (evCodeL sm_20 FU (ovr noO (evFn sm_20 fns FU 0)) .nil ir20_b0) (St.norm ir20_v0) (T_20_0 p0 p1 p2 p3 p4 p5 p6 p7 p8 p9 p10) K0 K1 =
  bif decide (p3 < p2) then gd (inB p3 (List.length p1)) (gd (Sp.p_43 p4 p0 p3) (gd (Sp.p_37 (Prod.fst (Sp.v_43 p4 p0 p3)) (0 : Int) (List.getD p1 (Int.toNat p3) (0 : Int))) (gd (room (List.length p9 + (1 : Nat)) (32 : Nat)) (K0 (T_20_0 p0 p1 p2 (IntKind.wrap IntKind.i64 (p3 + (1 : Int))) p4 p5 p6 p7 p8 (p9 ++ [Prod.fst (Sp.v_37 (Prod.fst (Sp.v_43 p4 p0 p3)) (0 : Int) (List.getD p1 (Int.toNat p3) (0 : Int)))]) p10))))) else K1 (Ex.exit (0 : Nat)) (X_20_0_0 p0 p4 p5 p6 p7 p8 p9 p10) := by kernel_rfl
theorem Bgd_20_0 {R : Type} {c : Bool} {x : Option R} {y : Option Sp.E_20_0} {k0 : (Int) → (List Int) → (Int) → (List (List Int)) → (List (List Int)) → (Int) → (List (List Int)) → (List (List Int)) → Option R} (h : x = Sp.B_20_0 y k0) : gd c x = Sp.B_20_0 (gd c y) k0 := by cases c; rfl; exact h
theorem Bcond_20_0 {R : Type} {c : Bool} {x x' : Option R} {y y' : Option Sp.E_20_0} {k0 : (Int) → (List Int) → (Int) → (List (List Int)) → (List (List Int)) → (Int) → (List (List Int)) → (List (List Int)) → Option R} (h : x = Sp.B_20_0 y k0) (h' : x' = Sp.B_20_0 y' k0) : (bif c then x else x') = Sp.B_20_0 (bif c then y else y') k0 := by cases c; exact h'; exact h
theorem loop_20_0 {R : Type} (k : Ex → St → Option R) : ∀ (m : Nat) (p0 : Int) (p1 : List Int) (p2 : Int) (p3 : Int) (p4 : List Int) (p5 : Int) (p6 : List (List Int)) (p7 : List (List Int)) (p8 : Int) (p9 : List (List Int)) (p10 : List (List Int)), evLoopN (evCodeL sm_20 FU (ovr noO (evFn sm_20 fns FU 0)) .nil ir20_b0) (St.norm ir20_v0) m (T_20_0 p0 p1 p2 p3 p4 p5 p6 p7 p8 p9 p10) k = Sp.B_20_0 (Sp.L_20_0 m p0 p1 p2 p3 p4 p5 p6 p7 p8 p9 p10) (fun p0 p4 p5 p6 p7 p8 p9 p10 => k (Ex.exit (0 : Nat)) (X_20_0_0 p0 p4 p5 p6 p7 p8 p9 p10))
  | 0, _, _, _, _, _, _, _, _, _, _, _ => rfl
  | m + 1, p0, p1, p2, p3, p4, p5, p6, p7, p8, p9, p10 => by
    rw [evLoopN_succ, body_20_0, Sp.L_20_0]
    repeat' first | apply Bgd_20_0 | apply Bcond_20_0 | exact loop_20_0 k m _ _ _ _ _ _ _ _ _ _ _ | rfl
theorem ok_20_0 {R : Type} (T : St) (k : Ex → St → Option R) (r : R) (h0 : o_20_0 G_20_0 T k = some r) : evLoopN (evCode sm_20 FU (evFn sm_20 fns FU 0) ir20_b0) (St.norm ir20_v0) FU T k = some r := by
  obtain ⟨p0, p1, p2, p3, p4, p5, p6, p7, p8, p9, p10, rfl, h⟩ := o_20_0_inv h0
  refine evLoopN_L (t := .nil) noO_ok trivial _ _ _ _ ?_
  rw [loop_20_0]
  exact h
theorem OK_20_20_0 {R : Type} (T : St) (k : Ex → St → Option R) (r : R) (h : O_20_20_0 T k = some r) : evLoopN (evCode sm_20 FU (evFn sm_20 fns FU 0) ir20_b0) (St.norm ir20_v0) FU T k = some r := ok_20_0 T k r h
def F_20 (a0 : (List Int)) (a1 : Int) (a2 : (List Int)) : Option ((Int × ((List (List Int)) × ((List (List Int)) × Unit))) × Int × Unit) :=
  bif decide (a1 < (0 : Int)) then some (((0 : Int), [], [], PUnit.unit), (2 : Int), PUnit.unit) else bif decide (a1 ≥ (4 : Int)) then some (((0 : Int), [], [], PUnit.unit), (2 : Int), PUnit.unit) else gd (Sp.p_13 a2) (Sp.B_20_0 (Sp.L_20_0 (4611686018427387904 : Nat) a1 (Prod.fst (Sp.v_13 a2)) (↑(List.length (Prod.fst (Sp.v_13 a2))) : Int) (0 : Int) a0 (0 : Int) [] [] a1 [] []) fun (y8 : Int) (y9 : List Int) (y10 : Int) (y11 y12 : List (List Int)) (y13 : Int) (y14 y15 : List (List Int)) => gd (Sp.p_44 y9 (Sp.xorI IntKind.i64 y8 (1 : Int))) (gd (Sp.p_44 y9 (Sp.andnI IntKind.i64 (Sp.xorI IntKind.i64 y8 (2 : Int)) (1 : Int))) (gd (Sp.p_44 y9 (IntKind.wrap IntKind.i64 (Sp.andnI IntKind.i64 (Sp.xorI IntKind.i64 y8 (2 : Int)) (1 : Int) + (1 : Int)))) (gd (Sp.p_40 (Prod.fst (Sp.v_44 y9 (Sp.andnI IntKind.i64 (Sp.xorI IntKind.i64 y8 (2 : Int)) (1 : Int)))) (Prod.fst (Sp.v_44 y9 (IntKind.wrap IntKind.i64 (Sp.andnI IntKind.i64 (Sp.xorI IntKind.i64 y8 (2 : Int)) (1 : Int) + (1 : Int)))))) (some ((y13, y14, [Prod.fst (Sp.v_44 y9 (Sp.xorI IntKind.i64 y8 (1 : Int))), Prod.fst (Sp.v_40 (Prod.fst (Sp.v_44 y9 (Sp.andnI IntKind.i64 (Sp.xorI IntKind.i64 y8 (2 : Int)) (1 : Int)))) (Prod.fst (Sp.v_44 y9 (IntKind.wrap IntKind.i64 (Sp.andnI IntKind.i64 (Sp.xorI IntKind.i64 y8 (2 : Int)) (1 : Int) + (1 : Int))))))], PUnit.unit), (0 : Int), PUnit.unit))))))
theorem fn_20 (a0 : (List Int)) (a1 : Int) (a2 : (List Int)) : evFnL sm_20 FU (ovr noO (evFn sm_20 fns FU 0)) (ir20_t O_20_20_0) ir20 (ofH [(.arr 32 (.int .u8)), (.int .i64), (.arr 32 (.int .u8))] (a0, a1, a2, ())) [] (pureK [(.pair (.int .i64) (.pair (.slice (.arr 32 (.int .u8))) (.pair (.slice (.arr 32 (.int .u8))) .unit))), (.int .i64)]) = F_20 a0 a1 a2 := by kernel_rfl
def Sp.p_20 (a0 : (List Int)) (a1 : Int) (a2 : (List Int)) : Bool := (F_20 a0 a1 a2).isSome
def Sp.v_20 (a0 : (List Int)) (a1 : Int) (a2 : (List Int)) : (Int × ((List (List Int)) × ((List (List Int)) × Unit))) × Int × Unit := (F_20 a0 a1 a2).getD (dfH [(.pair (.int .i64) (.pair (.slice (.arr 32 (.int .u8))) (.pair (.slice (.arr 32 (.int .u8))) .unit))), (.int .i64)])
def s_20 : Summ := shS [(.arr 32 (.int .u8)), (.int .i64), (.arr 32 (.int .u8))] [(.pair (.int .i64) (.pair (.slice (.arr 32 (.int .u8))) (.pair (.slice (.arr 32 (.int .u8))) .unit))), (.int .i64)] (fun x => Sp.p_20 x.1 x.2.1 x.2.2.1) (fun x => Sp.v_20 x.1 x.2.1 x.2.2.1)
theorem pv_20 (a0 : (List Int)) (a1 : Int) (a2 : (List Int)) {y : (Int × ((List (List Int)) × ((List (List Int)) × Unit))) × Int × Unit} (h : F_20 a0 a1 a2 = some y) : Sp.p_20 a0 a1 a2 = true ∧ Sp.v_20 a0 a1 a2 = y := ⟨by rw [Sp.p_20, h]; rfl, by rw [Sp.v_20, h]; rfl⟩
theorem run_20 (x : HDen [(.arr 32 (.int .u8)), (.int .i64), (.arr 32 (.int .u8))]) (y : HDen [(.pair (.int .i64) (.pair (.slice (.arr 32 (.int .u8))) (.pair (.slice (.arr 32 (.int .u8))) .unit))), (.int .i64)]) (h : F_20 x.1 x.2.1 x.2.2.1 = some y) : evFn sm_20 fns FU 1 20 (ofH [(.arr 32 (.int .u8)), (.int .i64), (.arr 32 (.int .u8))] x) [] (pureK [(.pair (.int .i64) (.pair (.slice (.arr 32 (.int .u8))) (.pair (.slice (.arr 32 (.int .u8))) .unit))), (.int .i64)]) = some y :=
  evFnL_sound (fn := ir20) (t := (ir20_t O_20_20_0)) (o := noO) rfl noO_ok (ir20_tok (fun T k r => OK_20_20_0 T k r)) ((fn_20 _ _ _).trans h)
end
end Go.Ev
namespace Go.Ev
open Go
set_option maxRecDepth 100000
set_option maxHeartbeats 4000000
set_option linter.unusedVariables false
noncomputable section

def sm_22 : Nat → Option Summ := fun f => bif Nat.beq f 15 then some s_15 else bif Nat.beq f 17 then some s_17 else bif Nat.beq f 42 then some s_42 else bif Nat.beq f 45 then some s_45 else bif Nat.beq f 46 then some s_46 else none
def T_22_0 (p0 : Int) (p1 : List Int) (p2 : Int) (p3 : List Int) (p4 : Int) (p5 : List (List Int)) (p6 : List (List Int)) (p7 : Int) (p8 : List (List Int)) (p9 : List (List Int)) : St := St.mk [jk, CV.int IntKind.i64 p0, jk, CV.ptr (0 : Nat) [], jk, jk, CV.ptr (1 : Nat) [], CV.pure (Ty.slice (Ty.int IntKind.i64)) p1, CV.ptr (4 : Nat) [], CV.int IntKind.i64 p2, jk, jk, jk, jk, jk, jk, jk, jk, jk, jk, jk, jk, jk, jk, jk, jk, jk, jk, jk, jk, jk, jk, jk, jk, jk, jk, jk, jk, jk, jk, jk, jk, jk, jk, jk, jk, jk, jk, jk, jk, jk, jk, jk, jk] [Blk.mem (CV.pure (Ty.arr (32 : Nat) (Ty.int IntKind.u8)) p3), Blk.mem (CV.pair (CV.int IntKind.i64 p4) (CV.pair (CV.whole (2 : Nat)) (CV.pair (CV.whole (3 : Nat)) (CV.pure Ty.unit PUnit.unit)))), Blk.vec (25 : Nat) (Ty.arr (32 : Nat) (Ty.int IntKind.u8)) p5, Blk.vec (25 : Nat) (Ty.arr (32 : Nat) (Ty.int IntKind.u8)) p6, Blk.mem (CV.pair (CV.int IntKind.i64 p7) (CV.pair (CV.whole (5 : Nat)) (CV.pair (CV.whole (6 : Nat)) (CV.pure Ty.unit PUnit.unit)))), Blk.vec (25 : Nat) (Ty.arr (32 : Nat) (Ty.int IntKind.u8)) p8, Blk.vec (25 : Nat) (Ty.arr (32 : Nat) (Ty.int IntKind.u8)) p9] (0 : Nat)
def X_22_0_0 (p0 : Int) (p3 : List Int) (p4 : Int) (p5 : List (List Int)) (p6 : List (List Int)) (p7 : Int) (p8 : List (List Int)) (p9 : List (List Int)) : St := St.mk [jk, CV.int IntKind.i64 p0, jk, CV.ptr (0 : Nat) [], jk, jk, CV.ptr (1 : Nat) [], jk, CV.ptr (4 : Nat) [], jk, jk, jk, jk, jk, jk, jk, jk, jk, jk, jk, jk, jk, jk, jk, jk, jk, jk, jk, jk, jk, jk, jk, jk, jk, jk, jk, jk, jk, jk, jk, jk, jk, jk, jk, jk, jk, jk, jk, jk, jk, jk, jk, jk, jk] [Blk.mem (CV.pure (Ty.arr (32 : Nat) (Ty.int IntKind.u8)) p3), Blk.mem (CV.pair (CV.int IntKind.i64 p4) (CV.pair (CV.whole (2 : Nat)) (CV.pair (CV.whole (3 : Nat)) (CV.pure Ty.unit PUnit.unit)))), Blk.vec (25 : Nat) (Ty.arr (32 : Nat) (Ty.int IntKind.u8)) p5, Blk.vec (25 : Nat) (Ty.arr (32 : Nat) (Ty.int IntKind.u8)) p6, Blk.mem (CV.pair (CV.int IntKind.i64 p7) (CV.pair (CV.whole (5 : Nat)) (CV.pair (CV.whole (6 : Nat)) (CV.pure Ty.unit PUnit.unit)))), Blk.vec (25 : Nat) (Ty.arr (32 : Nat) (Ty.int IntKind.u8)) p8, Blk.vec (25 : Nat) (Ty.arr (32 : Nat) (Ty.int IntKind.u8)) p9] (0 : Nat)
inductive Sp.E_22_0 where
  | e0 (p0 : Int) (p3 : List Int) (p4 : Int) (p5 : List (List Int)) (p6 : List (List Int)) (p7 : Int) (p8 : List (List Int)) (p9 : List (List Int))
def Sp.B_22_0 {R : Type} (r : Option Sp.E_22_0) (k0 : (Int) → (List Int) → (Int) → (List (List Int)) → (List (List Int)) → (Int) → (List (List Int)) → (List (List Int)) → Option R) : Option R := match r with
  | none => none
  | some (.e0 p0 p3 p4 p5 p6 p7 p8 p9) => k0 p0 p3 p4 p5 p6 p7 p8 p9
def Sp.L_22_0 : Nat → (Int) → (List Int) → (Int) → (List Int) → (Int) → (List (List Int)) → (List (List Int)) → (Int) → (List (List Int)) → (List (List Int)) → Option Sp.E_22_0
  | 0, _, _, _, _, _, _, _, _, _, _ => none
  | m + 1, p0, p1, p2, p3, p4, p5, p6, p7, p8, p9 => bif decide (p2 < (67 : Int)) then gd (Sp.p_45 p3 p0 p2) (gd (inB p2 (List.length p1)) (gd (Sp.p_17 (Prod.fst (Sp.v_45 p3 p0 p2)) (0 : Int) (List.getD p1 (Int.toNat p2) (0 : Int))) (gd (room (List.length p8 + (1 : Nat)) (32 : Nat)) (Sp.L_22_0 m p0 p1 (IntKind.wrap IntKind.i64 (p2 + (1 : Int))) p3 p4 p5 p6 p7 (p8 ++ [Prod.fst (Sp.v_17 (Prod.fst (Sp.v_45 p3 p0 p2)) (0 : Int) (List.getD p1 (Int.toNat p2) (0 : Int)))]) p9)))) else some (Sp.E_22_0.e0 p0 p3 p4 p5 p6 p7 p8 p9)
def G_22_0 {R : Type} (p0 : Int) (p1 : List Int) (p2 : Int) (p3 : List Int) (p4 : Int) (p5 : List (List Int)) (p6 : List (List Int)) (p7 : Int) (p8 : List (List Int)) (p9 : List (List Int)) (k : Ex → St → Option R) : Option R := Sp.B_22_0 (Sp.L_22_0 FU p0 p1 p2 p3 p4 p5 p6 p7 p8 p9) (fun p0 p3 p4 p5 p6 p7 p8 p9 => k (Ex.exit (0 : Nat)) (X_22_0_0 p0 p3 p4 p5 p6 p7 p8 p9))
def o_22_0 {R : Type} (G : (Int) → (List Int) → (Int) → (List Int) → (Int) → (List (List Int)) → (List (List Int)) → (Int) → (List (List Int)) → (List (List Int)) → (Ex → St → Option R) → Option R) : St → (Ex → St → Option R) → Option R := fun T k => match T.sl.getD 1 .junk, T.sl.getD 3 .junk, T.sl.getD 6 .junk, T.sl.getD 7 .junk, T.sl.getD 8 .junk, T.sl.getD 9 .junk, T.hp with
  | CV.int IntKind.i64 p0, CV.ptr (0 : Nat) [], CV.ptr (1 : Nat) [], CV.pure (Ty.slice (Ty.int IntKind.i64)) p1, CV.ptr (4 : Nat) [], CV.int IntKind.i64 p2, ((Blk.mem (CV.pure (Ty.arr (32 : Nat) (Ty.int IntKind.u8)) p3)) :: (Blk.mem (CV.pair (CV.int IntKind.i64 p4) (CV.pair (CV.whole (2 : Nat)) (CV.pair (CV.whole (3 : Nat)) (CV.pure Ty.unit PUnit.unit))))) :: (Blk.vec (25 : Nat) (Ty.arr (32 : Nat) (Ty.int IntKind.u8)) p5) :: (Blk.vec (25 : Nat) (Ty.arr (32 : Nat) (Ty.int IntKind.u8)) p6) :: (Blk.mem (CV.pair (CV.int IntKind.i64 p7) (CV.pair (CV.whole (5 : Nat)) (CV.pair (CV.whole (6 : Nat)) (CV.pure Ty.unit PUnit.unit))))) :: (Blk.vec (25 : Nat) (Ty.arr (32 : Nat) (Ty.int IntKind.u8)) p8) :: (Blk.vec (25 : Nat) (Ty.arr (32 : Nat) (Ty.int IntKind.u8)) p9) :: []) => gd (shapeOK T 54 [1, 3, 6, 7, 8, 9] (0 : Nat)) (G p0 p1 p2 p3 p4 p5 p6 p7 p8 p9 k)
  | _, _, _, _, _, _, _ => none
theorem o_22_0_inv {R : Type} {G : (Int) → (List Int) → (Int) → (List Int) → (Int) → (List (List Int)) → (List (List Int)) → (Int) → (List (List Int)) → (List (List Int)) → (Ex → St → Option R) → Option R} {T : St} {k : Ex → St → Option R} {r : R} (h : o_22_0 G T k = some r) : ∃ p0 p1 p2 p3 p4 p5 p6 p7 p8 p9, T = T_22_0 p0 p1 p2 p3 p4 p5 p6 p7 p8 p9 ∧ G p0 p1 p2 p3 p4 p5 p6 p7 p8 p9 k = some r := by
  unfold o_22_0 at h
  split at h
  · obtain ⟨hs, h'⟩ := gd_some h
    refine ⟨_, _, _, _, _, _, _, _, _, _, (st_of (asg := [(1, _), (3, _), (6, _), (7, _), (8, _), (9, _)]) hs ⟨by assumption, by assumption, by assumption, by assumption, by assumption, by assumption, trivial⟩ (by assumption)).trans ?_, h'⟩
    kernel_rfl
  · cases h
def O_22_22_0 {R : Type} : St → (Ex → St → Option R) → Option R := fun T k => o_22_0 G_22_0 T k
theorem body_22_0 {R : Type} (K0 : St → Option R) (K1 : Ex → St → Option R) (p0 : Int) (p1 : List Int) (p2 : Int) (p3 : List Int) (p4 : Int) (p5 : List (List Int)) (p6 : List (List Int)) (p7 : Int) (p8 : List (List Int)) (p9 : List (List Int)) : evLB (evCodeL sm_22 FU (ovr noO (evFn sm_22 fns FU 0)) .nil ir22_b0) (St.norm ir22_v0) (T_22_0 p0 p1 p2 p3 p4 p5 p6 p7 p8 p9) K0 K1 =
  bif decide (p2 < (67 : Int)) then gd (Sp.p_45 p3 p0 p2) (gd (inB p2 (List.length p1)) (gd (Sp.p_17 (Prod.fst (Sp.v_45 p3 p0 p2)) (0 : Int) (List.getD p1 (Int.toNat p2) (0 : Int))) (gd (room (List.length p8 + (1 : Nat)) (32 : Nat)) (K0 (T_22_0 p0 p1 (IntKind.wrap IntKind.i64 (p2 + (1 : Int))) p3 p4 p5 p6 p7 (p8 ++ [Prod.fst (Sp.v_17 (Prod.fst (Sp.v_45 p3 p0 p2)) (0 : Int) (List.getD p1 (Int.toNat p2) (0 : Int)))]) p9))))) else K1 (Ex.exit (0 : Nat)) (X_22_0_0 p0 p3 p4 p5 p6 p7 p8 p9) := by kernel_rfl
theorem Bgd_22_0 {R : Type} {c : Bool} {x : Option R} {y : Option Sp.E_22_0} {k0 : (Int) → (List Int) → (Int) → (List (List Int)) → (List (List Int)) → (Int) → (List (List Int)) → (List (List Int)) → Option R} (h : x = Sp.B_22_0 y k0) : gd c x = Sp.B_22_0 (gd c y) k0 := by cases c; rfl; exact h
theorem Bcond_22_0 {R : Type} {c : Bool} {x x' : Option R} {y y' : Option Sp.E_22_0} {k0 : (Int) → (List Int) → (Int) → (List (List Int)) → (List (List Int)) → (Int) → (List (List Int)) → (List (List Int)) → Option R} (h : x = Sp.B_22_0 y k0) (h' : x' = Sp.B_22_0 y' k0) : (bif c then x else x') = Sp.B_22_0 (bif c then y else y') k0 := by cases c; exact h'; exact h
theorem loop_22_0 {R : Type} (k : Ex → St → Option R) : ∀ (m : Nat) (p0 : Int) (p1 : List Int) (p2 : Int) (p3 : List Int) (p4 : Int) (p5 : List (List Int)) (p6 : List (List Int)) (p7 : Int) (p8 : List (List Int)) (p9 : List (List Int)), evLoopN (evCodeL sm_22 FU (ovr noO (evFn sm_22 fns FU 0)) .nil ir22_b0) (St.norm ir22_v0) m (T_22_0 p0 p1 p2 p3 p4 p5 p6 p7 p8 p9) k = Sp.B_22_0 (Sp.L_22_0 m p0 p1 p2 p3 p4 p5 p6 p7 p8 p9) (fun p0 p3 p4 p5 p6 p7 p8 p9 => k (Ex.exit (0 : Nat)) (X_22_0_0 p0 p3 p4 p5 p6 p7 p8 p9))
  | 0, _, _, _, _, _, _, _, _, _, _ => rfl
  | m + 1, p0, p1, p2, p3, p4, p5, p6, p7, p8, p9 => by
    rw [evLoopN_succ, body_22_0, Sp.L_22_0]
    repeat' first | apply Bgd_22_0 | apply Bcond_22_0 | exact loop_22_0 k m _ _ _ _ _ _ _ _ _ _ | rfl
theorem ok_22_0 {R : Type} (T : St) (k : Ex → St → Option R) (r : R) (h0 : o_22_0 G_22_0 T k = some r) : evLoopN (evCode sm_22 FU (evFn sm_22 fns FU 0) ir22_b0) (St.norm ir22_v0) FU T k = some r := by
  obtain ⟨p0, p1, p2, p3, p4, p5, p6, p7, p8, p9, rfl, h⟩ := o_22_0_inv h0
  refine evLoopN_L (t := .nil) noO_ok trivial _ _ _ _ ?_
  rw [loop_22_0]
  exact h
theorem OK_22_22_0 {R : Type} (T : St) (k : Ex → St → Option R) (r : R) (h : O_22_22_0 T k = some r) : evLoopN (evCode sm_22 FU (evFn sm_22 fns FU 0) ir22_b0) (St.norm ir22_v0) FU T k = some r := ok_22_0 T k r h
def F_22 (a0 : (List Int)) (a1 : Int) (a2 : (List Int)) : Option ((Int × ((List (List Int)) × ((List (List Int)) × Unit))) × Unit) :=
  gd (Sp.p_15 a2) (Sp.B_22_0 (Sp.L_22_0 (4611686018427387904 : Nat) a1 (Prod.fst (Sp.v_15 a2)) (0 : Int) a0 (0 : Int) [] [] a1 [] []) fun (y8 : Int) (y9 : List Int) (y10 : Int) (y11 y12 : List (List Int)) (y13 : Int) (y14 y15 : List (List Int)) => gd (Sp.p_46 y9 (Sp.xorI IntKind.i64 y8 (1 : Int))) (gd (Sp.p_46 y9 (IntKind.wrap IntKind.i64 ((2 : Int) - IntKind.wrap IntKind.i64 (IntKind.wrap IntKind.i64 (Int.tdiv y8 (2 : Int)) * (2 : Int))))) (gd (Sp.p_46 y9 (IntKind.wrap IntKind.i64 (IntKind.wrap IntKind.i64 ((2 : Int) - IntKind.wrap IntKind.i64 (IntKind.wrap IntKind.i64 (Int.tdiv y8 (2 : Int)) * (2 : Int))) + (1 : Int)))) (gd (Sp.p_42 (Prod.fst (Sp.v_46 y9 (IntKind.wrap IntKind.i64 ((2 : Int) - IntKind.wrap IntKind.i64 (IntKind.wrap IntKind.i64 (Int.tdiv y8 (2 : Int)) * (2 : Int)))))) (Prod.fst (Sp.v_46 y9 (IntKind.wrap IntKind.i64 (IntKind.wrap IntKind.i64 ((2 : Int) - IntKind.wrap IntKind.i64 (IntKind.wrap IntKind.i64 (Int.tdiv y8 (2 : Int)) * (2 : Int))) + (1 : Int)))))) (some ((y8, y14, [Prod.fst (Sp.v_46 y9 (Sp.xorI IntKind.i64 y8 (1 : Int))), Prod.fst (Sp.v_42 (Prod.fst (Sp.v_46 y9 (IntKind.wrap IntKind.i64 ((2 : Int) - IntKind.wrap IntKind.i64 (IntKind.wrap IntKind.i64 (Int.tdiv y8 (2 : Int)) * (2 : Int)))))) (Prod.fst (Sp.v_46 y9 (IntKind.wrap IntKind.i64 (IntKind.wrap IntKind.i64 ((2 : Int) - IntKind.wrap IntKind.i64 (IntKind.wrap IntKind.i64 (Int.tdiv y8 (2 : Int)) * (2 : Int))) + (1 : Int))))))], PUnit.unit), PUnit.unit))))))
theorem fn_22 (a0 : (List Int)) (a1 : Int) (a2 : (List Int)) : evFnL sm_22 FU (ovr noO (evFn sm_22 fns FU 0)) (ir22_t O_22_22_0) ir22 (ofH [(.arr 32 (.int .u8)), (.int .i64), (.arr 32 (.int .u8))] (a0, a1, a2, ())) [] (pureK [(.pair (.int .i64) (.pair (.slice (.arr 32 (.int .u8))) (.pair (.slice (.arr 32 (.int .u8))) .unit)))]) = F_22 a0 a1 a2 := by kernel_rfl
def Sp.p_22 (a0 : (List Int)) (a1 : Int) (a2 : (List Int)) : Bool := (F_22 a0 a1 a2).isSome
def Sp.v_22 (a0 : (List Int)) (a1 : Int) (a2 : (List Int)) : (Int × ((List (List Int)) × ((List (List Int)) × Unit))) × Unit := (F_22 a0 a1 a2).getD (dfH [(.pair (.int .i64) (.pair (.slice (.arr 32 (.int .u8))) (.pair (.slice (.arr 32 (.int .u8))) .unit)))])
def s_22 : Summ := shS [(.arr 32 (.int .u8)), (.int .i64), (.arr 32 (.int .u8))] [(.pair (.int .i64) (.pair (.slice (.arr 32 (.int .u8))) (.pair (.slice (.arr 32 (.int .u8))) .unit)))] (fun x => Sp.p_22 x.1 x.2.1 x.2.2.1) (fun x => Sp.v_22 x.1 x.2.1 x.2.2.1)
theorem pv_22 (a0 : (List Int)) (a1 : Int) (a2 : (List Int)) {y : (Int × ((List (List Int)) × ((List (List Int)) × Unit))) × Unit} (h : F_22 a0 a1 a2 = some y) : Sp.p_22 a0 a1 a2 = true ∧ Sp.v_22 a0 a1 a2 = y := ⟨by rw [Sp.p_22, h]; rfl, by rw [Sp.v_22, h]; rfl⟩
theorem run_22 (x : HDen [(.arr 32 (.int .u8)), (.int .i64), (.arr 32 (.int .u8))]) (y : HDen [(.pair (.int .i64) (.pair (.slice (.arr 32 (.int .u8))) (.pair (.slice (.arr 32 (.int .u8))) .unit)))]) (h : F_22 x.1 x.2.1 x.2.2.1 = some y) : evFn sm_22 fns FU 1 22 (ofH [(.arr 32 (.int .u8)), (.int .i64), (.arr 32 (.int .u8))] x) [] (pureK [(.pair (.int .i64) (.pair (.slice (.arr 32 (.int .u8))) (.pair (.slice (.arr 32 (.int .u8))) .unit)))]) = some y :=
  evFnL_sound (fn := ir22) (t := (ir22_t O_22_22_0)) (o := noO) rfl noO_ok (ir22_tok (fun T k r => OK_22_22_0 T k r)) ((fn_22 _ _ _).trans h)
end
end Go.Ev
set_option linter.unusedSimpArgs false
set_option linter.unusedVariables false
namespace Go.Ev
open Go
set_option maxRecDepth 100000
set_option maxHeartbeats 4000000
namespace Sp
def sgn (s d : List Int) (k : Int) (n : Nat) : List (List Int) := (List.range n).map fun j : Nat => chn (d.getD j 0).toNat 0 (sec s k (j : Int))
def oth (k : Int) : Int := if k < 2 then 2 else 0
def nxt (k : Int) : Int := if k % 2 = 0 then k + 1 else k - 1
def sigF (s : List Int) (k : Int) (dg : List Int) : SigT := (k, sgn s (digL dg) k 67, [leafS s (nxt k), node (leafS s (oth k)) (leafS s (oth k + 1))], ())
end Sp
theorem sgn_len (s d : List Int) (k : Int) (n : Nat) : (Sp.sgn s d k n).length = n := by simp [Sp.sgn]
theorem sgn_succ (s d : List Int) (k : Int) (n : Nat) : Sp.sgn s d k (n + 1) = Sp.sgn s d k n ++ [Sp.chn (d.getD n 0).toNat 0 (Sp.sec s k (n : Int))] := by simp [Sp.sgn, List.range_succ]
theorem sign_loop (s dg : List Int) (hb : bytes dg) (k x1 x4 : Int) (x2 x3 x5 : List (List Int)) : ∀ (d m j : Nat), j + d = 67 → d < m → Sp.L_20_0 m k (Sp.digL dg) 67 (j : Nat) s x1 x2 x3 x4 (Sp.sgn s (Sp.digL dg) k j) x5 = some (.e0 k s x1 x2 x3 x4 (Sp.sgn s (Sp.digL dg) k 67) x5)
  | 0, m + 1, j, hj, _ => by
    rw [Sp.L_20_0, cond_dff (by omega), show j = 67 by omega]
  | d + 1, m + 1, j, hj, hm => by
    have hl := digL_len dg
    have hd := digL_b hb j (by omega)
    have h1 := pv_43 _ _ _ (sec_ok s k j)
    have h2 := pv_37 _ _ _ (chain_ok (Sp.sec s k j) 0 ((Sp.digL dg).getD j 0) (by decide) hd.1 hd.2)
    rw [Int.sub_zero] at h2
    rw [Sp.L_20_0, cond_dtt (by omega), gd_inB (by omega) (by omega), Int.toNat_natCast, h1.1, h1.2, gd_tt]
    dsimp only
    rw [h2.1, h2.2, gd_tt, gd_room (by rw [sgn_len]; omega) (by rw [sgn_len]; omega), wi64 (by omega) (by omega)]
    dsimp only
    rw [← sgn_succ]
    exact sign_loop s dg hb k x1 x4 x2 x3 x5 d m (j + 1) (by omega) (by omega)
theorem rsign_loop (s dg : List Int) (hb : bytes dg) (k x1 x4 : Int) (x2 x3 x5 : List (List Int)) : ∀ (d m j : Nat), j + d = 67 → d < m → Sp.L_22_0 m k (Sp.digL dg) (j : Nat) s x1 x2 x3 x4 (Sp.sgn s (Sp.digL dg) k j) x5 = some (.e0 k s x1 x2 x3 x4 (Sp.sgn s (Sp.digL dg) k 67) x5)
  | 0, m + 1, j, hj, _ => by
    rw [Sp.L_22_0, cond_dff (by omega), show j = 67 by omega]
  | d + 1, m + 1, j, hj, hm => by
    have hl := digL_len dg
    have hd := digL_b hb j (by omega)
    have h1 := pv_45 _ _ _ (rsec_ok s k j)
    have h2 := pv_17 _ _ _ (rchain_ok (Sp.sec s k j) 0 ((Sp.digL dg).getD j 0) (by decide) hd.1 hd.2)
    rw [Int.sub_zero] at h2
    rw [Sp.L_22_0, cond_dtt (by omega), h1.1, h1.2, gd_tt, gd_inB (by omega) (by omega), Int.toNat_natCast]
    dsimp only
    rw [h2.1, h2.2, gd_tt, gd_room (by rw [sgn_len]; omega) (by rw [sgn_len]; omega), wi64 (by omega) (by omega)]
    dsimp only
    rw [← sgn_succ]
    exact rsign_loop s dg hb k x1 x4 x2 x3 x5 d m (j + 1) (by omega) (by omega)
theorem key_nums (k : Int) (h0 : 0 ≤ k) (h1 : k < 4) : Sp.xorI .i64 k 1 = Sp.nxt k ∧ Sp.andnI .i64 (Sp.xorI .i64 k 2) 1 = Sp.oth k ∧ IntKind.wrap .i64 (2 - IntKind.wrap .i64 (IntKind.wrap .i64 (Int.tdiv k 2) * 2)) = Sp.oth k ∧ IntKind.wrap .i64 (Sp.oth k + 1) = Sp.oth k + 1 := by
  rcases (show k = 0 ∨ k = 1 ∨ k = 2 ∨ k = 3 by omega) with rfl | rfl | rfl | rfl <;> exact ⟨by kernel_rfl, by kernel_rfl, by kernel_rfl, by kernel_rfl⟩
theorem sign_ok (s : List Int) (k : Int) (dg : List Int) (hb : bytes dg) (h0 : 0 ≤ k) (h1 : k < 4) : F_20 s k dg = some (Sp.sigF s k dg, 0, ()) := by
  have d := pv_13 _ (i_digits dg hb)
  obtain ⟨e1, e2, _, e4⟩ := key_nums k h0 h1
  unfold F_20
  rw [cond_dff (by omega), cond_dff (by omega), d.1, d.2, gd_tt]
  dsimp only
  rw [digL_len]
  rw [show Sp.L_20_0 4611686018427387904 k (Sp.digL dg) ((67 : Nat) : Int) 0 s 0 [] [] k [] [] = _ from sign_loop s dg hb k 0 k [] [] [] 67 4611686018427387904 0 (by omega) (by omega)]
  simp only [Sp.B_20_0, e1, e2, e4, (leaf_pv s _).1, (leaf_pv s _).2, (above_pv _ _).1, (above_pv _ _).2, gd_tt, Sp.sigF]
theorem rsign_ok (s : List Int) (k : Int) (dg : List Int) (hb : bytes dg) (h0 : 0 ≤ k) (h1 : k < 4) : F_22 s k dg = some (Sp.sigF s k dg, ()) := by
  have d := pv_15 _ (r_digits dg hb)
  obtain ⟨e1, _, e3, e4⟩ := key_nums k h0 h1
  unfold F_22
  rw [d.1, d.2, gd_tt]
  dsimp only
  rw [show Sp.L_22_0 4611686018427387904 k (Sp.digL dg) 0 s 0 [] [] k [] [] = _ from rsign_loop s dg hb k 0 k [] [] [] 67 4611686018427387904 0 (by omega) (by omega)]
  simp only [Sp.B_22_0, e1, e3, e4, (rleaf_pv s _).1, (rleaf_pv s _).2, (node_pv _ _).1, (node_pv _ _).2, gd_tt, Sp.sigF]
end Go.Ev
namespace Go.Ev
open Go
set_option maxRecDepth 100000
set_option maxHeartbeats 4000000
set_option linter.unusedVariables false
noncomputable section

def sm_7 : Nat → Option Summ := fun f => bif Nat.beq f 10 then some s_10 else bif Nat.beq f 20 then some s_20 else bif Nat.beq f 21 then some s_21 else bif Nat.beq f 22 then some s_22 else bif Nat.beq f 23 then some s_23 else bif Nat.beq f 24 then some s_24 else none
def T_7_0 (p0 : Int) (p1 : Int × List (List Int) × List (List Int) × PUnit) : St := St.mk [jk, jk, jk, jk, jk, jk, jk, CV.ptr (0 : Nat) [], CV.int IntKind.i64 p0, jk, jk, jk, jk, jk, jk, jk, jk, jk, jk, jk, jk, jk, jk, jk, jk, jk, jk, jk, jk, jk, jk, jk, jk, jk, jk, jk, jk, jk, jk, jk, jk, jk, jk, jk, jk, jk, jk, jk] [Blk.mem (CV.pure (Ty.pair (Ty.int IntKind.i64) (Ty.pair (Ty.slice (Ty.arr (32 : Nat) (Ty.int IntKind.u8))) (Ty.pair (Ty.slice (Ty.arr (32 : Nat) (Ty.int IntKind.u8))) Ty.unit))) p1)] (0 : Nat)
def X_7_0_0 (p1 : Int × List (List Int) × List (List Int) × PUnit) : St := St.mk [jk, jk, jk, jk, jk, jk, CV.bool (Prod.fst (Sp.v_21 p1 ((0 : Int), [], [], PUnit.unit))), jk, jk, jk, jk, jk, jk, jk, jk, jk, jk, jk, jk, jk, jk, jk, jk, jk, jk, jk, jk, jk, jk, jk, jk, jk, jk, jk, jk, jk, jk, jk, jk, jk, jk, jk, jk, jk, jk, jk, jk, jk] [] (0 : Nat)
def X_7_0_1 : St := St.mk [jk, jk, jk, jk, jk, jk, CV.bool false, jk, jk, jk, jk, jk, jk, jk, jk, jk, jk, jk, jk, jk, jk, jk, jk, jk, jk, jk, jk, jk, jk, jk, jk, jk, jk, jk, jk, jk, jk, jk, jk, jk, jk, jk, jk, jk, jk, jk, jk, jk] [] (0 : Nat)
inductive Sp.E_7_0 where
  | e0 (p1 : Int × List (List Int) × List (List Int) × PUnit)
  | e1
def Sp.B_7_0 {R : Type} (r : Option Sp.E_7_0) (k0 : (Int × List (List Int) × List (List Int) × PUnit) → Option R) (k1 : Option R) : Option R := match r with
  | none => none
  | some (.e0 p1) => k0 p1
  | some (.e1) => k1
def Sp.J_7_0 (p0 : Int) (p1 : Int × List (List Int) × List (List Int) × PUnit) : Option Sp.E_7_0 :=
  bif p0 == (2 : Int) then gd (Sp.p_21 p1 ((0 : Int), [], [], PUnit.unit)) (some (Sp.E_7_0.e0 p1)) else some (Sp.E_7_0.e1)
def G_7_0 {R : Type} (p0 : Int) (p1 : Int × List (List Int) × List (List Int) × PUnit) (k : Ex → St → Option R) : Option R := Sp.B_7_0 (Sp.J_7_0 p0 p1) (fun p1 => k Ex.ret (X_7_0_0 p1)) (k Ex.ret (X_7_0_1))
def o_7_0 {R : Type} (G : (Int) → (Int × List (List Int) × List (List Int) × PUnit) → (Ex → St → Option R) → Option R) : St → (Ex → St → Option R) → Option R := fun T k => match T.sl.getD 7 .junk, T.sl.getD 8 .junk, T.hp with
  | CV.ptr (0 : Nat) [], CV.int IntKind.i64 p0, ((Blk.mem (CV.pure (Ty.pair (Ty.int IntKind.i64) (Ty.pair (Ty.slice (Ty.arr (32 : Nat) (Ty.int IntKind.u8))) (Ty.pair (Ty.slice (Ty.arr (32 : Nat) (Ty.int IntKind.u8))) Ty.unit))) p1)) :: []) => gd (shapeOK T 48 [7, 8] (0 : Nat)) (G p0 p1 k)
  | _, _, _ => none
theorem o_7_0_inv {R : Type} {G : (Int) → (Int × List (List Int) × List (List Int) × PUnit) → (Ex → St → Option R) → Option R} {T : St} {k : Ex → St → Option R} {r : R} (h : o_7_0 G T k = some r) : ∃ p0 p1, T = T_7_0 p0 p1 ∧ G p0 p1 k = some r := by
  unfold o_7_0 at h
  split at h
  · obtain ⟨hs, h'⟩ := gd_some h
    refine ⟨_, _, (st_of (asg := [(7, _), (8, _)]) hs ⟨by assumption, by assumption, trivial⟩ (by assumption)).trans ?_, h'⟩
    kernel_rfl
  · cases h
def O_7_7_0 {R : Type} : St → (Ex → St → Option R) → Option R := fun T k => o_7_0 G_7_0 T k
theorem body_7_0 {R : Type} (K1 : Ex → St → Option R) (p0 : Int) (p1 : Int × List (List Int) × List (List Int) × PUnit) : evJ (evCodeL sm_7 FU (ovr noO (evFn sm_7 fns FU 0)) .nil ir7_b0) (T_7_0 p0 p1) K1 =
  bif p0 == (2 : Int) then gd (Sp.p_21 p1 ((0 : Int), [], [], PUnit.unit)) (K1 Ex.ret (X_7_0_0 p1)) else K1 Ex.ret X_7_0_1 := by kernel_rfl
theorem Bgd_7_0 {R : Type} {c : Bool} {x : Option R} {y : Option Sp.E_7_0} {k0 : (Int × List (List Int) × List (List Int) × PUnit) → Option R} {k1 : Option R} (h : x = Sp.B_7_0 y k0 k1) : gd c x = Sp.B_7_0 (gd c y) k0 k1 := by cases c; rfl; exact h
theorem Bcond_7_0 {R : Type} {c : Bool} {x x' : Option R} {y y' : Option Sp.E_7_0} {k0 : (Int × List (List Int) × List (List Int) × PUnit) → Option R} {k1 : Option R} (h : x = Sp.B_7_0 y k0 k1) (h' : x' = Sp.B_7_0 y' k0 k1) : (bif c then x else x') = Sp.B_7_0 (bif c then y else y') k0 k1 := by cases c; exact h'; exact h
theorem loop_7_0 {R : Type} (k : Ex → St → Option R) (p0 : Int) (p1 : Int × List (List Int) × List (List Int) × PUnit) : evJ (evCodeL sm_7 FU (ovr noO (evFn sm_7 fns FU 0)) .nil ir7_b0) (T_7_0 p0 p1) k = Sp.B_7_0 (Sp.J_7_0 p0 p1) (fun p1 => k Ex.ret (X_7_0_0 p1)) (k Ex.ret (X_7_0_1)) := by
  rw [body_7_0, Sp.J_7_0]
  repeat' first | apply Bgd_7_0 | apply Bcond_7_0 | rfl
theorem ok_7_0 {R : Type} (T : St) (k : Ex → St → Option R) (r : R) (h0 : o_7_0 G_7_0 T k = some r) : evCode sm_7 FU (evFn sm_7 fns FU 0) ir7_b0 T k = some r := by
  obtain ⟨p0, p1, rfl, h⟩ := o_7_0_inv h0
  refine bodyL_sound (t := .nil) noO_ok trivial ((loop_7_0 k _ _).trans h)
theorem OK_7_7_0 {R : Type} (T : St) (k : Ex → St → Option R) (r : R) (h : O_7_7_0 T k = some r) : evCode sm_7 FU (evFn sm_7 fns FU 0) ir7_b0 T k = some r := ok_7_0 T k r h
def F_7 (a0 : (List Int)) (a1 : (List Int)) (a2 : Int) : Option (Bool) :=
  gd Sp.p_10 (bif !Prod.fst Sp.v_10 then some false else gd (Sp.p_20 a0 a2 a1) (bif decide (a2 < (0 : Int)) then Sp.B_7_0 (Sp.J_7_0 (Prod.fst (Prod.snd (Sp.v_20 a0 a2 a1))) (Prod.fst (Sp.v_20 a0 a2 a1))) (fun (y2 : Int × List (List Int) × List (List Int) × PUnit) => some (Prod.fst (Sp.v_21 y2 ((0 : Int), [], [], PUnit.unit)))) (some false) else bif decide (a2 > (3 : Int)) then Sp.B_7_0 (Sp.J_7_0 (Prod.fst (Prod.snd (Sp.v_20 a0 a2 a1))) (Prod.fst (Sp.v_20 a0 a2 a1))) (fun (y3 : Int × List (List Int) × List (List Int) × PUnit) => some (Prod.fst (Sp.v_21 y3 ((0 : Int), [], [], PUnit.unit)))) (some false) else bif Prod.fst (Prod.snd (Sp.v_20 a0 a2 a1)) == (0 : Int) then gd (Sp.p_22 a0 a2 a1) (gd (Sp.p_21 (Prod.fst (Sp.v_20 a0 a2 a1)) (Prod.fst (Sp.v_22 a0 a2 a1))) (bif Prod.fst (Sp.v_21 (Prod.fst (Sp.v_20 a0 a2 a1)) (Prod.fst (Sp.v_22 a0 a2 a1))) then gd (Sp.p_23 a0) (gd (Sp.p_24 a0) (some (Ty.beq (Ty.arr (32 : Nat) (Ty.int IntKind.u8)) (Prod.fst (Sp.v_23 a0)) (Prod.fst (Sp.v_24 a0))))) else some false)) else some false))
theorem fn_7 (a0 : (List Int)) (a1 : (List Int)) (a2 : Int) : evFnL sm_7 FU (ovr noO (evFn sm_7 fns FU 0)) (ir7_t O_7_7_0) ir7 (ofH [(.arr 32 (.int .u8)), (.arr 32 (.int .u8)), (.int .i64)] (a0, a1, a2, ())) [] bk = F_7 a0 a1 a2 := by kernel_rfl
theorem run_7 (a0 : (List Int)) (a1 : (List Int)) (a2 : Int) {b : Bool} (h : F_7 a0 a1 a2 = some b) : evFn sm_7 fns FU 1 7 (ofH [(.arr 32 (.int .u8)), (.arr 32 (.int .u8)), (.int .i64)] (a0, a1, a2, ())) [] bk = some b :=
  evFnL_sound (fn := ir7) (t := (ir7_t O_7_7_0)) (o := noO) rfl noO_ok (ir7_tok (fun T k r => OK_7_7_0 T k r)) ((fn_7 _ _ _).trans h)
end
end Go.Ev
set_option linter.unusedSimpArgs false
set_option linter.unusedVariables false
namespace Go.Ev
open Go
set_option maxRecDepth 100000
set_option maxHeartbeats 4000000
theorem same_l0 (a b : SigT) (h2 : a.2.1.length = b.2.1.length) (h3 : a.2.1.length < 4611686018427387904) : ∀ (d m j : Nat), j + d = a.2.1.length → d < m → a.2.1.take j = b.2.1.take j → Sp.L_21_0 m (j : Nat) a b = (if a.2.1 = b.2.1 then some (.e1 a b) else some .e0)
  | 0, m + 1, j, h1, _, h5 => by
    rw [Sp.L_21_0, cond_dff (by omega), if_pos]
    rw [List.take_of_length_le (by omega), List.take_of_length_le (by omega)] at h5
    exact h5
  | d + 1, m + 1, j, h1, h4, h5 => by
    have hx : j < a.2.1.length := by omega
    have hy : j < b.2.1.length := by omega
    rw [Sp.L_21_0, cond_dtt (by omega), gd_inB (by omega) (by omega), gd_inB (by omega) (by omega), Int.toNat_natCast, arr_beq]
    have ex : a.2.1.getD j (Ty.dflt (.arr 32 (.int .u8))) = a.2.1[j] := by simp [List.getD_eq_getElem?_getD, hx]
    have ey : b.2.1.getD j (Ty.dflt (.arr 32 (.int .u8))) = b.2.1[j] := by simp [List.getD_eq_getElem?_getD, hy]
    rw [ex, ey]
    by_cases he : a.2.1[j] = b.2.1[j]
    · rw [beq_iff_eq.2 he, Bool.not_true, cond_f, wi64 (by omega) (by omega)]
      refine same_l0 a b h2 h3 d m (j + 1) (by omega) (by omega) ?_
      rw [List.take_succ_eq_append_getElem hx, List.take_succ_eq_append_getElem hy, h5, he]
    · rw [beq_eq_false_iff_ne.2 he, Bool.not_false, cond_t, if_neg (fun e => he (by simp only [e]))]
theorem same_l1 (a b : SigT) (h2 : a.2.2.1.length = b.2.2.1.length) (h3 : a.2.2.1.length < 4611686018427387904) : ∀ (d m j : Nat), j + d = a.2.2.1.length → d < m → a.2.2.1.take j = b.2.2.1.take j → Sp.L_21_1 m (j : Nat) a b = (if a.2.2.1 = b.2.2.1 then some .e1 else some .e0)
  | 0, m + 1, j, h1, _, h5 => by
    rw [Sp.L_21_1, cond_dff (by omega), if_pos]
    rw [List.take_of_length_le (by omega), List.take_of_length_le (by omega)] at h5
    exact h5
  | d + 1, m + 1, j, h1, h4, h5 => by
    have hx : j < a.2.2.1.length := by omega
    have hy : j < b.2.2.1.length := by omega
    rw [Sp.L_21_1, cond_dtt (by omega), gd_inB (by omega) (by omega), gd_inB (by omega) (by omega), Int.toNat_natCast, arr_beq]
    have ex : a.2.2.1.getD j (Ty.dflt (.arr 32 (.int .u8))) = a.2.2.1[j] := by simp [List.getD_eq_getElem?_getD, hx]
    have ey : b.2.2.1.getD j (Ty.dflt (.arr 32 (.int .u8))) = b.2.2.1[j] := by simp [List.getD_eq_getElem?_getD, hy]
    rw [ex, ey]
    by_cases he : a.2.2.1[j] = b.2.2.1[j]
    · rw [beq_iff_eq.2 he, Bool.not_true, cond_f, wi64 (by omega) (by omega)]
      refine same_l1 a b h2 h3 d m (j + 1) (by omega) (by omega) ?_
      rw [List.take_succ_eq_append_getElem hx, List.take_succ_eq_append_getElem hy, h5, he]
    · rw [beq_eq_false_iff_ne.2 he, Bool.not_false, cond_t, if_neg (fun e => he (by simp only [e]))]
theorem same_self (a : SigT) (h3 : a.2.1.length < 4611686018427387904) (h4 : a.2.2.1.length < 4611686018427387904) : F_21 a a = some (true, ()) := by
  unfold F_21
  rw [cond_nff rfl, cond_nff rfl, cond_nff rfl]
  rw [show Sp.L_21_0 4611686018427387904 0 a a = _ from same_l0 a a rfl h3 a.2.1.length 4611686018427387904 0 (by omega) (by omega) rfl, if_pos rfl]
  simp only [Sp.B_21_0]
  rw [show Sp.L_21_1 4611686018427387904 0 a a = _ from same_l1 a a rfl h4 a.2.2.1.length 4611686018427387904 0 (by omega) (by omega) rfl, if_pos rfl]
  rfl
theorem sign_bad (s : List Int) (k : Int) (dg : List Int) (h : k < 0 ∨ k ≥ 4) : F_20 s k dg = some ((0, [], [], ()), 2, ()) := by
  unfold F_20
  by_cases h1 : k < 0
  · rw [cond_dtt h1]
  · rw [cond_dff h1, cond_dtt (by omega)]
theorem plain_7 (s dg : List Int) (k : Int) (_ : wfD (.arr 32 (.int .u8)) s) (w : wfD (.arr 32 (.int .u8)) dg) (_ : wfD (.int .i64) k) : F_7 s dg k = some true := by
  obtain ⟨_, hb⟩ := wf_bytes w
  unfold F_7
  rw [aw_pv.1, aw_pv.2, gd_tt]
  simp only [Bool.not_true, cond_f]
  by_cases h : k < 0 ∨ k ≥ 4
  · have e := pv_20 _ _ _ (sign_bad s k dg h)
    have sm := pv_21 _ _ (same_self (0, [], [], ()) (by decide) (by decide))
    have J : Sp.B_7_0 (Sp.J_7_0 (2 : Int) ((0, [], [], ()) : SigT)) (fun y => some (Sp.v_21 y ((0 : Int), [], [], PUnit.unit)).1) (some false) = some true := by
      unfold Sp.J_7_0
      rw [cond_ett rfl, sm.1, gd_tt]
      simp only [Sp.B_7_0, sm.2]
    rw [e.1, e.2, gd_tt]
    by_cases h1 : k < 0
    · rw [cond_dtt h1]; exact J
    · rw [cond_dff h1, cond_dtt (by omega)]; exact J
  · have e := pv_20 _ _ _ (sign_ok s k dg hb (by omega) (by omega))
    have r := pv_22 _ _ _ (rsign_ok s k dg hb (by omega) (by omega))
    have p1 := pv_23 _ (public_ok s)
    have p2 := pv_24 _ (rpublic_ok s)
    have sm := pv_21 _ _ (same_self (Sp.sigF s k dg) (by simp [Sp.sigF, sgn_len]) (by simp [Sp.sigF]))
    rw [e.1, e.2, gd_tt, cond_dff (by omega), cond_dff (by omega), cond_ett rfl, r.1, r.2, gd_tt]
    dsimp only
    rw [sm.1, sm.2, gd_tt]
    dsimp only
    rw [cond_t, p1.1, p1.2, p2.1, p2.2, gd_tt, gd_tt]
    simp only [arr_beq, beq_self_eq_true]
end Go.Ev
set_option linter.unusedSimpArgs false
set_option linter.unusedVariables false
namespace Go.Ev
open Go
set_option maxRecDepth 100000
set_option maxHeartbeats 4000000
theorem u32_b {n : Int} (h : (Lit.int .u32 n).wf = true) : 0 ≤ n ∧ n < 4294967296 := by
  simp [Lit.wf, IntKind.min, IntKind.max, IntKind.signed, IntKind.bits] at h; omega
/-- The word of four bytes. -/
theorem wd_sum (a b c d : Nat) (ha : a < 256) (hb : b < 256) (hc : c < 256) (hd : d < 256) : Sp.wd a b c d = ((a * 16777216 + b * 65536 + c * 256 + d : Nat) : Int) := by
  unfold Sp.wd
  rw [u32_wrap_nat (a := a) (by omega), u32_wrap_nat (a := b) (by omega), u32_wrap_nat (a := c) (by omega), u32_wrap_nat (a := d) (by omega)]
  rw [show (a : Int) * 16777216 = ((a * 16777216 : Nat) : Int) by omega, show (b : Int) * 65536 = ((b * 65536 : Nat) : Int) by omega, show (c : Int) * 256 = ((c * 256 : Nat) : Int) by omega]
  rw [u32_wrap_nat (a := a * 16777216) (by omega), u32_wrap_nat (a := b * 65536) (by omega), u32_wrap_nat (a := c * 256) (by omega)]
  have h1 : a * 16777216 ||| b * 65536 = (a * 256 + b) * 65536 := by
    rw [show a * 16777216 = a * 2 ^ 24 by omega, or_add 24 (by omega)]; omega
  have h2 : (a * 256 + b) * 65536 ||| c * 256 = ((a * 256 + b) * 256 + c) * 256 := by
    rw [show (a * 256 + b) * 65536 = (a * 256 + b) * 2 ^ 16 by omega, or_add 16 (by omega)]; omega
  have h3 : ((a * 256 + b) * 256 + c) * 256 ||| d = a * 16777216 + b * 65536 + c * 256 + d := by
    rw [show ((a * 256 + b) * 256 + c) * 256 = ((a * 256 + b) * 256 + c) * 2 ^ 8 by omega, or_add 8 (by omega)]; omega
  rw [orU_nat (by omega) (by omega), h1, orU_nat (by omega) (by omega), h2, orU_nat (by omega) (by omega), h3]
theorem byt_nat (x r : Nat) (hr : r < 4) : IntKind.wrap .u8 (Int.fdiv (x : Int) (2 ^ (24 - 8 * r))) = ((x / 2 ^ (24 - 8 * r) % 256 : Nat) : Int) := by
  rw [u8_mod, Int.fdiv_eq_ediv_of_nonneg _ (by exact_mod_cast Nat.zero_le _)]
  push_cast
  rfl
/-- What the bytes of a word make again. -/
theorem word_back (x : Int) (h0 : 0 ≤ x) (h1 : x < 4294967296) : Sp.wd (IntKind.wrap .u8 (Int.fdiv x (2 ^ (24 - 8 * 0)))) (IntKind.wrap .u8 (Int.fdiv x (2 ^ (24 - 8 * 1)))) (IntKind.wrap .u8 (Int.fdiv x (2 ^ (24 - 8 * 2)))) (IntKind.wrap .u8 (Int.fdiv x (2 ^ (24 - 8 * 3)))) = x := by
  obtain ⟨n, rfl⟩ := Int.eq_ofNat_of_zero_le h0
  rw [byt_nat n 0 (by decide), byt_nat n 1 (by decide), byt_nat n 2 (by decide), byt_nat n 3 (by decide), wd_sum _ _ _ _ (by omega) (by omega) (by omega) (by omega)]
  congr 1
  simp only [show (2 : Nat) ^ (24 - 8 * 0) = 16777216 from rfl, show (2 : Nat) ^ (24 - 8 * 1) = 65536 from rfl, show (2 : Nat) ^ (24 - 8 * 2) = 256 from rfl, show (2 : Nat) ^ (24 - 8 * 3) = 1 from rfl]
  omega
theorem rdh_at (w : List Int) (k j : Nat) (hj : j < 32) : (Sp.rdh w k).getD j 0 = Sp.byt w k j := by
  unfold Sp.rdh
  rw [getD_at _ (by simpa using hj)]
  simp
theorem hwd_rdh (w : List Int) (k i : Nat) (hi : i < 8) (h0 : 0 ≤ w.getD (1 + 8 * k + i) 0) (h1 : w.getD (1 + 8 * k + i) 0 < 4294967296) : Sp.hwd (Sp.rdh w k) i = w.getD (1 + 8 * k + i) 0 := by
  unfold Sp.hwd
  have b0 := byt_at w k i 0 (by decide)
  rw [rdh_at _ _ _ (by omega), rdh_at _ _ _ (by omega), rdh_at _ _ _ (by omega), rdh_at _ _ _ (by omega), byt_at w k i 1 (by decide), byt_at w k i 2 (by decide), byt_at w k i 3 (by decide), show Sp.byt w k (4 * i) = _ from b0, word_back _ h0 h1]
theorem seg_words (w : List Int) (s : Nat) : ∀ n, s + n ≤ w.length → (List.range n).map (fun i => w.getD (s + i) 0) = (w.drop s).take n
  | 0, _ => by simp
  | n + 1, h => by
    have hn : n < (w.drop s).length := by rw [List.length_drop]; omega
    rw [List.range_succ, List.map_append, seg_words w s n (by omega), List.take_succ_eq_append_getElem hn]
    simp only [List.map_cons, List.map_nil, List.getElem_drop]
    rw [getD_at _ (by omega)]
theorem cws_rdh (w : List Int) (hw : ∀ x ∈ w, 0 ≤ x ∧ x < 4294967296) (o : Nat) : ∀ n, 1 + 8 * (o + n) ≤ w.length → Sp.cws ((List.range n).map fun j => Sp.rdh w (o + j)) = (w.drop (1 + 8 * o)).take (8 * n)
  | 0, _ => by simp [Sp.cws]
  | n + 1, h => by
    have e : Sp.hws (Sp.rdh w (o + n)) 8 = (w.drop (1 + 8 * (o + n))).take 8 := by
      rw [← seg_words w (1 + 8 * (o + n)) 8 (by omega)]
      unfold Sp.hws
      refine List.map_congr_left fun i hi => ?_
      have hi : i < 8 := by simpa using hi
      have hb := hw (w.getD (1 + 8 * (o + n) + i) 0) (by rw [getD_at _ (by omega)]; exact List.getElem_mem _)
      exact hwd_rdh w (o + n) i hi hb.1 hb.2
    have ih := cws_rdh w hw o n (by omega)
    have e2 : Sp.cws ((List.range (n + 1)).map fun j => Sp.rdh w (o + j)) = Sp.cws ((List.range n).map fun j => Sp.rdh w (o + j)) ++ Sp.hws (Sp.rdh w (o + n)) 8 := by
      rw [List.range_succ, List.map_append]
      simp only [Sp.cws, List.flatMap_append, List.map_cons, List.map_nil, List.flatMap_cons, List.flatMap_nil, List.append_nil]
    rw [e2, ih, e, show 8 * (n + 1) = 8 * n + 8 by omega, List.take_add, List.drop_drop, show 1 + 8 * o + 8 * n = 1 + 8 * (o + n) by omega]
theorem words_rd (w : List Int) (hw : ∀ x ∈ w, 0 ≤ x ∧ x < 4294967296) (hk : Sp.okw w = true) : Sp.wordsF (Sp.rd w) = w := by
  simp only [Sp.okw, Bool.and_eq_true, decide_eq_true_eq] at hk
  obtain ⟨hl, h4⟩ := hk
  have hx := hw (w.getD 0 0) (by rw [getD_at _ (by omega)]; exact List.getElem_mem _)
  have c1 := cws_rdh w hw 0 67 (by omega)
  have c2 := cws_rdh w hw 67 2 (by omega)
  unfold Sp.wordsF Sp.rd
  dsimp only
  have d1 : Sp.rdC w 69 = (List.range 67).map fun j => Sp.rdh w (0 + j) := by
    unfold Sp.rdC
    exact List.map_congr_left fun j _ => by rw [Nat.zero_add]
  have d2 : Sp.rdP w 69 = (List.range 2).map fun j => Sp.rdh w (67 + j) := rfl
  rw [d1, d2, c1, c2, wi64 (by omega) (by omega), wu32' (by omega) (by omega)]
  obtain ⟨x, r, rfl⟩ : ∃ x r, w = x :: r := by
    cases w with
    | nil => simp at hl
    | cons x r => exact ⟨x, r, rfl⟩
  have hr : r.length = 552 := by simpa using hl
  simp only [List.getD_cons_zero, Nat.mul_zero, Nat.add_zero, List.drop_succ_cons, List.drop_zero, List.singleton_append, List.cons_append]
  congr 1
  rw [List.nil_append, show 1 + 535 = 536 from rfl, show 8 * 67 = 536 from rfl, show (List.drop 536 r).take (8 * 2) = List.drop 536 r from List.take_of_length_le (by rw [List.length_drop]; omega)]
  exact List.take_append_drop 536 r
/-! and back -/
theorem cws_at : ∀ (l : List (List Int)) (k i : Nat) (r : List Int), k < l.length → i < 8 → (Sp.cws l ++ r).getD (8 * k + i) 0 = Sp.hwd (l.getD k h0) i
  | [], k, i, r, h, _ => by simp at h
  | h :: l, 0, i, r, _, hi => by
    have e : Sp.cws (h :: l) = Sp.hws h 8 ++ Sp.cws l := by simp [Sp.cws]
    rw [e, List.append_assoc, List.getD_eq_getElem?_getD, List.getElem?_append_left (by rw [hws_len]; omega)]
    simp [Sp.hws, List.getD_cons_zero, show i < 8 from hi]
  | h :: l, k + 1, i, r, hk, hi => by
    have e : Sp.cws (h :: l) = Sp.hws h 8 ++ Sp.cws l := by simp [Sp.cws]
    have ih := cws_at l k i r (by simpa using hk) hi
    rw [e, List.append_assoc, List.getD_eq_getElem?_getD, List.getElem?_append_right (by rw [hws_len]; omega), hws_len, show 8 * (k + 1) + i - 8 = 8 * k + i by omega, ← List.getD_eq_getElem?_getD, ih, List.getD_cons_succ]
theorem wordsF_at (s : SigT) (h3 : s.2.1.length = 67) (h4 : s.2.2.1.length = 2) (k i : Nat) (hi : i < 8) : (k < 67 → (Sp.wordsF s).getD (1 + 8 * k + i) 0 = Sp.hwd (s.2.1.getD k h0) i) ∧ (k < 2 → (Sp.wordsF s).getD (1 + 8 * (67 + k) + i) 0 = Sp.hwd (s.2.2.1.getD k h0) i) := by
  have l1 := cws_len s.2.1
  unfold Sp.wordsF
  refine ⟨fun hk => ?_, fun hk => ?_⟩
  · rw [List.append_assoc, List.singleton_append, show 1 + 8 * k + i = (8 * k + i) + 1 by omega, List.getD_cons_succ]
    exact cws_at s.2.1 k i _ (by omega) hi
  · rw [List.append_assoc, List.singleton_append, show 1 + 8 * (67 + k) + i = (536 + (8 * k + i)) + 1 by omega, List.getD_cons_succ, List.getD_eq_getElem?_getD, List.getElem?_append_right (by omega), l1, h3, show 536 + (8 * k + i) - 8 * 67 = 8 * k + i by omega, ← List.getD_eq_getElem?_getD]
    have := cws_at s.2.2.1 k i [] (by omega) hi
    rwa [List.append_nil] at this
theorem hash_back (w : List Int) (k : Nat) (h : List Int) (hl : h.length = 32) (hb : bytes h) (hw : ∀ i, i < 8 → w.getD (1 + 8 * k + i) 0 = Sp.hwd h i) : Sp.rdh w k = h := by
  refine list_ext 0 (by simp [Sp.rdh, hl]) fun j hj => ?_
  have hj : j < 32 := by simpa [Sp.rdh] using hj
  rw [rdh_at _ _ _ hj]
  unfold Sp.byt
  rw [hw (j / 4) (by omega)]
  unfold Sp.hwd
  have nat : ∀ i, i < 32 → ∃ n : Nat, h.getD i 0 = n ∧ n < 256 := fun i hi => by
    have := hb (h.getD i 0) (by rw [getD_at _ (by omega)]; exact List.getElem_mem _)
    obtain ⟨n, hn⟩ := Int.eq_ofNat_of_zero_le this.1
    exact ⟨n, hn, by omega⟩
  obtain ⟨a, ha, ha'⟩ := nat (4 * (j / 4)) (by omega)
  obtain ⟨b, hb, hb'⟩ := nat (4 * (j / 4) + 1) (by omega)
  obtain ⟨c, hc, hc'⟩ := nat (4 * (j / 4) + 2) (by omega)
  obtain ⟨d, hd, hd'⟩ := nat (4 * (j / 4) + 3) (by omega)
  rw [ha, hb, hc, hd, wd_sum a b c d ha' hb' hc' hd', byt_nat _ _ (by omega)]
  rcases (show j % 4 = 0 ∨ j % 4 = 1 ∨ j % 4 = 2 ∨ j % 4 = 3 by omega) with e | e | e | e
  · rw [e, show h.getD j 0 = (a : Int) by rw [← ha]; congr 1; omega, show (2 : Nat) ^ (24 - 8 * 0) = 16777216 from rfl]; congr 1; omega
  · rw [e, show h.getD j 0 = (b : Int) by rw [← hb]; congr 1; omega, show (2 : Nat) ^ (24 - 8 * 1) = 65536 from rfl]; congr 1; omega
  · rw [e, show h.getD j 0 = (c : Int) by rw [← hc]; congr 1; omega, show (2 : Nat) ^ (24 - 8 * 2) = 256 from rfl]; congr 1; omega
  · rw [e, show h.getD j 0 = (d : Int) by rw [← hd]; congr 1; omega, show (2 : Nat) ^ (24 - 8 * 3) = 1 from rfl]; congr 1; omega
theorem rd_words (s : SigT) (hs : Sp.shp s = true) (w1 : ∀ h ∈ s.2.1, h.length = 32 ∧ bytes h) (w2 : ∀ h ∈ s.2.2.1, h.length = 32 ∧ bytes h) : Sp.rd (Sp.wordsF s) = s ∧ Sp.okw (Sp.wordsF s) = true := by
  obtain ⟨h1, h2, h3, h4⟩ := shp_spec hs
  have l1 := cws_len s.2.1
  have l2 := cws_len s.2.2.1
  have hx : (Sp.wordsF s).getD 0 0 = s.1 := by
    unfold Sp.wordsF
    rw [List.append_assoc, List.singleton_append, List.getD_cons_zero, wu32' (by omega) (by omega)]
  have hl : (Sp.wordsF s).length = 553 := by
    unfold Sp.wordsF
    rw [List.length_append, List.length_append, List.length_singleton]; omega
  refine ⟨?_, by unfold Sp.okw; rw [hx, decide_eq_true hl, decide_eq_true h2]; rfl⟩
  obtain ⟨x, c, p, u⟩ := s
  dsimp only at *
  unfold Sp.rd
  rw [hx, wi64 (by omega) (by omega)]
  have e1 : Sp.rdC (Sp.wordsF (x, c, p, u)) 69 = c := by
    refine list_ext h0 (by rw [rdC_len]; omega) fun k hk => ?_
    rw [rdC_len] at hk
    have hk : k < 67 := by omega
    rw [getD_at _ (by rw [rdC_len]; omega)]
    simp only [Sp.rdC, List.getElem_map, List.getElem_range]
    have hm := w1 (c.getD k h0) (by rw [getD_at _ (by omega)]; exact List.getElem_mem _)
    exact hash_back _ k _ hm.1 hm.2 fun i hi => (wordsF_at (x, c, p, u) h3 h4 k i hi).1 hk
  have e2 : Sp.rdP (Sp.wordsF (x, c, p, u)) 69 = p := by
    refine list_ext h0 (by rw [rdP_len]; omega) fun k hk => ?_
    rw [rdP_len] at hk
    have hk : k < 2 := by omega
    rw [getD_at _ (by rw [rdP_len]; omega)]
    simp only [Sp.rdP, List.getElem_map, List.getElem_range]
    have hm := w2 (p.getD k h0) (by rw [getD_at _ (by omega)]; exact List.getElem_mem _)
    exact hash_back _ (67 + k) _ hm.1 hm.2 fun i hi => (wordsF_at (x, c, p, u) h3 h4 k i hi).2 hk
  rw [e1, e2]
theorem eqw_ok (x y : List Int) (h : x.length < 4611686018427387904) : F_28 x y = some (decide (x = y), ()) := by
  unfold F_28
  by_cases hl : x.length = y.length
  · rw [cond_nff (by omega), eq0 (fun m i => Sp.L_28_0 m x y x.length i) x y 0 (e0 := some .e0) (e1 := some .e1) hl h (fun m j h1 h2 => by
      show Sp.L_28_0 (m + 1) x y x.length j = _
      rw [Sp.L_28_0, cond_dtt (by omega), gd_inB (by omega) (by omega), gd_inB (by omega) (by omega), Int.toNat_natCast, wi64 (by omega) (by omega)]
      by_cases e : x.getD j 0 = y.getD j 0
      · rw [cond_nff e, decide_eq_true e]; rfl
      · rw [cond_ntt e, decide_eq_false e]; rfl) (fun m => by
      show Sp.L_28_0 (m + 1) x y x.length x.length = _
      rw [Sp.L_28_0, cond_dff (by omega)])]
    by_cases e : x = y
    · rw [decide_eq_true e]; rfl
    · rw [decide_eq_false e]; rfl
  · rw [cond_ntt (by omega), decide_eq_false (fun e => hl (by rw [e]))]
theorem rd_shp (w : List Int) (hw : ∀ x ∈ w, 0 ≤ x ∧ x < 4294967296) (hk : Sp.okw w = true) : Sp.shp (Sp.rd w) = true := by
  simp only [Sp.okw, Bool.and_eq_true, decide_eq_true_eq] at hk
  have hx := hw (w.getD 0 0) (by rw [getD_at _ (by omega)]; exact List.getElem_mem _)
  have l1 := rdC_len w 69
  have l2 := rdP_len w 69
  unfold Sp.shp Sp.rd
  dsimp only
  rw [l1, l2, wi64 (by omega) (by omega), decide_eq_true hx.1, decide_eq_true hk.2]
  rfl
theorem rd_32 (w : List Int) : (∀ h ∈ (Sp.rd w).2.1, h.length = 32) ∧ ∀ h ∈ (Sp.rd w).2.2.1, h.length = 32 := by
  refine ⟨fun h hh => ?_, fun h hh => ?_⟩
  · simp only [Sp.rd, Sp.rdC, List.mem_map] at hh
    obtain ⟨k, _, rfl⟩ := hh; simp [Sp.rdh]
  · simp only [Sp.rd, Sp.rdP, List.mem_map] at hh
    obtain ⟨k, _, rfl⟩ := hh; simp [Sp.rdh]
theorem words_second (w : List Int) (hw : ∀ x ∈ w, 0 ≤ x ∧ x < 4294967296) (hn : w.length ≤ 1000) : Sp.B_8_0 (Sp.J_8_0 w) (fun y => some (Sp.v_21 (Sp.v_27 y).1 ((0 : Int), [], [], PUnit.unit)).1) (some false) (fun y => some (Sp.v_28 (Sp.v_25 (Sp.v_27 y).1).1 y).1) = some true := by
  have r1 := pv_27 _ (read_ok w)
  have r2 := pv_30 _ (rread_ok w)
  unfold Sp.J_8_0
  rw [r1.1, r1.2, r2.1, r2.2, gd_tt, gd_tt]
  cases hk : Sp.okw w
  · have sm := pv_21 _ _ (same_self (0, [], [], ()) (by decide) (by decide))
    simp only [Bool.false_eq_true, if_false, Bool.not_false, cond_t]
    rw [cond_ett rfl, sm.1, gd_tt]
    simp only [Sp.B_8_0, r1.2, hk, Bool.false_eq_true, if_false, sm.2]
  · have hs := rd_shp w hw hk
    have w1 := pv_25 _ (words_ok (Sp.rd w) (rd_32 w).1 (rd_32 w).2)
    rw [if_pos hs, words_rd w hw hk] at w1
    have sm := pv_21 _ _ (same_self (Sp.rd w) (by show (Sp.rdC w 69).length < _; rw [rdC_len]; omega) (by show (Sp.rdP w 69).length < _; rw [rdP_len]; omega))
    have eq := pv_28 _ _ (eqw_ok w w (by omega))
    rw [decide_eq_true rfl] at eq
    simp only [if_true, Bool.not_true, cond_f]
    rw [w1.1, w1.2, gd_tt, cond_ett rfl, sm.1, sm.2, gd_tt]
    simp only [cond_t]
    rw [cond_ett rfl, eq.1, gd_tt]
    simp only [Sp.B_8_0, r1.2, hk, if_true, w1.2, eq.2]
theorem plain_8 (s : Int × List (List Int) × List (List Int) × Unit) (w : List Int) (ws : wfD (.pair (.int .i64) (.pair (.slice (.arr 32 (.int .u8))) (.pair (.slice (.arr 32 (.int .u8))) .unit))) s) (ww : wfD (.slice (.int .u32)) w) : F_8 s w = some true := by
  have hw : ∀ x ∈ w, 0 ≤ x ∧ x < 4294967296 := fun x hx => u32_b (ww x hx)
  have c1 : ∀ h ∈ s.2.1, h.length = 32 ∧ bytes h := fun h hh => wf_bytes (ws.2.1 h hh)
  have c2 : ∀ h ∈ s.2.2.1, h.length = 32 ∧ bytes h := fun h hh => wf_bytes (ws.2.2.1 h hh)
  have w1 := pv_25 _ (words_ok s (fun h hh => (c1 h hh).1) (fun h hh => (c2 h hh).1))
  have sh := pv_26 _ (rshp_ok s)
  unfold F_8
  rw [aw_pv.1, aw_pv.2, gd_tt]
  simp only [Bool.not_true, cond_f]
  by_cases h1 : (s.2.1.length : Int) > 100
  · rw [cond_dtt h1]
  rw [cond_dff h1]
  by_cases h2 : (s.2.2.1.length : Int) > 100
  · rw [cond_dtt h2]
  rw [cond_dff h2]
  by_cases h3 : (w.length : Int) > 1000
  · rw [cond_dtt h3]
  rw [cond_dff h3, w1.1, w1.2, gd_tt, sh.1, sh.2, gd_tt]
  cases hs : Sp.shp s
  · simp only [Bool.not_false, cond_t, Bool.false_eq_true, if_false]
    rw [cond_nff rfl, cond_nff (show ((([] : List Int).length : Nat) : Int) = 0 from rfl)]
    exact words_second w hw (by omega)
  · obtain ⟨_, _, h5, h6⟩ := shp_spec hs
    obtain ⟨b1, b2⟩ := rd_words s hs c1 c2
    have r1 := pv_27 _ (read_ok (Sp.wordsF s))
    rw [if_pos b2, b1] at r1
    have rw1 := pv_29 _ (rwords_ok s h5 h6)
    have l1 := cws_len s.2.1
    have l2 := cws_len s.2.2.1
    have hl : (Sp.wordsF s).length = 553 := by
      unfold Sp.wordsF
      rw [List.length_append, List.length_append, List.length_singleton]; omega
    have eq := pv_28 _ _ (eqw_ok (Sp.wordsF s) (Sp.wordsF s) (by omega))
    rw [decide_eq_true rfl] at eq
    have sm := pv_21 _ _ (same_self s (by omega) (by omega))
    simp only [Bool.not_true, cond_f, if_true]
    rw [r1.1, r1.2, gd_tt, cond_nff rfl, rw1.1, rw1.2, gd_tt, eq.1, eq.2, gd_tt]
    simp only [Bool.not_true, cond_f]
    rw [cond_nff rfl, sm.1, sm.2, gd_tt]
    simp only [Bool.not_true, cond_f]
    exact words_second w hw (by omega)
end Go.Ev
