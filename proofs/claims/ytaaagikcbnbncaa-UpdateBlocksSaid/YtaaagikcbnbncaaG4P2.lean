/- Helpers: functions of the program as Lean functions, and what they compute. No condition. -/
import Derived.Test.YtaaagikcbnbncaaE4P3
import Derived.Test.YtaaagikcbnbncaaG4P0
set_option maxRecDepth 10000
set_option linter.unusedVariables false
set_option linter.unusedSimpArgs false
open Go.IntKind (wrap i64 i32 i16 i8 u64 u32 u16 u8)
open List (getD length take drop replicate)
open Int (toNat)
open Go.Ev.Sp
set_option linter.unusedSimpArgs false
set_option linter.unusedVariables false
namespace Go.Ev
open Go
set_option maxRecDepth 100000
set_option maxHeartbeats 4000000
abbrev SigT := Int × List (List Int) × List (List Int) × PUnit
abbrev h0 : List Int := Ty.dflt (.arr 32 (.int .u8))
namespace Sp
noncomputable def shp (s : SigT) : Bool := decide (0 ≤ s.1) && (decide (s.1 < 4) && ((s.2.1.length : Int) == 67 && (s.2.2.1.length : Int) == 2))
end Sp
theorem shp_ok (s : SigT) : F_85 s = some (Sp.shp s, ()) := by
 unfold F_85 Sp.shp
 by_cases h1 : s.1 ≥ 0
 · by_cases h2 : s.1 < 4
   · rw [cond_dtt h1, cond_dtt h2, decide_eq_true (show 0 ≤ s.1 from h1), decide_eq_true h2]
     cases ((s.2.1.length : Int) == 67) <;> rfl
   · rw [cond_dtt h1, cond_dff h2, decide_eq_false h2]; simp
 · rw [cond_dff h1, decide_eq_false (show ¬ 0 ≤ s.1 from h1)]; rfl
theorem rshp_ok (s : SigT) : F_56 s = some (Sp.shp s, ()) := by
 unfold F_56 Sp.shp
 by_cases h1 : s.1 ≥ 0
 · by_cases h2 : s.1 < 4
   · rw [cond_dtt h1, cond_dtt (show s.1 ≤ 3 by omega), decide_eq_true (show 0 ≤ s.1 from h1), decide_eq_true h2]
     cases ((s.2.1.length : Int) == 67) <;> rfl
   · rw [cond_dtt h1, cond_dff (show ¬ s.1 ≤ 3 by omega), decide_eq_false h2]; simp
 · rw [cond_dff h1, decide_eq_false (show ¬ 0 ≤ s.1 from h1)]; rfl
namespace Sp
noncomputable def wd (a b c d : Int) : Int := orI .u32 (orI .u32 (orI .u32 (wrap .u32 (wrap .u32 a * 16777216)) (wrap .u32 (wrap .u32 b * 65536))) (wrap .u32 (wrap .u32 c * 256))) (wrap .u32 d)
noncomputable def hwd (h : List Int) (i : Nat) : Int := wd (h.getD (4 * i) 0) (h.getD (4 * i + 1) 0) (h.getD (4 * i + 2) 0) (h.getD (4 * i + 3) 0)
noncomputable def hws (h : List Int) (n : Nat) : List Int := (List.range n).map (hwd h)
noncomputable def cws (l : List (List Int)) : List Int := l.flatMap fun h => hws h 8
noncomputable def wordsF (s : SigT) : List Int := [wrap .u32 s.1] ++ cws s.2.1 ++ cws s.2.2.1
end Sp
theorem hws_len (h : List Int) (n : Nat) : (Sp.hws h n).length = n := by simp [Sp.hws]
theorem hws_succ (h : List Int) (n : Nat) : Sp.hws h (n + 1) = Sp.hws h n ++ [Sp.hwd h n] := by simp [Sp.hws, List.range_succ]
theorem cws_len : ∀ l : List (List Int), (Sp.cws l).length = 8 * l.length
 | [] => rfl
 | h :: l => by
   have := cws_len l
   simp only [Sp.cws, List.flatMap_cons, List.length_append, List.length_cons, hws_len] at this ⊢
   omega
theorem cws_succ (l : List (List Int)) (j : Nat) (hj : j < l.length) : Sp.cws (l.take (j + 1)) = Sp.cws (l.take j) ++ Sp.hws (l.getD j h0) 8 := by
 rw [List.take_succ_eq_append_getElem hj, getD_at _ hj]
 simp only [Sp.cws, List.flatMap_append, List.flatMap_cons, List.flatMap_nil, List.append_nil]
theorem seg_get (h : List Int) (hl : h.length = 32) (i k : Nat) (hi : i < 8) (hk : k < 4) : (take (32 - 4 * i) (drop (4 * i) h)).getD k 0 = h.getD (4 * i + k) 0 := by
 rw [List.getD_eq_getElem?_getD, List.getD_eq_getElem?_getD, List.getElem?_take, if_pos (by omega), List.getElem?_drop]
theorem sword_ok (h : List Int) (hl : h.length = 32) (i : Nat) (hi : i < 8) : F_100 (take (32 - 4 * i) (drop (4 * i) h)) = some (Sp.hwd h i, ()) := by
 have hlen : (take (32 - 4 * i) (drop (4 * i) h)).length = 32 - 4 * i := by simp; omega
 unfold F_100
 rw [hlen, gd_inB (by omega) (by omega), gd_inB (by omega) (by omega), gd_inB (by omega) (by omega), gd_inB (by omega) (by omega), seg_get h hl i 0 hi (by omega), seg_get h hl i 1 hi (by omega), seg_get h hl i 2 hi (by omega), seg_get h hl i 3 hi (by omega)]
 rfl
theorem hloop (h : List Int) (hl : h.length = 32) (p1 p2 : Int) (p3 : List (List Int)) (p4 p5 : Int) (p6 : List Int) (h6 : p6.length ≤ 1000000) (p8 : List (List (List Int))) : L_74_2 4611686018427387904 0 p1 p2 p3 p4 p5 p6 h p8 = some (.e0 p1 p2 p3 p4 p5 (p6 ++ Sp.hws h 8) p8) := by
 have := run0 (fun m i s => L_74_2 m (4 * i) p1 p2 p3 p4 p5 s h p8) (n := 8) (fun j => p6 ++ Sp.hws h j) (r := some (.e0 p1 p2 p3 p4 p5 (p6 ++ Sp.hws h 8) p8)) (by decide) (fun m j hj => by
   have hp := pv_100 _ (sword_ok h hl j hj)
   have e : toNat (4 * (j : Int)) = 4 * j := by omega
   show L_74_2 (m + 1) (4 * (j : Int)) p1 p2 p3 p4 p5 (p6 ++ Sp.hws h j) h p8 = _
   rw [L_74_2, S_74_2, cond_dtt (by omega), gd_sl3 (by omega) (by omega) (by omega), e, hp.1, hp.2, Bool.and_true, Bool.and_true, gd_dec (by omega), gd_room (by rw [List.length_append, hws_len]; omega) (by rw [List.length_append, hws_len]; omega), wi64 (by omega) (by omega), hws_succ, List.append_assoc, show 4 * (j : Int) + 4 = 4 * ((j + 1 : Nat) : Int) by omega]) (fun m => by
   show L_74_2 (m + 1) 32 p1 p2 p3 p4 p5 (p6 ++ Sp.hws h 8) h p8 = _
   rw [L_74_2, S_74_2, cond_dff (by decide)])
 simpa [Sp.hws] using this
theorem cloop (p0 p1 : Int) (l : List (List Int)) (hl : ∀ h ∈ l, h.length = 32) (hn : l.length ≤ 1000) (p5 : List Int) (h5 : p5.length ≤ 100000) (p6 : List (List (List Int))) : L_74_1 4611686018427387904 p0 p1 l l.length 0 p5 p6 = some (.e0 p0 p1 (p5 ++ Sp.cws l) p6) := by
 have := run0 (fun m i s => L_74_1 m p0 p1 l l.length i s p6) (n := l.length) (fun j => p5 ++ Sp.cws (l.take j)) (r := some (.e0 p0 p1 (p5 ++ Sp.cws l) p6)) (by omega) (fun m j hj => by
   have hg : (l.getD j h0).length = 32 := by rw [getD_at _ hj]; exact hl _ (List.getElem_mem hj)
   have hc : (Sp.cws (l.take j)).length ≤ 8000 := by rw [cws_len, List.length_take]; omega
   show L_74_1 (m + 1) p0 p1 l l.length j (p5 ++ Sp.cws (l.take j)) p6 = _
   rw [L_74_1, S_74_1, cond_dtt (by omega), gd_inB (by omega) (by omega), Int.toNat_natCast, hloop _ hg _ _ _ _ _ _ (by rw [List.length_append]; omega)]
   simp only [B_74_2]
   rw [wi64 (by omega) (by omega), cws_succ l j hj, List.append_assoc]
   rfl) (fun m => by
   show L_74_1 (m + 1) p0 p1 l l.length l.length (p5 ++ Sp.cws (l.take l.length)) p6 = _
   rw [L_74_1, S_74_1, cond_dff (by omega), List.take_length])
 simpa [Sp.cws] using this
theorem words_ok (s : SigT) (h1 : ∀ h ∈ s.2.1, h.length = 32) (h2 : ∀ h ∈ s.2.2.1, h.length = 32) : F_74 s = some (if Sp.shp s = true then (Sp.wordsF s, 0, ()) else ([], 1, ())) := by
 have a := pv_85 _ (shp_ok s)
 unfold F_74
 rw [a.1, a.2, gd_tt]
 cases hs : Sp.shp s
 · rfl
 · obtain ⟨_, _, h3, h4⟩ : 0 ≤ s.1 ∧ s.1 < 4 ∧ s.2.1.length = 67 ∧ s.2.2.1.length = 2 := by
     simp only [Sp.shp, Bool.and_eq_true, decide_eq_true_eq, beq_iff_eq] at hs
     omega
   have l1 := cws_len s.2.1
   simp only [Bool.not_true, cond_f, if_true]
   have e0 : L_74_0 4611686018427387904 ((2 : Nat) : Int) 0 [wrap .u32 s.1] [s.2.1, s.2.2.1] = some (.e0 (Sp.wordsF s)) := by
     show L_74_0 (4611686018427387901 + 1 + 1 + 1) ((2 : Nat) : Int) 0 [wrap .u32 s.1] [s.2.1, s.2.2.1] = _
     rw [L_74_0, S_74_0, cond_dtt (by decide), gd_inB (by simp) (by simp)]
     simp only [Int.toNat_zero, List.getD_cons_zero, List.length_cons, List.length_nil, Nat.zero_add]
     rw [Bool.and_true, gd_dec (by decide), cloop _ _ _ h1 (by omega) _ (by simp)]
     simp only [B_74_1]
     rw [show wrap .i64 (0 + 1) = 1 from by decide, L_74_0, S_74_0, cond_dtt (by decide), gd_inB (by simp) (by simp)]
     simp only [show toNat 1 = 1 from rfl, List.getD_cons_succ, List.getD_cons_zero, List.length_cons, List.length_nil]
     rw [Bool.and_true, gd_dec (by decide), cloop _ _ _ h2 (by omega) _ (by rw [List.length_append, l1, List.length_singleton]; omega)]
     simp only [B_74_1]
     rw [show wrap .i64 (1 + 1) = 2 from by decide, L_74_0, S_74_0, cond_dff (by decide)]
     rfl
   rw [e0]
   rfl
set_option maxRecDepth 100000
set_option maxHeartbeats 4000000
abbrev HdrT := Int × Int × List Int × SigT × Unit
abbrev DlT := Int × Int × Int × HdrT × Unit
/-- The hashes of a header have 32 bytes. -/
structure H32 (h : HdrT) : Prop where
 d : h.2.2.1.length = 32
 c : ∀ x ∈ h.2.2.2.1.2.1, x.length = 32
 p : ∀ x ∈ h.2.2.2.1.2.2.1, x.length = 32
namespace Sp
noncomputable def z32 : List Int := replicate 32 0
noncomputable def zsg (s : SigT) : Bool := s.1 == 0 && (s.2.1.length == 0 && s.2.2.1.length == 0)
noncomputable def zhd (h : HdrT) : Bool := h.1 == 0 && (h.2.1 == 0 && (h.2.2.1 == z32 && zsg h.2.2.2.1))
noncomputable def zdl (d : DlT) : Bool := d.1 == 0 && (d.2.1 == 0 && (d.2.2.1 == 0 && zhd d.2.2.2.1))
noncomputable def rgt (h : HdrT) (n : Int) : Bool := decide (1 ≤ h.1) && (decide (h.1 ≤ 2147483647) && (decide (1 ≤ h.2.1) && (decide (h.2.1 ≤ n) && shp h.2.2.2.1)))
noncomputable def vst (d : DlT) : Bool := bif d.1 == 1 then decide (0 ≤ d.2.2.1) && (decide (d.2.2.1 < d.2.2.2.1.2.1) && Int.tmod d.2.2.1 32 == 0) else bif d.1 == 2 then d.2.2.1 == d.2.2.2.1.2.1 else false
noncomputable def vdl (d : DlT) : Bool := zdl d || ((d.2.1 == 0 || d.2.1 == 1) && (rgt d.2.2.2.1 1484 && vst d))
end Sp
theorem zero_ok (d : DlT) : F_37 d = some (Sp.zdl d, ()) := by
 unfold F_37 Sp.zdl Sp.zhd Sp.zsg
 have e : ∀ (l : List (List Int)), ((l.length : Int) == 0) = (l.length == 0) := fun l => by
   rw [Bool.eq_iff_iff, beq_iff_eq, beq_iff_eq]; omega
 rw [e, e]
 show _ = some (_, ())
 have hb : Ty.beq (.arr 32 (.int .u8)) d.2.2.2.1.2.2.1 (replicate 32 0) = (d.2.2.2.1.2.2.1 == Sp.z32) := rfl
 rw [hb]
 cases d.1 == 0 <;> cases d.2.1 == 0 <;> cases d.2.2.1 == 0 <;> cases d.2.2.2.1.1 == 0 <;> cases d.2.2.2.1.2.1 == 0 <;> cases d.2.2.2.1.2.2.1 == Sp.z32 <;> cases d.2.2.2.1.2.2.2.1.1 == 0 <;> cases d.2.2.2.1.2.2.2.1.2.1.length == 0 <;> rfl
theorem right_ok {h : HdrT} (hh : H32 h) (n : Int) : F_38 h n = some (Sp.rgt h n, ()) := by
 have w := pv_74 _ (words_ok h.2.2.2.1 hh.c hh.p)
 unfold F_38 Sp.rgt
 rw [w.1, w.2, gd_tt]
 have e : ((if Sp.shp h.2.2.2.1 = true then (Sp.wordsF h.2.2.2.1, 0, ()) else (([] : List Int), (1 : Int), ())).2.1 == 0) = Sp.shp h.2.2.2.1 := by
   cases Sp.shp h.2.2.2.1 <;> rfl
 rw [e]
 show (bif decide (1 ≤ h.1) then bif decide (h.1 ≤ 2147483647) then bif decide (1 ≤ h.2.1) then bif decide (h.2.1 ≤ n) then some (Sp.shp h.2.2.2.1, ()) else some (false, ()) else some (false, ()) else some (false, ()) else some (false, ())) = _
 cases decide (1 ≤ h.1) <;> cases decide (h.1 ≤ 2147483647) <;> cases decide (1 ≤ h.2.1) <;> cases decide (h.2.1 ≤ n) <;> rfl
theorem header_ok (h : HdrT) (n : Int) : F_39 h n = some (Sp.rgt h n, ()) := by
 have w := pv_56 _ (rshp_ok h.2.2.2.1)
 unfold F_39 Sp.rgt
 rw [w.1, w.2, gd_tt, show decide (h.1 < 2147483648) = decide (h.1 ≤ 2147483647) from decide_eq_decide.2 (by omega)]
 show (bif decide (1 ≤ h.1) then bif decide (h.1 ≤ 2147483647) then bif decide (1 ≤ h.2.1) then bif decide (h.2.1 ≤ n) then some (Sp.shp h.2.2.2.1, ()) else some (false, ()) else some (false, ()) else some (false, ()) else some (false, ())) = _
 cases decide (1 ≤ h.1) <;> cases decide (h.1 ≤ 2147483647) <;> cases decide (1 ≤ h.2.1) <;> cases decide (h.2.1 ≤ n) <;> rfl
/-- Equality with a signature without hashes. -/
theorem ssame0 (s : SigT) : F_73 s (0, [], [], ()) = some (Sp.zsg s, ()) := by
 unfold F_73 Sp.zsg
 show (bif s.1 != 0 then some (false, ()) else bif (s.2.1.length : Int) != 0 then some (false, ()) else bif (s.2.2.1.length : Int) != 0 then some (false, ()) else _) = _
 by_cases h1 : s.1 = 0
 rotate_left
 · rw [cond_ntt h1, beq_eq_false_iff_ne.2 h1]; rfl
 rw [cond_nff h1, beq_iff_eq.2 h1, Bool.true_and]
 by_cases h2 : s.2.1.length = 0
 rotate_left
 · rw [cond_ntt (by omega), beq_eq_false_iff_ne.2 h2]; rfl
 rw [cond_nff (by omega), beq_iff_eq.2 h2, Bool.true_and]
 by_cases h3 : s.2.2.1.length = 0
 rotate_left
 · rw [cond_ntt (by omega), beq_eq_false_iff_ne.2 h3]
 rw [cond_nff (by omega), beq_iff_eq.2 h3]
 have l0 : L_73_0 4611686018427387904 0 s (0, [], [], ()) = some (.e1 s (0, [], [], ())) := by
   show L_73_0 (4611686018427387903 + 1) 0 s (0, [], [], ()) = _
   rw [L_73_0, S_73_0, cond_dff (by omega)]
 have l1 : L_73_1 4611686018427387904 0 s (0, [], [], ()) = some .e1 := by
   show L_73_1 (4611686018427387903 + 1) 0 s (0, [], [], ()) = _
   rw [L_73_1, S_73_1, cond_dff (by omega)]
 rw [l0]
 simp only [B_73_0]
 rw [l1]
 rfl
theorem hsame0 (h : HdrT) : F_36 h (0, 0, replicate 32 0, (0, [], [], ()), ()) = some (Sp.zhd h, ()) := by
 have s := pv_73 _ _ (ssame0 h.2.2.2.1)
 unfold F_36 Sp.zhd
 show (bif h.1 == 0 then bif h.2.1 == 0 then bif h.2.2.1 == Sp.z32 then gd (p_73 h.2.2.2.1 (0, [], [], ())) (some ((v_73 h.2.2.2.1 (0, [], [], ())).1, ())) else some (false, ()) else some (false, ()) else some (false, ())) = _
 rw [s.1, s.2, gd_tt]
 cases h.1 == 0 <;> cases h.2.1 == 0 <;> cases h.2.2.1 == Sp.z32 <;> rfl
theorem rzero_ok (d : DlT) : F_10 d = some (Sp.zdl d, ()) := by
 have s := pv_36 _ _ (hsame0 d.2.2.2.1)
 unfold F_10 Sp.zdl
 rw [s.1, s.2, gd_tt]
 cases d.1 == 0 <;> cases d.2.1 == 0 <;> cases d.2.2.1 == 0 <;> rfl
theorem valid_ok {d : DlT} (hh : H32 d.2.2.2.1) : F_13 d = some (Sp.vdl d, ()) := by
 have z := pv_37 _ (zero_ok d)
 have r := pv_38 _ _ (right_ok hh 1484)
 unfold F_13 Sp.vdl Sp.vst
 rw [z.1, z.2, gd_tt, r.1, r.2, gd_tt]
 dsimp only
 cases Sp.zdl d
 rotate_left
 · rfl
 unfold J_13_0 S_13_0
 have e0 : (d.2.1 != 0) = !(d.2.1 == 0) := rfl
 have e1 : (d.2.1 != 1) = !(d.2.1 == 1) := rfl
 rw [e0, e1]
 show (bif !(d.2.1 == 0) then _ else _) = _
 generalize Sp.rgt d.2.2.2.1 1484 = g
 have e2 : decide (d.2.2.1 ≥ 0) = decide (0 ≤ d.2.2.1) := rfl
 rw [e2]
 by_cases s1 : d.1 = 1
 · rw [s1]
   cases d.2.1 == 0 <;> cases d.2.1 == 1 <;> cases g <;> cases decide (0 ≤ d.2.2.1) <;> cases decide (d.2.2.1 < d.2.2.2.1.2.1) <;> rfl
 · rw [beq_eq_false_iff_ne.2 s1]
   by_cases s2 : d.1 = 2
   · rw [beq_iff_eq.2 s2]
     cases d.2.1 == 0 <;> cases d.2.1 == 1 <;> cases g <;> rfl
   · rw [beq_eq_false_iff_ne.2 s2]
     cases d.2.1 == 0 <;> cases d.2.1 == 1 <;> cases g <;> rfl
theorem rvalid_ok (d : DlT) : F_14 d = some (Sp.vdl d, ()) := by
 have z := pv_10 _ (rzero_ok d)
 have r := pv_39 _ _ (header_ok d.2.2.2.1 1484)
 unfold F_14 Sp.vdl Sp.vst
 rw [z.1, z.2, r.1, r.2, gd_tt, gd_tt]
 dsimp only
 by_cases s0 : d.1 = 0
 · rw [beq_iff_eq.2 s0, cond_t, s0]
   cases Sp.zdl d <;> cases d.2.1 == 0 <;> cases d.2.1 == 1 <;> cases Sp.rgt d.2.2.2.1 1484 <;> rfl
 have hz : Sp.zdl d = false := by unfold Sp.zdl; rw [beq_eq_false_iff_ne.2 s0]; rfl
 rw [hz, beq_eq_false_iff_ne.2 s0, cond_f]
 unfold J_14_0 S_14_0
 have e0 : (d.2.1 != 0) = !(d.2.1 == 0) := rfl
 have e1 : (d.2.1 != 1) = !(d.2.1 == 1) := rfl
 rw [e0, e1]
 generalize Sp.rgt d.2.2.2.1 1484 = g
 have e2 : decide (d.2.2.1 ≥ 0) = decide (0 ≤ d.2.2.1) := rfl
 rw [e2]
 by_cases s1 : d.1 = 1
 · rw [s1]
   cases d.2.1 == 0 <;> cases d.2.1 == 1 <;> cases g <;> cases decide (0 ≤ d.2.2.1) <;> cases decide (d.2.2.1 < d.2.2.2.1.2.1) <;> rfl
 · rw [beq_eq_false_iff_ne.2 s1]
   by_cases s2 : d.1 = 2
   · rw [beq_iff_eq.2 s2]
     cases d.2.1 == 0 <;> cases d.2.1 == 1 <;> cases g <;> rfl
   · rw [beq_eq_false_iff_ne.2 s2]
     cases d.2.1 == 0 <;> cases d.2.1 == 1 <;> cases g <;> rfl
set_option maxRecDepth 100000
set_option maxHeartbeats 4000000
abbrev FlT := List Int × List Int × Int × Unit
abbrev PwT := Int × Int × Unit
abbrev OpT := Bool × Int × Int × Unit
abbrev RsT := FlT × PwT × Int × Unit
namespace Sp
noncomputable def wb (f : FlT) (j : Nat) : Bool := decide (f.2.1.getD j 0 < 0) || decide (f.2.1.getD j 0 > f.2.2.1)
noncomputable def fv (f : FlT) : Bool := decide (1 ≤ f.2.1.length) && (decide (f.2.1.length ≤ 64) && (decide (f.1.length = f.2.1.length * 64) && (decide (1 ≤ f.2.2.1) && (decide (f.2.2.1 ≤ 1000000) && (fnd (wb f) f.2.1.length 0).isNone))))
noncomputable def pw (f : FlT) (k : Nat) (w bits : Int) : FlT := (f.1.set k (andnI .u32 (f.1.getD k 0) (andnI .u32 bits w)), f.2.1, f.2.2.1, ())
noncomputable def prg (f : FlT) (k : Nat) (w : Int) (p : PwT) : RsT := if p.1 = 0 then (f, p, 18, ()) else if p.1 = 1 then (pw f k w p.2.1, (0, p.2), 18, ()) else (pw f k w 4294967295, (p.1 - 1, p.2), 0, ())
noncomputable def orW (ws : List Int) (o : Nat) (bits : Int) (n : Nat) : List Int := ws.mapIdx (fun i x => if o ≤ i ∧ i < o + n then orI .u32 x bits else x)
noncomputable def ew (f : FlT) (s : Nat) (bits : Int) : FlT := (orW f.1 (s * 64) bits 64, f.2.1.set s (f.2.1.getD s 0 + 1), f.2.2.1, ())
noncomputable def ers (f : FlT) (s : Nat) (p : PwT) : RsT := if f.2.1.getD s 0 = f.2.2.1 then (([], [], 0, ()), (0, 0, ()), 19, ()) else if p.1 = 0 then (f, p, 18, ()) else if p.1 = 1 then (ew f s p.2.1, (0, p.2), 18, ()) else (ew f s 4294967295, (p.1 - 1, p.2), 0, ())
end Sp
theorem fv_iff {f : FlT} : Sp.fv f = true ↔ 1 ≤ f.2.1.length ∧ f.2.1.length ≤ 64 ∧ f.1.length = f.2.1.length * 64 ∧ 1 ≤ f.2.2.1 ∧ f.2.2.1 ≤ 1000000 ∧ ∀ j, j < f.2.1.length → 0 ≤ f.2.1.getD j 0 ∧ f.2.1.getD j 0 ≤ f.2.2.1 := by
 simp only [Sp.fv, Bool.and_eq_true, decide_eq_true_eq, Option.isNone_iff_eq_none, fnd_none, Sp.wb, Bool.or_eq_false_iff, decide_eq_false_iff_not]
 constructor
 · rintro ⟨a, b, c, d, e, g⟩
   refine ⟨a, b, c, d, e, fun j hj => ?_⟩
   have := g j (by omega) (by omega)
   omega
 · rintro ⟨a, b, c, d, e, g⟩
   refine ⟨a, b, c, d, e, fun j _ hj => ?_⟩
   have := g j (by omega)
   omega
theorem fv_ok (f : FlT) : F_69 f = some (Sp.fv f, ()) := by
 unfold F_69 Sp.fv
 by_cases h1 : (f.2.1.length : Int) < 1
 · rw [cond_dtt h1, decide_eq_false (by omega)]; rfl
 rw [cond_dff h1, decide_eq_true (p := 1 ≤ f.2.1.length) (by omega), Bool.true_and]
 by_cases h2 : (f.2.1.length : Int) > 64
 · rw [cond_dtt h2, decide_eq_false (by omega)]; rfl
 rw [cond_dff h2, decide_eq_true (p := f.2.1.length ≤ 64) (by omega), Bool.true_and, wi64 (by omega) (by omega)]
 by_cases h3 : (f.1.length : Int) = (f.2.1.length : Int) * 64
 rotate_left
 · rw [cond_ntt h3, decide_eq_false (p := f.1.length = _) (by omega)]; rfl
 rw [cond_nff h3, decide_eq_true (p := f.1.length = _) (by omega), Bool.true_and]
 by_cases h4 : f.2.2.1 < 1
 · rw [cond_dtt h4, decide_eq_false (by omega)]; rfl
 rw [cond_dff h4, decide_eq_true (p := 1 ≤ f.2.2.1) (by omega), Bool.true_and]
 by_cases h5 : f.2.2.1 > 1000000
 · rw [cond_dtt h5, decide_eq_false (by omega)]; rfl
 rw [cond_dff h5, decide_eq_true (p := f.2.2.1 ≤ 1000000) (by omega), Bool.true_and]
 have hf := find0 (fun m i => L_69_114_0_0 m f.2.1 f.2.1.length i f) (n := f.2.1.length) (Sp.wb f) (ex := fun j => some (.e0 (j : Int) f)) (e1 := some (.e1 f)) (by omega) (fun m j hj => by
   show L_69_114_0_0 (m + 1) f.2.1 f.2.1.length j f = bif Sp.wb f j then some (.e0 (j : Int) f) else L_69_114_0_0 m f.2.1 f.2.1.length ((j + 1 : Nat) : Int) f
   rw [L_69_114_0_0, S_69_114_0_0, cond_dtt (by omega), gd_inB (by omega) (by omega), Int.toNat_natCast, wi64 (by omega) (by omega)]
   unfold Sp.wb
   push_cast
   grind) (fun m => by
   show L_69_114_0_0 (m + 1) f.2.1 f.2.1.length f.2.1.length f = _
   rw [L_69_114_0_0, S_69_114_0_0, cond_dff (by omega)])
 rw [hf]
 cases fnd (Sp.wb f) f.2.1.length 0 with
 | none => rfl
 | some k =>
   simp only [B_69_114_0_0, Option.isNone]
   rw [decide_eq_true (by omega)]
   rfl
theorem fv_pv (f : FlT) : p_69 f = true ∧ v_69 f = (Sp.fv f, ()) := pv_69 f (fv_ok f)
theorem chk_pv {f : FlT} {p : PwT} {a n : Int} (h : Sp.fv f = true) (h0 : 0 ≤ p.1) (h1 : p.1 ≤ 1099511627776) (h2 : 0 ≤ a) (h3 : a < n) : p_101 f p a n = true ∧ v_101 f p a n = (0, ()) := by
 refine pv_101 f p a n ?_
 unfold F_101
 rw [(fv_pv f).1, (fv_pv f).2, gd_tt, h, Bool.not_true, cond_f, cond_dff (by omega), cond_dff (by omega), cond_dff (by omega), cond_dff (by omega)]
theorem prg_ok {f : FlT} {p : PwT} {k : Nat} {w : Int} (h : Sp.fv f = true) (h0 : 0 ≤ p.1) (h1 : p.1 ≤ 1099511627776) (h2 : k < f.1.length) : F_76 f k w p = some (Sp.prg f k w p) := by
 have hv := fv_iff.1 h
 unfold F_76 Sp.prg Sp.pw
 rw [(chk_pv h h0 h1 (by omega) (by omega)).1, (chk_pv h h0 h1 (by omega) (by omega)).2, gd_tt, cond_nff rfl, gd_room (by omega) (by omega), gd_room (by omega) (by omega)]
 simp only [gd_inB (show (0 : Int) ≤ (k : Int) by omega) (show (k : Int) < ((f.1.length : Nat) : Int) by omega), Int.toNat_natCast, Bool.and_true, gd_dec h2]
 by_cases e0 : p.1 = 0
 · rw [cond_ett e0, if_pos e0]
 rw [cond_eff e0, if_neg e0]
 by_cases e1 : p.1 = 1
 · rw [cond_ett e1, if_pos e1]
 rw [cond_eff e1, if_neg e1, wi64 (by omega) (by omega)]
theorem prg_pv {f : FlT} {p : PwT} {k : Nat} {w : Int} (h : Sp.fv f = true) (h0 : 0 ≤ p.1) (h1 : p.1 ≤ 1099511627776) (h2 : k < f.1.length) : p_76 f k w p = true ∧ v_76 f k w p = Sp.prg f k w p := pv_76 f k w p (prg_ok h h0 h1 h2)
theorem getD_set {α : Type} (l : List α) (i j : Nat) (x d : α) (h : i < l.length) : (l.set i x).getD j d = if i = j then x else l.getD j d := by
 simp only [List.getD_eq_getElem?_getD, List.getElem?_set]
 split
 · simp [h]
 · rfl
set_option maxRecDepth 100000
set_option maxHeartbeats 4000000
theorem rlife_pv (n : Int) : p_104 n = true ∧ v_104 n = (decide (1 ≤ n) && decide (n ≤ 1000000), ()) := by
 refine pv_104 n ?_
 unfold F_104
 by_cases h : n ≥ 1
 · rw [cond_dtt h, decide_eq_true (p := 1 ≤ n) h, Bool.true_and]
 · rw [cond_dff h, decide_eq_false (p := 1 ≤ n) h, Bool.false_and]
theorem rfv_ok (f : FlT) : F_77 f = some (Sp.fv f, ()) := by
 unfold F_77 Sp.fv
 by_cases h1 : (f.2.1.length : Int) < 1
 · rw [cond_dtt h1, decide_eq_false (by omega)]; rfl
 rw [cond_dff h1, decide_eq_true (p := 1 ≤ f.2.1.length) (by omega), Bool.true_and]
 by_cases h2 : (f.2.1.length : Int) > 64
 · rw [cond_dtt h2, decide_eq_false (by omega)]; rfl
 rw [cond_dff h2, decide_eq_true (p := f.2.1.length ≤ 64) (by omega), Bool.true_and, wi64 (by omega) (by omega)]
 by_cases h3 : (f.1.length : Int) = (f.2.1.length : Int) * 64
 rotate_left
 · rw [cond_ntt h3, decide_eq_false (p := f.1.length = _) (by omega)]; rfl
 rw [cond_nff h3, decide_eq_true (p := f.1.length = _) (by omega), Bool.true_and, (rlife_pv f.2.2.1).1, (rlife_pv f.2.2.1).2, gd_tt]
 by_cases h4 : f.2.2.1 < 1
 · rw [decide_eq_false (p := 1 ≤ f.2.2.1) (by omega)]; rfl
 rw [decide_eq_true (p := 1 ≤ f.2.2.1) (by omega), Bool.true_and, Bool.true_and]
 by_cases h5 : f.2.2.1 > 1000000
 · rw [decide_eq_false (p := f.2.2.1 ≤ 1000000) (by omega)]; rfl
 rw [decide_eq_true (p := f.2.2.1 ≤ 1000000) (by omega), Bool.true_and, show (!(true, ()).1) = false from rfl, cond_f]
 have hf := find0 (fun m i => L_77_0 m f.2.1.length i f) (n := f.2.1.length) (Sp.wb f) (ex := fun j => some .e0) (e1 := some .e1) (by omega) (fun m j hj => by
   show L_77_0 (m + 1) f.2.1.length j f = bif Sp.wb f j then some .e0 else L_77_0 m f.2.1.length ((j + 1 : Nat) : Int) f
   rw [L_77_0, S_77_0, cond_dtt (by omega), gd_inB (by omega) (by omega), gd_inB (by omega) (by omega), Int.toNat_natCast, wi64 (by omega) (by omega)]
   unfold Sp.wb
   push_cast
   cases decide (f.2.1.getD j 0 < 0) <;> cases decide (f.2.1.getD j 0 > f.2.2.1) <;> rfl) (fun m => by
   show L_77_0 (m + 1) f.2.1.length f.2.1.length f = _
   rw [L_77_0, S_77_0, cond_dff (by omega)])
 have e1 : L_77_0 4611686018427387904 f.2.1.length 0 f = _ := hf
 rw [e1]
 cases fnd (Sp.wb f) f.2.1.length 0 <;> rfl
theorem bv_back (b : BitVec 32) : BitVec.ofInt 32 (wrap .u32 ((b.toNat : Nat) : Int)) = b := by
 rw [u32_wrap_nat b.isLt]
 apply BitVec.eq_of_toNat_eq
 rw [ofInt_nat b.isLt]
theorem wrap_back {x : Int} (h0 : 0 ≤ x) (h1 : x < 4294967296) : wrap .u32 (((BitVec.ofInt 32 x).toNat : Nat) : Int) = x := by
 obtain ⟨n, rfl⟩ := Int.eq_ofNat_of_zero_le h0
 have hn : n < 4294967296 := by omega
 rw [ofInt_nat (n := 32) hn, u32_wrap_nat hn]
theorem msk_eq (x m w : Int) : Sp.andI .u32 x (Sp.orI .u32 w (Sp.xorI .u32 4294967295 m)) = Sp.andnI .u32 x (Sp.andnI .u32 m w) := by
 unfold Sp.andI Sp.orI Sp.xorI Sp.andnI
 rw [show IntKind.bits .u32 = 32 from rfl, bv_back, bv_back, bv_back, show BitVec.ofInt 32 4294967295 = BitVec.allOnes 32 from by decide]
 congr 3
 generalize BitVec.ofInt 32 x = a
 generalize BitVec.ofInt 32 m = b
 generalize BitVec.ofInt 32 w = c
 apply BitVec.eq_of_getLsbD_eq
 intro i hi
 simp only [BitVec.getLsbD_and, BitVec.getLsbD_or, BitVec.getLsbD_xor, BitVec.getLsbD_not, BitVec.getLsbD_allOnes, hi, decide_true, Bool.true_and]
 cases a.getLsbD i <;> cases b.getLsbD i <;> cases c.getLsbD i <;> rfl
theorem msk_0 {x w : Int} (h0 : 0 ≤ x) (h1 : x < 4294967296) : Sp.andI .u32 x (Sp.orI .u32 w (Sp.xorI .u32 4294967295 0)) = x := by
 rw [msk_eq]
 unfold Sp.andnI
 rw [show IntKind.bits .u32 = 32 from rfl, bv_back, show BitVec.ofInt 32 0 = 0#32 from by decide, BitVec.zero_and, show ~~~ (0#32) = BitVec.allOnes 32 from by decide, BitVec.and_allOnes, wrap_back h0 h1]
namespace Sp
noncomputable def rbt (p : PwT) : Int × PwT × Int × Unit := if p.1 = 0 then (0, p, 18, ()) else if p.1 = 1 then (p.2.1, (0, p.2), 18, ()) else (4294967295, (p.1 - 1, p.2), 0, ())
end Sp
theorem rbits_pv (p : PwT) (h0 : 0 ≤ p.1) (h1 : p.1 ≤ 1099511627776) : p_105 p = true ∧ v_105 p = Sp.rbt p := by
 refine pv_105 p ?_
 unfold F_105 Sp.rbt
 obtain ⟨n, q⟩ := p
 dsimp only at *
 by_cases e0 : n = 0
 · subst e0; rfl
 rw [if_neg e0]
 by_cases e1 : n = 1
 · subst e1; rfl
 rw [if_neg e1, cond_dff (by omega)]
 unfold J_105_0 S_105_0
 rw [cond_dff (by show ¬ n < 1; omega)]
 show some (_, _, _, _) = _
 dsimp only
 rw [wi64 (by omega) (by omega), if_pos (by omega)]
theorem rpow_pv (p : PwT) : p_47 p = true ∧ v_47 p = (decide (0 ≤ p.1) && decide (p.1 ≤ 1099511627776), ()) := by
 refine pv_47 p ?_
 unfold F_47
 by_cases h : p.1 ≥ 0
 · rw [cond_dtt h, decide_eq_true (p := 0 ≤ p.1) h, Bool.true_and]
 · rw [cond_dff h, decide_eq_false (p := 0 ≤ p.1) h, Bool.false_and]
theorem take_s {l : List Int} {i : Nat} (h : i < l.length) : l.take (i + 1) = l.take i ++ [l.getD i 0] := by
 have e : l.getD i 0 = l[i] := by simp [List.getD_eq_getElem?_getD, List.getElem?_eq_getElem h]
 rw [e, List.take_succ_eq_append_getElem h]
theorem cp0 (p6 : FlT) (hl : p6.1.length < 1000000) (p1 : FlT) (p2 : PwT) (p3 : Int × Unit) (p4 p5 : PwT) (p7 : Int × Unit) (p8 p9 : List Int) (p10 : Int × Unit) (p12 : List Int) : ∀ (d m i : Nat), i + d = p6.1.length → d < m → L_79_106_0_0 m (i : Nat) p1 p2 p3 p4 p5 p6 p7 p8 p9 p10 (p6.1.take i) p12 = some (.e0 p1 p2 p3 p4 p5 p6 p7 p8 p9 p10 p6.1 p12) := by
 intro d
 induction d with
 | zero =>
   intro m i hi hm
   obtain ⟨m, rfl⟩ : ∃ k, m = k + 1 := ⟨m - 1, by omega⟩
   rw [L_79_106_0_0, S_79_106_0_0, cond_dff (by omega), List.take_of_length_le (by omega)]
 | succ d ih =>
   intro m i hi hm
   obtain ⟨m, rfl⟩ : ∃ k, m = k + 1 := ⟨m - 1, by omega⟩
   have ht : (p6.1.take i).length ≤ 1000000 := by rw [List.length_take]; omega
   have := ih m (i + 1) (by omega) (by omega)
   rw [take_s (by omega)] at this
   rw [L_79_106_0_0, S_79_106_0_0, cond_dtt (by omega), gd_inB (by omega) (by omega), gd_room (by omega) (by omega), wi64 (by omega) (by omega), Int.toNat_natCast]
   push_cast at this
   exact this
theorem cp1 (p6 : FlT) (hl : p6.2.1.length < 1000000) (p1 : FlT) (p2 : PwT) (p3 : Int × Unit) (p4 p5 : PwT) (p7 : Int × Unit) (p8 p9 : List Int) (p10 : Int × Unit) (p11 : List Int) : ∀ (d m i : Nat), i + d = p6.2.1.length → d < m → L_79_106_1_0 m (i : Nat) p1 p2 p3 p4 p5 p6 p7 p8 p9 p10 p11 (p6.2.1.take i) = some (.e0 p1 p2 p3 p4 p5 p7 p8 p9 p10 p11 p6.2.1) := by
 intro d
 induction d with
 | zero =>
   intro m i hi hm
   obtain ⟨m, rfl⟩ : ∃ k, m = k + 1 := ⟨m - 1, by omega⟩
   rw [L_79_106_1_0, S_79_106_1_0, cond_dff (by omega), List.take_of_length_le (by omega)]
 | succ d ih =>
   intro m i hi hm
   obtain ⟨m, rfl⟩ : ∃ k, m = k + 1 := ⟨m - 1, by omega⟩
   have ht : (p6.2.1.take i).length ≤ 1000000 := by rw [List.length_take]; omega
   have := ih m (i + 1) (by omega) (by omega)
   rw [take_s (by omega)] at this
   rw [L_79_106_1_0, S_79_106_1_0, cond_dtt (by omega), gd_inB (by omega) (by omega), gd_room (by omega) (by omega), wi64 (by omega) (by omega), Int.toNat_natCast]
   push_cast at this
   exact this
theorem set_self (l : List Int) (k : Nat) (h : k < l.length) : l.set k (l.getD k 0) = l := by
 refine list_ext 0 (List.length_set ..) (fun j hj => ?_)
 rw [List.length_set] at hj
 rw [getD_set _ _ _ _ _ (by omega)]
 by_cases e : k = j
 · rw [if_pos e, e]
 · rw [if_neg e]
theorem rprg_pv {f : FlT} {p : PwT} {k : Nat} (w : Int) (h : Sp.fv f = true) (h0 : 0 ≤ p.1) (h1 : p.1 ≤ 1099511627776) (h2 : k < f.1.length) (hw : 0 ≤ f.1.getD k 0 ∧ f.1.getD k 0 < 4294967296) : p_79 f k w p = true ∧ v_79 f k w p = Sp.prg f k w p := by
 refine pv_79 f k w p ?_
 have hv := fv_iff.1 h
 have rv := pv_77 _ (rfv_ok f)
 unfold F_79
 rw [rv.1, rv.2, gd_tt, h, (rpow_pv p).1, (rpow_pv p).2, gd_tt, decide_eq_true h0, decide_eq_true h1, show (!(true, ()).1) = false from rfl, cond_f, show (!(true && true, ()).1) = false from rfl, cond_f, cond_dff (by omega), cond_dff (by omega), (rbits_pv p h0 h1).1, (rbits_pv p h0 h1).2, gd_tt]
 refine (congrArg (fun z => B_79_106_0_0 z _) (cp0 f (by omega) f p (0, ()) (0, 0, ()) (Sp.rbt p).2.1 (0, ()) [] [] (f.2.2.1, ()) [] f.1.length 4611686018427387904 0 (by omega) (by omega))).trans ?_
 unfold B_79_106_0_0
 dsimp only
 refine (congrArg (fun z => B_79_106_1_0 z _) (cp1 f (by omega) f p (0, ()) (0, 0, ()) (Sp.rbt p).2.1 (0, ()) [] [] (f.2.2.1, ()) f.1 f.2.1.length 4611686018427387904 0 (by omega) (by omega))).trans ?_
 unfold B_79_106_1_0
 dsimp only
 rw [gd_inB (by omega) (by omega), gd_inB (by omega) (by omega), Int.toNat_natCast, gd_and, gd_and, gd_dec h2, gd_tt, gd_tt]
 unfold Sp.prg Sp.rbt Sp.pw
 by_cases e0 : p.1 = 0
 · rw [if_pos e0, if_pos e0]
   dsimp only
   rw [msk_0 hw.1 hw.2, set_self _ _ h2]
 rw [if_neg e0, if_neg e0]
 by_cases e1 : p.1 = 1
 · rw [if_pos e1, if_pos e1]
   dsimp only
   rw [msk_eq]
 rw [if_neg e1, if_neg e1]
 dsimp only
 rw [msk_eq]
set_option maxRecDepth 100000
set_option maxHeartbeats 4000000
abbrev BayT := FlT × List Int × Unit
namespace Sp
noncomputable def cntB (n : Nat) : Bool := decide (n % 2 = 0) && (decide (18 ≤ n) && decide (n ≤ 64))
noncomputable def bvb (a : BayT) : Bool := fv a.1 && cntB a.1.2.1.length
noncomputable def hlf (a : BayT) : Nat := a.1.2.1.length * 32
/-- Words programmed from an address on, until something fails. -/
noncomputable def plo : List Int → Nat → RsT → RsT
 | [], _, s => s
 | x :: l, k, s => if s.2.2.1 = 0 then plo l (k + 1) (prg s.1 k x s.2.1) else s
end Sp
theorem cnt_ok (n : Nat) (hn : n < 1000000) : F_70 n = some (Sp.cntB n, ()) := by
 unfold F_70 Sp.cntB
 rw [Int.tmod_eq_emod_of_nonneg (by omega)]
 by_cases h : n % 2 = 0
 · rw [cond_ett (by omega), decide_eq_true h, Bool.true_and]
   by_cases h : 18 ≤ n
   · rw [cond_dtt (by omega), decide_eq_true h, Bool.true_and, show decide ((n : Int) ≤ 64) = decide (n ≤ 64) from decide_eq_decide.2 (by omega)]
   · rw [cond_dff (by omega), decide_eq_false h, Bool.false_and]
 · rw [cond_eff (by omega), decide_eq_false h, Bool.false_and]
theorem val_ok (a : BayT) : F_33 a = some (Sp.bvb a, ()) := by
 unfold F_33 Sp.bvb
 rw [(fv_pv a.1).1, (fv_pv a.1).2, gd_tt]
 cases h : Sp.fv a.1
 · rfl
 · have hv := fv_iff.1 h
   have hc := pv_70 _ (cnt_ok a.1.2.1.length (by omega))
   rw [cond_t, hc.1, hc.2, gd_tt, Bool.true_and]
theorem val_pv (a : BayT) : p_33 a = true ∧ v_33 a = (Sp.bvb a, ()) := pv_33 a (val_ok a)
theorem rsize_ok (n : Nat) (hn : n < 1000000) : F_78 n = some (Sp.cntB n, ()) := by
 unfold F_78 Sp.cntB
 rw [Int.tmod_eq_emod_of_nonneg (by omega), show ((n : Int) % 2 == 0) = decide (n % 2 = 0) from by rw [Bool.eq_iff_iff, beq_iff_eq, decide_eq_true_iff]; omega]
 by_cases h : 18 ≤ n
 · rw [cond_dtt (by omega), decide_eq_true h, Bool.true_and]
   by_cases h : n ≤ 64
   · rw [cond_dtt (by omega), decide_eq_true h, Bool.and_true]
   · rw [cond_dff (by omega), decide_eq_false h, Bool.and_false]
 · rw [cond_dff (by omega), decide_eq_false h, Bool.false_and, Bool.and_false]
theorem rval_pv (a : BayT) : p_46 a = true ∧ v_46 a = (Sp.bvb a, ()) := by
 refine pv_46 a ?_
 have hv := pv_77 _ (rfv_ok a.1)
 unfold F_46 Sp.bvb
 rw [hv.1, hv.2, gd_tt]
 cases h : Sp.fv a.1
 · rfl
 · have hv := fv_iff.1 h
   have hc := pv_78 _ (rsize_ok a.1.2.1.length (by omega))
   rw [cond_t, hc.1, hc.2, gd_tt, Bool.true_and]
abbrev W32f (f : FlT) : Prop := ∀ x ∈ f.1, 0 ≤ x ∧ x < 4294967296
theorem W32f.at {f : FlT} (h : W32f f) (k : Nat) : 0 ≤ f.1.getD k 0 ∧ f.1.getD k 0 < 4294967296 := by
 rw [List.getD_eq_getElem?_getD]
 cases e : f.1[k]? with
 | none => decide
 | some x => exact h x (List.mem_of_getElem? e)
theorem bv_rng (b : BitVec 32) : 0 ≤ wrap .u32 ((b.toNat : Nat) : Int) ∧ wrap .u32 ((b.toNat : Nat) : Int) < 4294967296 := by
 have := b.isLt
 rw [u32_wrap_nat b.isLt]; omega
theorem fv_pw (f : FlT) (k : Nat) (w b : Int) : Sp.fv (Sp.pw f k w b) = Sp.fv f := by
 unfold Sp.pw Sp.fv
 dsimp only
 rw [List.length_set]
 rfl
/-- What stays true of a flash memory while words are programmed. -/
structure PG (f0 : FlT) (s : RsT) : Prop where
 v : Sp.fv s.1 = true
 l : s.1.1.length = f0.1.length
 w : W32f s.1
 r : s.1.2 = f0.2
 p0 : 0 ≤ s.2.1.1
 p1 : s.2.1.1 ≤ 1099511627776
 e : s.2.2.1 = 0 ∨ s.2.2.1 = 18
theorem prg_g {f0 : FlT} {s : RsT} (h : PG f0 s) (k : Nat) (x : Int) : PG f0 (Sp.prg s.1 k x s.2.1) := by
 have hw : ∀ b, W32f (Sp.pw s.1 k x b) := fun b y hy => by
   rcases List.mem_or_eq_of_mem_set hy with h1 | rfl
   · exact h.w y h1
   · exact bv_rng _
 have hl : ∀ b, (Sp.pw s.1 k x b).1.length = f0.1.length := fun b => by unfold Sp.pw; dsimp only; rw [List.length_set]; exact h.l
 have p0 := h.p0
 have p1 := h.p1
 unfold Sp.prg
 split
 · exact ⟨h.v, h.l, h.w, h.r, h.p0, h.p1, .inr rfl⟩
 split
 · exact ⟨by rw [fv_pw]; exact h.v, hl _, hw _, h.r, Int.le_refl _, by show (0 : Int) ≤ _; decide, .inr rfl⟩
 · refine ⟨by rw [fv_pw]; exact h.v, hl _, hw _, h.r, ?_, ?_, .inl rfl⟩
   · show 0 ≤ s.2.1.1 - 1; omega
   · show s.2.1.1 - 1 ≤ _; omega
theorem plo_stop (l : List Int) (k : Nat) {s : RsT} (h : s.2.2.1 ≠ 0) : Sp.plo l k s = s := by
 cases l with
 | nil => rfl
 | cons x l => rw [Sp.plo, if_neg h]
theorem plo_g {f0 : FlT} : ∀ (l : List Int) (k : Nat) {s : RsT}, PG f0 s → PG f0 (Sp.plo l k s)
 | [], _, _, h => h
 | x :: l, k, s, h => by
   rw [Sp.plo]
   split
   · exact plo_g l (k + 1) (prg_g h k x)
   · exact h
theorem drop_c {l : List Int} {j : Nat} (h : j < l.length) : l.drop j = l.getD j 0 :: l.drop (j + 1) := by
 rw [List.drop_eq_getElem_cons h, List.getD_eq_getElem?_getD, List.getElem?_eq_getElem h]; rfl
set_option maxRecDepth 100000
set_option maxHeartbeats 4000000
theorem wl1 {f0 : FlT} (a : Nat) (l : List Int) (hl : a + l.length ≤ f0.1.length) (hf : f0.1.length ≤ 100000) (key : List Int × Unit) (p4 : DlT) (p5 : BayT) (p6 : PwT) (p7 p8 p9 p10 p11 : Int) (p12 : List Int) (p13 : Int) (p14 : Int × Unit) (p15 : List Int × Unit) (p16 : PwT) (p18 p19 : List Int) :
   ∀ (d m j : Nat) (s : RsT), PG f0 s → j + d = l.length → d < m → L_16_43_0_1 m a l l.length j p4 p5 p6 p7 p8 p9 p10 p11 p12 p13 p14 p15 p16 ((s.1, key), s.2.1, s.2.2.1, ()) p18 p19 = some (.e0 p4 p5 p6 p7 p8 p9 p10 p11 p12 p13 p14 p15 p16 (((Sp.plo (l.drop j) (a + j) s).1, key), (Sp.plo (l.drop j) (a + j) s).2.1, (Sp.plo (l.drop j) (a + j) s).2.2.1, ()) p18 p19)
 | 0, m + 1, j, s, _, hj, _ => by
   rw [L_16_43_0_1, S_16_43_0_1, cond_dff (by omega), List.drop_of_length_le (by omega)]
   rfl
 | d + 1, m + 1, j, s, h, hj, hm => by
   have hlen := h.l
   rw [L_16_43_0_1, S_16_43_0_1, cond_dtt (by omega), gd_inB (by omega) (by omega), drop_c (by omega), Sp.plo]
   dsimp only
   by_cases e : s.2.2.1 = 0
   · have pv := prg_pv (k := a + j) (w := l.getD j 0) h.v h.p0 h.p1 (by omega)
     rw [cond_ett e, if_pos e, wi64 (n := (a : Int) + j) (by omega) (by omega), Int.toNat_natCast, show (a : Int) + (j : Int) = ((a + j : Nat) : Int) by push_cast; rfl, pv.1, pv.2, gd_tt, wi64 (by omega) (by omega), show (j : Int) + 1 = ((j + 1 : Nat) : Int) by push_cast; rfl]
     exact wl1 a l hl hf key p4 p5 p6 p7 p8 p9 p10 p11 p12 p13 p14 p15 p16 p18 p19 d m (j + 1) _ (prg_g h (a + j) _) (by omega) (by omega)
   · rw [cond_eff e, if_neg e, wi64 (by omega) (by omega), show (j : Int) + 1 = ((j + 1 : Nat) : Int) by push_cast; rfl]
     have := wl1 a l hl hf key p4 p5 p6 p7 p8 p9 p10 p11 p12 p13 p14 p15 p16 p18 p19 d m (j + 1) s h (by omega) (by omega)
     rw [plo_stop _ _ e] at this
     exact this
theorem wl0 {f0 : FlT} (a : Nat) (l : List Int) (hl : a + l.length ≤ f0.1.length) (hf : f0.1.length ≤ 100000) (h0 : 0 < l.length) (key : List Int × Unit) (p4 : DlT) (p5 : BayT) (p6 : PwT) (p7 p8 p9 p10 p11 : Int) (p12 : List Int) (p13 : Int) (p14 : Int × Unit) (p15 : List Int × Unit) (p16 p : PwT) (h : PG f0 (f0, p, 0, ())) :
   L_16_43_0_0 4611686018427387904 a l l.length 0 p4 p5 p6 p7 p8 p9 p10 p11 p12 p13 p14 p15 p16 (f0.2.2.1, ()) key (p, 0, ()) f0.1 f0.2.1 = some (.e1 p4 p5 p6 p7 p8 p9 p10 p11 p12 p13 p14 p15 p16 (((Sp.plo l a (f0, p, 0, ())).1, key), (Sp.plo l a (f0, p, 0, ())).2.1, (Sp.plo l a (f0, p, 0, ())).2.2.1, ()) f0.1 f0.2.1) := by
 show L_16_43_0_0 (4611686018427387903 + 1) a l l.length 0 p4 p5 p6 p7 p8 p9 p10 p11 p12 p13 p14 p15 p16 (f0.2.2.1, ()) key (p, 0, ()) f0.1 f0.2.1 = _
 have pv := prg_pv (k := a) (w := l.getD 0 0) h.v h.p0 h.p1 (show a < f0.1.length by omega)
 have e : l = l.getD 0 0 :: l.drop 1 := by
   have := drop_c (l := l) (j := 0) h0
   rw [List.drop_zero] at this
   exact this
 have t := wl1 a l hl hf key p4 p5 p6 p7 p8 p9 p10 p11 p12 p13 p14 p15 p16 f0.1 f0.2.1 (l.length - 1) 4611686018427387903 1 _ (prg_g h a (l.getD 0 0)) (by omega) (by omega)
 have e2 : Sp.plo l a (f0, p, 0, ()) = Sp.plo (l.drop 1) (a + 1) (Sp.prg f0 a (l.getD 0 0) p) := by
   conv => lhs; rw [e]
   rw [Sp.plo, if_pos rfl]
 rw [e2]
 rw [L_16_43_0_0, S_16_43_0_0, cond_dtt (by omega), gd_inB (by omega) (by omega)]
 dsimp only
 rw [cond_ett rfl, Int.add_zero, wi64 (n := (a : Int)) (by omega) (by omega), show toNat 0 = 0 from rfl]
 rw [show p_76 (f0.1, f0.2.1, f0.2.2.1, ()) a (l.getD 0 0) p = true from pv.1, show v_76 (f0.1, f0.2.1, f0.2.2.1, ()) a (l.getD 0 0) p = Sp.prg f0 a (l.getD 0 0) p from pv.2, gd_tt, show wrap .i64 (0 + 1) = ((1 : Nat) : Int) from by decide]
 refine (congrArg (fun z => B_16_43_0_1 z _) t).trans ?_
 rfl
/-- The reference's loop. -/
theorem rl0 {f0 : FlT} (a : Nat) (l : List Int) (hl : a + l.length ≤ f0.1.length) (hf : f0.1.length ≤ 100000) (key : List Int × Unit) (p4 : Int × Unit) (p5 : List Int × Unit) (p6 : PwT × Int × Unit) (p7 p8 : List Int) :
   ∀ (d m j : Nat) (s : RsT), PG f0 s → j + d = l.length → d < m → L_50_0 m a l j ((s.1, key), s.2.1, s.2.2.1, ()) p4 p5 p6 p7 p8 = some (.e0 (((Sp.plo (l.drop j) (a + j) s).1, key), (Sp.plo (l.drop j) (a + j) s).2.1, (Sp.plo (l.drop j) (a + j) s).2.2.1, ()) p4 p5 p6 p7 p8)
 | 0, m + 1, j, s, _, hj, _ => by
   rw [L_50_0, S_50_0, cond_dff (by omega), List.drop_of_length_le (by omega)]
   rfl
 | d + 1, m + 1, j, s, h, hj, hm => by
   have hlen := h.l
   rw [L_50_0, S_50_0, cond_dtt (by omega), gd_inB (by omega) (by omega), drop_c (by omega), Sp.plo]
   dsimp only
   by_cases e : s.2.2.1 = 0
   · have pv := rprg_pv (k := a + j) (l.getD j 0) h.v h.p0 h.p1 (by omega) (h.w.at _)
     rw [cond_ett e, if_pos e, wi64 (n := (a : Int) + j) (by omega) (by omega), Int.toNat_natCast, show (a : Int) + (j : Int) = ((a + j : Nat) : Int) by push_cast; rfl, pv.1, pv.2, gd_tt, wi64 (by omega) (by omega), show (j : Int) + 1 = ((j + 1 : Nat) : Int) by push_cast; rfl]
     exact rl0 a l hl hf key p4 p5 p6 p7 p8 d m (j + 1) _ (prg_g h (a + j) _) (by omega) (by omega)
   · rw [cond_eff e, if_neg e]
theorem rprog_pv {f0 : FlT} (a : Nat) (l : List Int) (hl : a + l.length ≤ f0.1.length) (hf : f0.1.length ≤ 100000) (key : List Int × Unit) (p : PwT) (h : PG f0 (f0, p, 0, ())) :
   p_50 ((f0, key), p, 0, ()) a l = true ∧ v_50 ((f0, key), p, 0, ()) a l = ((((Sp.plo l a (f0, p, 0, ())).1, key), (Sp.plo l a (f0, p, 0, ())).2.1, (Sp.plo l a (f0, p, 0, ())).2.2.1, ()), ()) := by
 refine pv_50 _ _ _ ?_
 unfold F_50
 have t := rl0 a l hl hf key (0, ()) (replicate 32 0, ()) ((0, 0, ()), 0, ()) [] [] l.length 4611686018427387904 0 (f0, p, 0, ()) h (by omega) (by omega)
 rw [List.drop_zero] at t
 refine (congrArg (fun z => B_50_0 z _) t).trans ?_
 rfl
/-! sizes and places -/
theorem bay_len {b : BayT} (h : Sp.bvb b = true) : b.1.1.length = 2 * Sp.hlf b ∧ Sp.hlf b = 32 * b.1.2.1.length ∧ b.1.2.1.length ≤ 64 ∧ 18 ≤ b.1.2.1.length ∧ b.1.2.1.length % 2 = 0 ∧ Sp.fv b.1 = true := by
 unfold Sp.bvb Sp.cntB at h
 simp only [Bool.and_eq_true, decide_eq_true_eq] at h
 have hv := fv_iff.1 h.1
 unfold Sp.hlf
 refine ⟨by omega, by omega, by omega, by omega, by omega, h.1⟩
theorem size_pv {b : BayT} (h : Sp.bvb b = true) : p_44 b = true ∧ v_44 b = ((Sp.hlf b : Int), ()) := by
 have hb := bay_len h
 refine pv_44 b ?_
 unfold F_44
 rw [Int.tdiv_eq_ediv_of_nonneg (by omega), wi64 (by omega) (by omega)]
 congr 2
 omega
namespace Sp
noncomputable def pok (p : PwT) : Bool := decide (0 ≤ p.1) && decide (p.1 ≤ 1099511627776)
noncomputable def fit (d : DlT) (b : BayT) (p : PwT) : Bool := vdl d && (bvb b && (pok p && (d.1 == 0 || rgt d.2.2.2.1 ((hlf b : Int) - 564))))
end Sp
theorem zdl_vdl {d : DlT} (h : Sp.vdl d = true) : Sp.zdl d = (d.1 == 0) := by
 unfold Sp.vdl Sp.vst at h
 cases hz : Sp.zdl d
 · rw [hz, Bool.false_or] at h
   by_cases e : d.1 = 0
   · simp [e] at h
   · rw [beq_eq_false_iff_ne.2 e]
 · unfold Sp.zdl at hz
   simp only [Bool.and_eq_true] at hz
   rw [hz.1]
theorem upow_pv (p : PwT) : p_61 p = true ∧ v_61 p = (Sp.pok p, ()) := by
 refine pv_61 p ?_
 unfold F_61 Sp.pok
 by_cases h : p.1 ≥ 0
 · rw [cond_dtt h, decide_eq_true (p := 0 ≤ p.1) h, Bool.true_and]
 · rw [cond_dff h, decide_eq_false (p := 0 ≤ p.1) h, Bool.false_and]
theorem fits_pv {d : DlT} (hh : H32 d.2.2.2.1) (b : BayT) (p : PwT) : p_40 d b p = true ∧ v_40 d b p = ((if Sp.fit d b p = true then 0 else 1), ()) := by
 refine pv_40 d b p ?_
 have v := pv_13 _ (valid_ok hh)
 have z := pv_37 _ (zero_ok d)
 unfold F_40 Sp.fit
 rw [v.1, v.2, gd_tt, (val_pv b).1, (val_pv b).2, gd_tt, (upow_pv p).1, (upow_pv p).2, gd_tt, z.1, z.2, gd_tt]
 dsimp only
 cases hv : Sp.vdl d
 · rfl
 cases hb : Sp.bvb b
 · rfl
 cases hp : Sp.pok p
 · rfl
 rw [zdl_vdl hv]
 have s := size_pv hb
 have l := bay_len hb
 rw [s.1, s.2, gd_tt]
 dsimp only
 rw [wi64 (by omega) (by omega)]
 have r := pv_38 _ _ (right_ok hh ((Sp.hlf b : Int) - 564))
 rw [r.1, r.2, gd_tt]
 dsimp only
 cases d.1 == 0 <;> cases Sp.rgt d.2.2.2.1 ((Sp.hlf b : Int) - 564) <;> rfl
theorem lfits_pv (d : DlT) (b : BayT) (p : PwT) : p_17 d b p = true ∧ v_17 d b p = (Sp.fit d b p, ()) := by
 refine pv_17 d b p ?_
 have v := pv_14 _ (rvalid_ok d)
 unfold F_17 Sp.fit
 rw [v.1, v.2, gd_tt, (rval_pv b).1, (rval_pv b).2, gd_tt, (rpow_pv p).1, (rpow_pv p).2, gd_tt]
 dsimp only
 cases hv : Sp.vdl d
 · rfl
 cases hb : Sp.bvb b
 · rfl
 have l := bay_len hb
 have f : p_48 d.2.2.2.1 b = true ∧ v_48 d.2.2.2.1 b = (Sp.rgt d.2.2.2.1 ((Sp.hlf b : Int) - 564), ()) := by
   refine pv_48 _ _ ?_
   unfold F_48
   have r := pv_39 _ _ (header_ok d.2.2.2.1 ((Sp.hlf b : Int) - 564))
   rw [Int.tdiv_eq_ediv_of_nonneg (by omega), wi64 (n := (b.1.1.length : Int) / 2) (by omega) (by omega), show (b.1.1.length : Int) / 2 = (Sp.hlf b : Int) by omega, wi64 (by omega) (by omega), r.1, r.2, gd_tt]
 rw [f.1, f.2, gd_tt]
 show (bif true then bif true then bif Sp.pok p then _ else _ else _ else _) = some (true && (true && (Sp.pok p && _)), ())
 cases Sp.pok p <;> cases d.1 == 0 <;> rfl
set_option maxRecDepth 100000
set_option maxHeartbeats 4000000
theorem same_pv (f : FlT) (h : Sp.fv f = true) : p_68 f f = true ∧ v_68 f f = (true, ()) := by
 have hv := fv_iff.1 h
 refine pv_68 f f ?_
 unfold F_68
 rw [cond_nff rfl, cond_nff rfl, cond_nff rfl]
 have h1 := run0 (fun m i (_ : Unit) => L_68_0 m i f f) (n := f.1.length) (fun _ => ()) (r := some (.e1 f f)) (by omega) (fun m j hj => by
   show L_68_0 (m + 1) (j : Int) f f = L_68_0 m ((j + 1 : Nat) : Int) f f
   rw [L_68_0, S_68_0, cond_dtt (by omega), gd_inB (by omega) (by omega), gd_inB (by omega) (by omega), cond_nff rfl, wi64 (by omega) (by omega)]
   push_cast
   rfl) (fun m => by
   show L_68_0 (m + 1) f.1.length f f = _
   rw [L_68_0, S_68_0, cond_dff (by omega)])
 have h2 := run0 (fun m i (_ : Unit) => L_68_1 m i f f) (n := f.2.1.length) (fun _ => ()) (r := some .e1) (by omega) (fun m j hj => by
   show L_68_1 (m + 1) (j : Int) f f = L_68_1 m ((j + 1 : Nat) : Int) f f
   rw [L_68_1, S_68_1, cond_dtt (by omega), gd_inB (by omega) (by omega), gd_inB (by omega) (by omega), cond_nff rfl, wi64 (by omega) (by omega)]
   push_cast
   rfl) (fun m => by
   show L_68_1 (m + 1) f.2.1.length f f = _
   rw [L_68_1, S_68_1, cond_dff (by omega)])
 have e1 : L_68_0 4611686018427387904 0 f f = _ := h1
 have e2 : L_68_1 4611686018427387904 0 f f = _ := h2
 rw [e1]
 simp only [B_68_0]
 rw [e2]
 rfl
theorem same_l0 (a b : SigT) (h2 : a.2.1.length = b.2.1.length) (h3 : a.2.1.length < 4611686018427387904) : ∀ (d m j : Nat), j + d = a.2.1.length → d < m → a.2.1.take j = b.2.1.take j → L_73_0 m (j : Nat) a b = (if a.2.1 = b.2.1 then some (.e1 a b) else some .e0)
 | 0, m + 1, j, h1, _, h5 => by
   rw [L_73_0, S_73_0, cond_dff (by omega), if_pos]
   rw [List.take_of_length_le (by omega), List.take_of_length_le (by omega)] at h5
   exact h5
 | d + 1, m + 1, j, h1, h4, h5 => by
   have hx : j < a.2.1.length := by omega
   have hy : j < b.2.1.length := by omega
   rw [L_73_0, S_73_0, cond_dtt (by omega), gd_inB (by omega) (by omega), gd_inB (by omega) (by omega), Int.toNat_natCast, arr_beq]
   have ex : a.2.1.getD j (Ty.dflt (.arr 32 (.int .u8))) = a.2.1[j] := by simp [List.getD_eq_getElem?_getD, hx]
   have ey : b.2.1.getD j (Ty.dflt (.arr 32 (.int .u8))) = b.2.1[j] := by simp [List.getD_eq_getElem?_getD, hy]
   rw [ex, ey]
   by_cases he : a.2.1[j] = b.2.1[j]
   · rw [beq_iff_eq.2 he, Bool.not_true, cond_f, wi64 (by omega) (by omega)]
     refine same_l0 a b h2 h3 d m (j + 1) (by omega) (by omega) ?_
     rw [List.take_succ_eq_append_getElem hx, List.take_succ_eq_append_getElem hy, h5, he]
   · rw [beq_eq_false_iff_ne.2 he, Bool.not_false, cond_t, if_neg (fun e => he (by simp only [e]))]
theorem same_l1 (a b : SigT) (h2 : a.2.2.1.length = b.2.2.1.length) (h3 : a.2.2.1.length < 4611686018427387904) : ∀ (d m j : Nat), j + d = a.2.2.1.length → d < m → a.2.2.1.take j = b.2.2.1.take j → L_73_1 m (j : Nat) a b = (if a.2.2.1 = b.2.2.1 then some .e1 else some .e0)
 | 0, m + 1, j, h1, _, h5 => by
   rw [L_73_1, S_73_1, cond_dff (by omega), if_pos]
   rw [List.take_of_length_le (by omega), List.take_of_length_le (by omega)] at h5
   exact h5
 | d + 1, m + 1, j, h1, h4, h5 => by
   have hx : j < a.2.2.1.length := by omega
   have hy : j < b.2.2.1.length := by omega
   rw [L_73_1, S_73_1, cond_dtt (by omega), gd_inB (by omega) (by omega), gd_inB (by omega) (by omega), Int.toNat_natCast, arr_beq]
   have ex : a.2.2.1.getD j (Ty.dflt (.arr 32 (.int .u8))) = a.2.2.1[j] := by simp [List.getD_eq_getElem?_getD, hx]
   have ey : b.2.2.1.getD j (Ty.dflt (.arr 32 (.int .u8))) = b.2.2.1[j] := by simp [List.getD_eq_getElem?_getD, hy]
   rw [ex, ey]
   by_cases he : a.2.2.1[j] = b.2.2.1[j]
   · rw [beq_iff_eq.2 he, Bool.not_true, cond_f, wi64 (by omega) (by omega)]
     refine same_l1 a b h2 h3 d m (j + 1) (by omega) (by omega) ?_
     rw [List.take_succ_eq_append_getElem hx, List.take_succ_eq_append_getElem hy, h5, he]
   · rw [beq_eq_false_iff_ne.2 he, Bool.not_false, cond_t, if_neg (fun e => he (by simp only [e]))]
theorem same_self (a : SigT) (h3 : a.2.1.length < 4611686018427387904) (h4 : a.2.2.1.length < 4611686018427387904) : F_73 a a = some (true, ()) := by
 unfold F_73
 rw [cond_nff rfl, cond_nff rfl, cond_nff rfl]
 rw [show L_73_0 4611686018427387904 0 a a = _ from same_l0 a a rfl h3 a.2.1.length 4611686018427387904 0 (by omega) (by omega) rfl, if_pos rfl]
 simp only [B_73_0]
 rw [show L_73_1 4611686018427387904 0 a a = _ from same_l1 a a rfl h4 a.2.2.1.length 4611686018427387904 0 (by omega) (by omega) rfl, if_pos rfl]
 rfl
theorem bsame_pv (b : BayT) (h : Sp.fv b.1 = true) : p_32 b b = true ∧ v_32 b b = (true, ()) := by
 refine pv_32 b b ?_
 have s := same_pv b.1 h
 unfold F_32
 rw [s.1, s.2, gd_tt, show Ty.beq (.arr 32 (.int .u8)) b.2.1 b.2.1 = true from beq_self_eq_true b.2.1]
 rfl
theorem hsame_pv (h : HdrT) (h1 : h.2.2.2.1.2.1.length < 1000) (h2 : h.2.2.2.1.2.2.1.length < 1000) : p_36 h h = true ∧ v_36 h h = (true, ()) := by
 refine pv_36 h h ?_
 have s := pv_73 _ _ (same_self h.2.2.2.1 (by omega) (by omega))
 unfold F_36
 rw [s.1, s.2, gd_tt, show Ty.beq (.arr 32 (.int .u8)) h.2.2.1 h.2.2.1 = true from beq_self_eq_true h.2.2.1, cond_ett rfl, cond_ett rfl]
 rfl
theorem dsame_pv (d : DlT) (h1 : d.2.2.2.1.2.2.2.1.2.1.length < 1000) (h2 : d.2.2.2.1.2.2.2.1.2.2.1.length < 1000) : p_49 d d = true ∧ v_49 d d = (true, ()) := by
 refine pv_49 d d ?_
 have s := hsame_pv d.2.2.2.1 h1 h2
 unfold F_49
 rw [s.1, s.2, gd_tt, cond_ett rfl, cond_ett rfl, cond_ett rfl]
abbrev OutT := DlT × BayT × PwT × Int × Unit
namespace Sp
noncomputable def zD : DlT := (0, 0, 0, (0, 0, replicate 32 0, (0, [], [], ()), ()), ())
noncomputable def zB : BayT := (([], [], 0, ()), replicate 32 0, ())
noncomputable def fl (e : Int) : OutT := (zD, zB, (0, 0, ()), e, ())
noncomputable def part (d : DlT) : Int := if d.2.2.2.1.2.1 - d.2.2.1 < 32 then d.2.2.2.1.2.1 - d.2.2.1 else 32
noncomputable def nxt (d : DlT) (n : Int) : DlT := (if d.2.2.1 + n = d.2.2.2.1.2.1 then 2 else d.1, d.2.1, d.2.2.1 + n, d.2.2.2)
noncomputable def adr (d : DlT) (b : BayT) : Nat := d.2.1.toNat * hlf b + 564 + d.2.2.1.toNat
noncomputable def blr (d : DlT) (b : BayT) (l : List Int) (p : PwT) : RsT := plo l (adr d b) (b.1, p, 0, ())
noncomputable def blo (d : DlT) (b : BayT) (l : List Int) (p : PwT) : OutT := (if (blr d b l p).2.2.1 = 0 then nxt d l.length else zD, ((blr d b l p).1, b.2), (blr d b l p).2.1, (blr d b l p).2.2.1, ())
/-- The error ahead of all operations. -/
noncomputable def ble (d : DlT) (b : BayT) (n : Int) (l : List Int) (p : PwT) : Int := if fit d b p = true then (if d.1 = 1 then (if n = Int.tdiv d.2.2.1 32 then (if (l.length : Int) = part d then 0 else 3) else 15) else 6) else 1
noncomputable def blk (d : DlT) (b : BayT) (n : Int) (l : List Int) (p : PwT) : OutT := if ble d b n l p = 0 then blo d b l p else fl (ble d b n l p)
end Sp
theorem fail_pv (e : Int) : p_41 e = true ∧ v_41 e = Sp.fl e := pv_41 e rfl
/-- What is known of a download that fits. -/
theorem fit_d {d : DlT} {b : BayT} {p : PwT} (h : Sp.fit d b p = true) (h1 : d.1 = 1) : Sp.bvb b = true ∧ 0 ≤ p.1 ∧ p.1 ≤ 1099511627776 ∧ (d.2.1 = 0 ∨ d.2.1 = 1) ∧ 0 ≤ d.2.2.1 ∧ d.2.2.1 < d.2.2.2.1.2.1 ∧ d.2.2.2.1.2.1 ≤ (Sp.hlf b : Int) - 564 ∧ d.2.2.2.1.2.1 ≤ 1484 ∧ Sp.shp d.2.2.2.1.2.2.2.1 = true := by
 unfold Sp.fit Sp.vdl Sp.vst Sp.pok Sp.rgt at h
 have hz : Sp.zdl d = false := by unfold Sp.zdl; rw [h1]; rfl
 rw [hz, h1] at h
 simp at h
 obtain ⟨⟨h2, ⟨h3, h4, h5, h6, h7⟩, h8, h9, h10⟩, h11, ⟨h12, h13⟩, h14, h15, h16, h17, h18⟩ := h
 exact ⟨h11, h12, h13, h2, h8, h9, h17, h6, h7⟩
theorem shp_len {s : SigT} (h : Sp.shp s = true) : s.2.1.length = 67 ∧ s.2.2.1.length = 2 := by
 simp only [Sp.shp, Bool.and_eq_true, decide_eq_true_eq, beq_iff_eq] at h
 omega
set_option maxRecDepth 100000
set_option maxHeartbeats 4000000
theorem part_b {d : DlT} (h0 : 0 ≤ d.2.2.1) (h1 : d.2.2.1 < d.2.2.2.1.2.1) : 1 ≤ Sp.part d ∧ Sp.part d ≤ 32 ∧ d.2.2.1 + Sp.part d ≤ d.2.2.2.1.2.1 := by
 unfold Sp.part
 split <;> omega
theorem hlf_mul (d : DlT) (b : BayT) (h : d.2.1 = 0 ∨ d.2.1 = 1) : d.2.1 * (Sp.hlf b : Int) = ((d.2.1.toNat * Sp.hlf b : Nat) : Int) := by
 rcases h with h | h <;> rw [h] <;> simp
theorem PG.init {b : BayT} {p : PwT} (h : Sp.bvb b = true) (hw : W32f b.1) (h0 : 0 ≤ p.1) (h1 : p.1 ≤ 1099511627776) : PG b.1 (b.1, p, 0, ()) :=
 ⟨(bay_len h).2.2.2.2.2, rfl, hw, rfl, h0, h1, .inl rfl⟩
/-- The words of a block lie in the bank. -/
theorem adr_in {d : DlT} {b : BayT} {p : PwT} {l : List Int} (h : Sp.fit d b p = true) (h1 : d.1 = 1) (hl : (l.length : Int) = Sp.part d) : Sp.adr d b + l.length ≤ b.1.1.length ∧ b.1.1.length ≤ 100000 ∧ 0 < l.length ∧ l.length ≤ 32 ∧ (d.2.1.toNat = 0 ∨ d.2.1.toNat = 1) := by
 obtain ⟨hb, _, _, hk, a0, a1, a2, a3, _⟩ := fit_d h h1
 have hp := part_b a0 a1
 have bl := bay_len hb
 unfold Sp.adr
 rcases hk with e | e <;> rw [e] <;> refine ⟨?_, by omega, by omega, by omega, ?_⟩ <;> simp <;> omega
theorem blr_g {d : DlT} {b : BayT} {p : PwT} (l : List Int) (h : Sp.fit d b p = true) (h1 : d.1 = 1) (hw : W32f b.1) : PG b.1 (Sp.blr d b l p) := by
 obtain ⟨hb, p0, p1, _⟩ := fit_d h h1
 exact plo_g l _ (PG.init hb hw p0 p1)
theorem blk_pv {d : DlT} {b : BayT} {n : Int} {l : List Int} {p : PwT} (hh : H32 d.2.2.2.1) (hw : W32f b.1) : p_16 d b n l p = true ∧ v_16 d b n l p = Sp.blk d b n l p := by
 refine pv_16 d b n l p ?_
 have f := fits_pv hh b p
 unfold F_16 Sp.blk Sp.ble
 rw [f.1, f.2, gd_tt]
 dsimp only
 cases hf : Sp.fit d b p
 · rw [if_neg Bool.false_ne_true, if_neg Bool.false_ne_true, cond_ntt (by decide), (fail_pv 1).1, (fail_pv 1).2, gd_tt, if_neg (show ¬ (1 : Int) = 0 by decide)]
   try rfl
 rw [if_pos rfl, if_pos rfl, cond_nff rfl]
 by_cases h1 : d.1 = 1
 rotate_left
 · rw [cond_ntt h1, (fail_pv 6).1, (fail_pv 6).2, gd_tt, if_neg h1, if_neg (show ¬ (6 : Int) = 0 by decide)]
   try rfl
 obtain ⟨hb, p0, p1, hk, a0, a1, a2, a3, _⟩ := fit_d hf h1
 have bl := bay_len hb
 rw [cond_nff h1, if_pos h1, Int.tdiv_eq_ediv_of_nonneg a0, wi64 (n := d.2.2.1 / 32) (by omega) (by omega)]
 by_cases h2 : n = d.2.2.1 / 32
 rotate_left
 · rw [cond_ntt h2, (fail_pv 15).1, (fail_pv 15).2, gd_tt, if_neg h2, if_neg (show ¬ (15 : Int) = 0 by decide)]
   try rfl
 rw [cond_nff h2, if_pos h2, wi64 (n := d.2.2.2.1.2.1 - d.2.2.1) (by omega) (by omega)]
 rw [show (if d.2.2.2.1.2.1 - d.2.2.1 < 32 then d.2.2.2.1.2.1 - d.2.2.1 else 32) = Sp.part d from rfl]
 by_cases h3 : (l.length : Int) = Sp.part d
 rotate_left
 · rw [cond_ntt h3, (fail_pv 3).1, (fail_pv 3).2, gd_tt, if_neg h3, if_neg (show ¬ (3 : Int) = 0 by decide)]
   try rfl
 have ad := adr_in hf h1 h3
 rw [cond_nff h3, if_pos h3, if_pos rfl, gd_room (by omega) (by omega), gd_room (by omega) (by omega), (size_pv hb).1, (size_pv hb).2, gd_tt]
 dsimp only
 have ea : wrap .i64 (wrap .i64 (wrap .i64 (d.2.1 * (Sp.hlf b : Int)) + 564) + d.2.2.1) = (Sp.adr d b : Int) := by
   rw [hlf_mul d b hk]
   have : d.2.1.toNat * Sp.hlf b ≤ 10000 := by
     rcases ad.2.2.2.2 with e | e <;> rw [e] <;> omega
   rw [wi64 (n := ((d.2.1.toNat * Sp.hlf b : Nat) : Int)) (by omega) (by omega), wi64 (n := ((d.2.1.toNat * Sp.hlf b : Nat) : Int) + 564) (by omega) (by omega), wi64 (by omega) (by omega)]
   unfold Sp.adr
   omega
 rw [ea]
 have w := wl0 (f0 := b.1) (Sp.adr d b) l ad.1 ad.2.1 ad.2.2.1 b.2 d b p 0 0 0 0 0 (replicate 32 0) 0 (0, ()) (replicate 32 0, ()) (0, 0, ()) p (PG.init hb hw p0 p1)
 refine (congrArg (fun z => B_16_43_0_0 z _ _) w).trans ?_
 unfold B_16_43_0_0
 dsimp only
 rw [show Sp.plo l (Sp.adr d b) (b.1, p, 0, ()) = Sp.blr d b l p from rfl]
 have hg := blr_g l hf h1 hw
 rw [wi64 (n := d.2.2.1 + (l.length : Int)) (by omega) (by omega)]
 have J : ∀ (q : DlT) (a1 : Int) (a2 a3 a4 a5 : Int) (a6 : List Int) (a7 : Int) (a8 a9 : List (List Int)) (a10 : Int × Unit) (a11 : List Int × Unit) (a12 a13 : List Int) (a14 : PwT), B_16_0_1 (J_16_0_1 q a1 a2 a3 a4 a5 a6 a7 a8 a9 a10 a11 a12 a13 a14 (((Sp.blr d b l p).1, b.2), (Sp.blr d b l p).2.1, (Sp.blr d b l p).2.2.1, ()))
     (fun y z => some (y, z.1, z.2.1, (0 : Int), ())) (fun z => some (((0 : Int), (0 : Int), (0 : Int), ((0 : Int), (0 : Int), replicate 32 (0 : Int), ((0 : Int), ([] : List (List Int)), ([] : List (List Int)), ()), ()), ()), z.1, z.2.1, (18 : Int), ())) (fun z => some ((v_41 z.2.2.1).1, (v_41 z.2.2.1).2.1, (v_41 z.2.2.1).2.2.1, (v_41 z.2.2.1).2.2.2.1, ())) =
     some (if (Sp.blr d b l p).2.2.1 = 0 then q else Sp.zD, ((Sp.blr d b l p).1, b.2), (Sp.blr d b l p).2.1, (Sp.blr d b l p).2.2.1, ()) := by
   intro q a1 a2 a3 a4 a5 a6 a7 a8 a9 a10 a11 a12 a13 a14
   unfold J_16_0_1 S_16_0_1
   dsimp only
   rcases hg.e with e | e
   · rw [cond_ett e, if_pos e, e]
     rfl
   · rw [cond_eff (by rw [e]; decide), cond_ett e, if_neg (by rw [e]; decide), e]
     rfl
 unfold Sp.blo Sp.nxt
 by_cases h4 : d.2.2.1 + (l.length : Int) = d.2.2.2.1.2.1
 · rw [cond_ett h4, if_pos h4]
   exact J _ _ _ _ _ _ _ _ _ _ _ _ _ _ _
 · rw [cond_eff h4, if_neg h4]
   exact J _ _ _ _ _ _ _ _ _ _ _ _ _ _ _
theorem aw : F_8 = some (true, ()) := by kernel_rfl
theorem aw_pv : p_8 = true ∧ v_8 = (true, ()) := pv_8 aw
theorem odd_pv (h : HdrT) : p_9 h = true ∧ v_9 h = (decide ((h.2.2.2.1.2.1.length : Int) > 100) || decide ((h.2.2.2.1.2.2.1.length : Int) > 100), ()) := by
 refine pv_9 h ?_
 unfold F_9
 cases decide ((h.2.2.2.1.2.1.length : Int) > 100) <;> rfl
theorem h32 {h : HdrT} (w : wfD (.pair (.int .i64) (.pair (.int .i64) (.pair (.arr 32 (.int .u8)) (.pair (.pair (.int .i64) (.pair (.slice (.arr 32 (.int .u8))) (.pair (.slice (.arr 32 (.int .u8))) .unit))) .unit)))) h) : H32 h :=
 ⟨w.2.2.1.1, fun x hx => (w.2.2.2.1.2.1 x hx).1, fun x hx => (w.2.2.2.1.2.2.1 x hx).1⟩
theorem great_pv (b : BayT) : p_15 b = true ∧ v_15 b = (decide ((b.1.2.1.length : Int) > 20) && decide ((b.1.2.1.length : Int) ≤ 64), ()) := by
 refine pv_15 b ?_
 unfold F_15
 cases decide ((b.1.2.1.length : Int) > 20) <;> rfl
theorem u32_b {n : Int} (h : (Lit.int .u32 n).wf = true) : 0 ≤ n ∧ n < 4294967296 := by
 simp [Lit.wf, IntKind.min, IntKind.max, IntKind.signed, IntKind.bits] at h; omega
theorem zsame_pv : p_32 Sp.zB Sp.zB = true ∧ v_32 Sp.zB Sp.zB = (true, ()) := pv_32 _ _ (by kernel_rfl)
theorem zzero_pv : p_10 Sp.zD = true ∧ v_10 Sp.zD = (true, ()) := by
 have := pv_10 _ (rzero_ok Sp.zD)
 rwa [show Sp.zdl Sp.zD = true from by decide] at this
theorem jbad {e : Int} (he : e ≠ 0) (d : DlT) (b : BayT) (l : List Int) (p : PwT) : J_4_0 e e d b l p Sp.zD Sp.zB (0, 0, ()) = some (.e0 (0, 0, ())) := by
 unfold J_4_0 S_4_0
 rw [cond_ntt he, cond_ett rfl, zzero_pv.1, zzero_pv.2, gd_tt, cond_t]
 have z : p_32 Sp.zB (([], [], 0, ()), replicate 32 0, ()) = true ∧ v_32 Sp.zB (([], [], 0, ()), replicate 32 0, ()) = (true, ()) := zsame_pv
 rw [z.1, z.2, gd_tt, cond_t]
theorem j19 {E : Int} {d : DlT} {b : BayT} {l : List Int} {p : PwT} {q : DlT} {c : BayT} {r : PwT} (hq : p_49 q q = true ∧ v_49 q q = (true, ())) (hc : Sp.fv c.1 = true) :
   J_4_19_0_0 E d b l p (if E = 0 then q else Sp.zD) c r (if E = 0 then q else Sp.zD) c r (c, r, E, ()) q = some (.e0 d b l p (if E = 0 then q else Sp.zD) c r r (c, r, E, ())) := by
 have hz : p_49 Sp.zD (0, 0, 0, (0, 0, replicate 32 0, (0, [], [], ()), ()), ()) = true ∧ v_49 Sp.zD (0, 0, 0, (0, 0, replicate 32 0, (0, [], [], ()), ()), ()) = (true, ()) := dsame_pv Sp.zD (by decide) (by decide)
 have hb := bsame_pv c hc
 unfold J_4_19_0_0 S_4_19_0_0
 dsimp only
 by_cases e : E = 0
 · rw [cond_nff e, if_pos e]
   unfold J_4_19_1_1 S_4_19_1_1
   dsimp only
   rw [cond_ett rfl, hq.1, hq.2, gd_tt, cond_t, hb.1, hb.2, gd_tt, cond_t]
   rfl
 · rw [cond_ntt e, if_neg e]
   unfold J_4_19_1_0 S_4_19_1_0
   dsimp only
   rw [cond_ett rfl, hz.1, hz.2, gd_tt, cond_t, hb.1, hb.2, gd_tt, cond_t]
   rfl
theorem jok {d : DlT} {b : BayT} {l : List Int} {p : PwT} {s : RsT} {q : DlT} (hs : PG b.1 s) (h21 : p_21 (b, p, 0, ()) d l = true ∧ v_21 (b, p, 0, ()) d l = (((s.1, b.2), s.2.1, s.2.2.1, ()), ())) (h22 : p_22 d = true ∧ v_22 d = (q, ()))
   (hq : p_49 q q = true ∧ v_49 q q = (true, ())) : J_4_0 s.2.2.1 0 d b l p (if s.2.2.1 = 0 then q else Sp.zD) (s.1, b.2) s.2.1 = some (.e2 s.2.1 ((s.1, b.2), s.2.1, s.2.2.1, ())) := by
 have J := j19 (E := s.2.2.1) (d := d) (b := b) (l := l) (p := p) (r := s.2.1) (c := (s.1, b.2)) hq hs.v
 unfold J_4_0 S_4_0
 rw [cond_nff rfl, show p_21 (b, p, 0, PUnit.unit) d l = true from h21.1, show v_21 (b, p, 0, PUnit.unit) d l = _ from h21.2, gd_tt, h22.1, h22.2, gd_tt]
 dsimp only
 rw [J]
 rcases hs.e with e | e
 · rw [cond_nff e]
   rfl
 · rw [cond_ntt (by rw [e]; decide), cond_nff e]
   rfl
theorem base_pv {b : BayT} (h : Sp.bvb b = true) (k : Int) (hk : k = 0 ∨ k = 1) : p_51 b k = true ∧ v_51 b k = (((k.toNat * Sp.hlf b : Nat) : Int), ()) := by
 have bl := bay_len h
 refine pv_51 b k ?_
 unfold F_51
 rcases hk with e | e <;> rw [e]
 · rw [Int.zero_mul, wi64 (n := (0 : Int)) (by decide) (by decide)]
   rw [show Int.tdiv 0 2 = 0 from rfl, wi64 (n := (0 : Int)) (by decide) (by decide)]
   simp
 · rw [Int.one_mul, wi64 (n := (b.1.1.length : Int)) (by omega) (by omega), Int.tdiv_eq_ediv_of_nonneg (by omega), wi64 (by omega) (by omega)]
   congr 2
   simp
   omega
theorem part_pv {d : DlT} (h0 : 0 ≤ d.2.2.1) (h1 : d.2.2.1 < d.2.2.2.1.2.1) (h2 : d.2.2.2.1.2.1 ≤ 10000) : p_18 d = true ∧ v_18 d = (Sp.part d, ()) := by
 refine pv_18 d ?_
 unfold F_18 Sp.part
 rw [wi64 (n := d.2.2.2.1.2.1 - d.2.2.1) (by omega) (by omega)]
 by_cases h : d.2.2.2.1.2.1 - d.2.2.1 < 32
 · rw [cond_dtt h, if_pos h]
 · rw [cond_dff h, if_neg h]
theorem plain_4 (d : DlT) (b : BayT) (n : Int) (l : List Int) (p : PwT) (wd : wfD (.pair (.int .i64) (.pair (.int .i64) (.pair (.int .i64) (.pair (.pair (.int .i64) (.pair (.int .i64) (.pair (.arr 32 (.int .u8)) (.pair (.pair (.int .i64) (.pair (.slice (.arr 32 (.int .u8))) (.pair (.slice (.arr 32 (.int .u8))) .unit))) .unit)))) .unit)))) d)
   (wb : wfD (.pair (.pair (.slice (.int .u32)) (.pair (.slice (.int .i64)) (.pair (.int .i64) .unit))) (.pair (.arr 32 (.int .u8)) .unit)) b) (_ : wfD (.int .i64) n) (_ : wfD (.slice (.int .u32)) l) (_ : wfD (.pair (.int .i64) (.pair (.int .u32) .unit)) p) : F_4 d b n l p = some true := by
 have hh := h32 wd.2.2.2.1
 have hw : W32f b.1 := fun x hx => u32_b (wb.1.1 x hx)
 have o := odd_pv d.2.2.2.1
 have k := blk_pv (d := d) (b := b) (n := n) (l := l) (p := p) hh hw
 have f := lfits_pv d b p
 unfold F_4
 rw [aw_pv.1, aw_pv.2, gd_tt, (great_pv b).1, (great_pv b).2, gd_tt, o.1, o.2, gd_tt, k.1, k.2, gd_tt, f.1, f.2, gd_tt]
 dsimp only
 rw [show (!true) = false from rfl, cond_f]
 cases decide ((b.1.2.1.length : Int) > 20) && decide ((b.1.2.1.length : Int) ≤ 64)
 rotate_left
 · rfl
 cases ho : decide ((d.2.2.2.1.2.2.2.1.2.1.length : Int) > 100) || decide ((d.2.2.2.1.2.2.2.1.2.2.1.length : Int) > 100)
 rotate_left
 · rfl
 rw [cond_f, cond_f]
 by_cases hl : (l.length : Int) > 100
 · rw [cond_dtt hl]
 rw [cond_dff hl]
 have bad : ∀ e : Int, e ≠ 0 → Sp.blk d b n l p = Sp.fl e → B_4_0 (J_4_0 (Sp.blk d b n l p).2.2.2.1 e d b l p (Sp.blk d b n l p).1 (Sp.blk d b n l p).2.1 (Sp.blk d b n l p).2.2.1) (fun y => some (Ty.beq (.pair (.int .i64) (.pair (.int .u32) .unit)) y (0, 0, ()))) (some false) (fun y z => some (Ty.beq (.pair (.int .i64) (.pair (.int .u32) .unit)) y z.2.1)) = some true := fun e he h => by
   rw [h]
   rw [show (Sp.fl e).2.2.2.1 = e from rfl, show (Sp.fl e).1 = Sp.zD from rfl, show (Sp.fl e).2.1 = Sp.zB from rfl, show (Sp.fl e).2.2.1 = (0, 0, ()) from rfl, jbad he]
   rfl
 have hb : ∀ e : Int, Sp.ble d b n l p = e → e ≠ 0 → Sp.blk d b n l p = Sp.fl e := fun e h he => by unfold Sp.blk; rw [h, if_neg he]
 cases hf : Sp.fit d b p
 · rw [show (!false) = true from rfl, cond_t]
   exact bad 1 (by decide) (hb 1 (by unfold Sp.ble; rw [hf]; rfl) (by decide))
 rw [show (!true) = false from rfl, cond_f]
 by_cases h1 : d.1 = 1
 rotate_left
 · rw [cond_ntt h1]
   exact bad 6 (by decide) (hb 6 (by unfold Sp.ble; rw [hf, if_pos rfl, if_neg h1]) (by decide))
 obtain ⟨hbv, p0, p1, hk, a0, a1, a2, a3, hsh⟩ := fit_d hf h1
 rw [cond_nff h1, Int.tdiv_eq_ediv_of_nonneg a0, wi64 (n := d.2.2.1 / 32) (by omega) (by omega)]
 have e3 : Int.tdiv d.2.2.1 32 = d.2.2.1 / 32 := Int.tdiv_eq_ediv_of_nonneg a0
 by_cases h2 : n = d.2.2.1 / 32
 rotate_left
 · rw [cond_ntt h2]
   exact bad 15 (by decide) (hb 15 (by unfold Sp.ble; rw [hf, if_pos rfl, if_pos h1, e3, if_neg h2]) (by decide))
 have pp := part_pv a0 a1 (by omega)
 rw [cond_nff h2, pp.1, pp.2, gd_tt]
 by_cases h3 : (l.length : Int) = Sp.part d
 rotate_left
 · rw [cond_ntt h3]
   exact bad 3 (by decide) (hb 3 (by unfold Sp.ble; rw [hf, if_pos rfl, if_pos h1, e3, if_pos h2, if_neg h3]) (by decide))
 rw [cond_nff h3]
 have ad := adr_in hf h1 h3
 have bl := bay_len hbv
 have h0 : Sp.blk d b n l p = Sp.blo d b l p := by unfold Sp.blk Sp.ble; rw [hf, if_pos rfl, if_pos h1, e3, if_pos h2, if_pos h3, if_pos rfl]
 have hs := blr_g l hf h1 hw
 have q21 : p_21 (b, p, 0, ()) d l = true ∧ v_21 (b, p, 0, ()) d l = ((((Sp.blr d b l p).1, b.2), (Sp.blr d b l p).2.1, (Sp.blr d b l p).2.2.1, ()), ()) := by
   refine pv_21 _ _ _ ?_
   unfold F_21
   have bp := base_pv hbv d.2.1 hk
   have : d.2.1.toNat * Sp.hlf b ≤ 10000 := by
     rcases ad.2.2.2.2 with e | e <;> rw [e] <;> omega
   rw [bp.1, bp.2, gd_tt]
   dsimp only
   rw [wi64 (n := ((d.2.1.toNat * Sp.hlf b : Nat) : Int) + 564) (by omega) (by omega), wi64 (by omega) (by omega), show ((d.2.1.toNat * Sp.hlf b : Nat) : Int) + 564 + d.2.2.1 = (Sp.adr d b : Int) by unfold Sp.adr; omega]
   have r := rprog_pv (f0 := b.1) (Sp.adr d b) l ad.1 ad.2.1 b.2 p (PG.init hbv hw p0 p1)
   rw [show p_50 (b, p, 0, ()) (Sp.adr d b) l = true from r.1, show v_50 (b, p, 0, ()) (Sp.adr d b) l = _ from r.2, gd_tt]
   rfl
 have q22 : p_22 d = true ∧ v_22 d = (Sp.nxt d l.length, ()) := by
   refine pv_22 d ?_
   unfold F_22 Sp.nxt
   rw [pp.1, pp.2, gd_tt]
   dsimp only
   have pb := part_b a0 a1
   rw [wi64 (n := d.2.2.1 + Sp.part d) (by omega) (by omega), h3]
   by_cases h4 : d.2.2.1 + Sp.part d = d.2.2.2.1.2.1
   · rw [cond_ett h4, if_pos h4]
   · rw [cond_eff h4, if_neg h4]
 have sl := shp_len hsh
 have J := jok hs q21 q22 (dsame_pv (Sp.nxt d l.length) (by show d.2.2.2.1.2.2.2.1.2.1.length < 1000; omega) (by show d.2.2.2.1.2.2.2.1.2.2.1.length < 1000; omega))
 rw [h0]
 rw [show (Sp.blo d b l p).2.2.2.1 = (Sp.blr d b l p).2.2.1 from rfl, show (Sp.blo d b l p).1 = (if (Sp.blr d b l p).2.2.1 = 0 then Sp.nxt d l.length else Sp.zD) from rfl, show (Sp.blo d b l p).2.1 = ((Sp.blr d b l p).1, b.2) from rfl, show (Sp.blo d b l p).2.2.1 = (Sp.blr d b l p).2.1 from rfl, J]
 show some (Ty.beq (.pair (.int .i64) (.pair (.int .u32) .unit)) (Sp.blr d b l p).2.1 (Sp.blr d b l p).2.1) = some true
 generalize (Sp.blr d b l p).2.1 = z
 obtain ⟨z1, z2, z3⟩ := z
 simp [Ty.beq]
end Go.Ev
