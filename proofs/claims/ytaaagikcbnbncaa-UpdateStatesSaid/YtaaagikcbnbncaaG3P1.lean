/- Helpers: functions of the program as Lean functions, and what they compute. No condition. -/
import Derived.Test.YtaaagikcbnbncaaE3P3
import Derived.Test.YtaaagikcbnbncaaG3P0
set_option maxRecDepth 10000
set_option linter.unusedVariables false
set_option linter.unusedSimpArgs false
open Go.IntKind (wrap i64 i32 i16 i8 u64 u32 u16 u8)
open List (getD length take drop replicate)
open Int (toNat)
open Go.Ev.Sp
set_option linter.unusedSimpArgs false
set_option linter.unusedVariables false
namespace Go.Ev
open Go
set_option maxRecDepth 100000
set_option maxHeartbeats 4000000
abbrev SigT := Int × List (List Int) × List (List Int) × PUnit
abbrev h0 : List Int := Ty.dflt (.arr 32 (.int .u8))
namespace Sp
noncomputable def shp (s : SigT) : Bool := decide (0 ≤ s.1) && (decide (s.1 < 4) && ((s.2.1.length : Int) == 67 && (s.2.2.1.length : Int) == 2))
end Sp
theorem shp_ok (s : SigT) : F_85 s = some (Sp.shp s, ()) := by
 unfold F_85 Sp.shp
 by_cases h1 : s.1 ≥ 0
 · by_cases h2 : s.1 < 4
   · rw [cond_dtt h1, cond_dtt h2, decide_eq_true (show 0 ≤ s.1 from h1), decide_eq_true h2]
     cases ((s.2.1.length : Int) == 67) <;> rfl
   · rw [cond_dtt h1, cond_dff h2, decide_eq_false h2]; simp
 · rw [cond_dff h1, decide_eq_false (show ¬ 0 ≤ s.1 from h1)]; rfl
theorem rshp_ok (s : SigT) : F_56 s = some (Sp.shp s, ()) := by
 unfold F_56 Sp.shp
 by_cases h1 : s.1 ≥ 0
 · by_cases h2 : s.1 < 4
   · rw [cond_dtt h1, cond_dtt (show s.1 ≤ 3 by omega), decide_eq_true (show 0 ≤ s.1 from h1), decide_eq_true h2]
     cases ((s.2.1.length : Int) == 67) <;> rfl
   · rw [cond_dtt h1, cond_dff (show ¬ s.1 ≤ 3 by omega), decide_eq_false h2]; simp
 · rw [cond_dff h1, decide_eq_false (show ¬ 0 ≤ s.1 from h1)]; rfl
namespace Sp
noncomputable def wd (a b c d : Int) : Int := orI .u32 (orI .u32 (orI .u32 (wrap .u32 (wrap .u32 a * 16777216)) (wrap .u32 (wrap .u32 b * 65536))) (wrap .u32 (wrap .u32 c * 256))) (wrap .u32 d)
noncomputable def hwd (h : List Int) (i : Nat) : Int := wd (h.getD (4 * i) 0) (h.getD (4 * i + 1) 0) (h.getD (4 * i + 2) 0) (h.getD (4 * i + 3) 0)
noncomputable def hws (h : List Int) (n : Nat) : List Int := (List.range n).map (hwd h)
noncomputable def cws (l : List (List Int)) : List Int := l.flatMap fun h => hws h 8
noncomputable def wordsF (s : SigT) : List Int := [wrap .u32 s.1] ++ cws s.2.1 ++ cws s.2.2.1
end Sp
theorem hws_len (h : List Int) (n : Nat) : (Sp.hws h n).length = n := by simp [Sp.hws]
theorem hws_succ (h : List Int) (n : Nat) : Sp.hws h (n + 1) = Sp.hws h n ++ [Sp.hwd h n] := by simp [Sp.hws, List.range_succ]
theorem cws_len : ∀ l : List (List Int), (Sp.cws l).length = 8 * l.length
 | [] => rfl
 | h :: l => by
   have := cws_len l
   simp only [Sp.cws, List.flatMap_cons, List.length_append, List.length_cons, hws_len] at this ⊢
   omega
theorem cws_succ (l : List (List Int)) (j : Nat) (hj : j < l.length) : Sp.cws (l.take (j + 1)) = Sp.cws (l.take j) ++ Sp.hws (l.getD j h0) 8 := by
 rw [List.take_succ_eq_append_getElem hj, getD_at _ hj]
 simp only [Sp.cws, List.flatMap_append, List.flatMap_cons, List.flatMap_nil, List.append_nil]
theorem seg_get (h : List Int) (hl : h.length = 32) (i k : Nat) (hi : i < 8) (hk : k < 4) : (take (32 - 4 * i) (drop (4 * i) h)).getD k 0 = h.getD (4 * i + k) 0 := by
 rw [List.getD_eq_getElem?_getD, List.getD_eq_getElem?_getD, List.getElem?_take, if_pos (by omega), List.getElem?_drop]
theorem sword_ok (h : List Int) (hl : h.length = 32) (i : Nat) (hi : i < 8) : F_100 (take (32 - 4 * i) (drop (4 * i) h)) = some (Sp.hwd h i, ()) := by
 have hlen : (take (32 - 4 * i) (drop (4 * i) h)).length = 32 - 4 * i := by simp; omega
 unfold F_100
 rw [hlen, gd_inB (by omega) (by omega), gd_inB (by omega) (by omega), gd_inB (by omega) (by omega), gd_inB (by omega) (by omega), seg_get h hl i 0 hi (by omega), seg_get h hl i 1 hi (by omega), seg_get h hl i 2 hi (by omega), seg_get h hl i 3 hi (by omega)]
 rfl
theorem hloop (h : List Int) (hl : h.length = 32) (p1 p2 : Int) (p3 : List (List Int)) (p4 p5 : Int) (p6 : List Int) (h6 : p6.length ≤ 1000000) (p8 : List (List (List Int))) : L_74_2 4611686018427387904 0 p1 p2 p3 p4 p5 p6 h p8 = some (.e0 p1 p2 p3 p4 p5 (p6 ++ Sp.hws h 8) p8) := by
 have := run0 (fun m i s => L_74_2 m (4 * i) p1 p2 p3 p4 p5 s h p8) (n := 8) (fun j => p6 ++ Sp.hws h j) (r := some (.e0 p1 p2 p3 p4 p5 (p6 ++ Sp.hws h 8) p8)) (by decide) (fun m j hj => by
   have hp := pv_100 _ (sword_ok h hl j hj)
   have e : toNat (4 * (j : Int)) = 4 * j := by omega
   show L_74_2 (m + 1) (4 * (j : Int)) p1 p2 p3 p4 p5 (p6 ++ Sp.hws h j) h p8 = _
   rw [L_74_2, S_74_2, cond_dtt (by omega), gd_sl3 (by omega) (by omega) (by omega), e, hp.1, hp.2, Bool.and_true, Bool.and_true, gd_dec (by omega), gd_room (by rw [List.length_append, hws_len]; omega) (by rw [List.length_append, hws_len]; omega), wi64 (by omega) (by omega), hws_succ, List.append_assoc, show 4 * (j : Int) + 4 = 4 * ((j + 1 : Nat) : Int) by omega]) (fun m => by
   show L_74_2 (m + 1) 32 p1 p2 p3 p4 p5 (p6 ++ Sp.hws h 8) h p8 = _
   rw [L_74_2, S_74_2, cond_dff (by decide)])
 simpa [Sp.hws] using this
theorem cloop (p0 p1 : Int) (l : List (List Int)) (hl : ∀ h ∈ l, h.length = 32) (hn : l.length ≤ 1000) (p5 : List Int) (h5 : p5.length ≤ 100000) (p6 : List (List (List Int))) : L_74_1 4611686018427387904 p0 p1 l l.length 0 p5 p6 = some (.e0 p0 p1 (p5 ++ Sp.cws l) p6) := by
 have := run0 (fun m i s => L_74_1 m p0 p1 l l.length i s p6) (n := l.length) (fun j => p5 ++ Sp.cws (l.take j)) (r := some (.e0 p0 p1 (p5 ++ Sp.cws l) p6)) (by omega) (fun m j hj => by
   have hg : (l.getD j h0).length = 32 := by rw [getD_at _ hj]; exact hl _ (List.getElem_mem hj)
   have hc : (Sp.cws (l.take j)).length ≤ 8000 := by rw [cws_len, List.length_take]; omega
   show L_74_1 (m + 1) p0 p1 l l.length j (p5 ++ Sp.cws (l.take j)) p6 = _
   rw [L_74_1, S_74_1, cond_dtt (by omega), gd_inB (by omega) (by omega), Int.toNat_natCast, hloop _ hg _ _ _ _ _ _ (by rw [List.length_append]; omega)]
   simp only [B_74_2]
   rw [wi64 (by omega) (by omega), cws_succ l j hj, List.append_assoc]
   rfl) (fun m => by
   show L_74_1 (m + 1) p0 p1 l l.length l.length (p5 ++ Sp.cws (l.take l.length)) p6 = _
   rw [L_74_1, S_74_1, cond_dff (by omega), List.take_length])
 simpa [Sp.cws] using this
theorem words_ok (s : SigT) (h1 : ∀ h ∈ s.2.1, h.length = 32) (h2 : ∀ h ∈ s.2.2.1, h.length = 32) : F_74 s = some (if Sp.shp s = true then (Sp.wordsF s, 0, ()) else ([], 1, ())) := by
 have a := pv_85 _ (shp_ok s)
 unfold F_74
 rw [a.1, a.2, gd_tt]
 cases hs : Sp.shp s
 · rfl
 · obtain ⟨_, _, h3, h4⟩ : 0 ≤ s.1 ∧ s.1 < 4 ∧ s.2.1.length = 67 ∧ s.2.2.1.length = 2 := by
     simp only [Sp.shp, Bool.and_eq_true, decide_eq_true_eq, beq_iff_eq] at hs
     omega
   have l1 := cws_len s.2.1
   simp only [Bool.not_true, cond_f, if_true]
   have e0 : L_74_0 4611686018427387904 ((2 : Nat) : Int) 0 [wrap .u32 s.1] [s.2.1, s.2.2.1] = some (.e0 (Sp.wordsF s)) := by
     show L_74_0 (4611686018427387901 + 1 + 1 + 1) ((2 : Nat) : Int) 0 [wrap .u32 s.1] [s.2.1, s.2.2.1] = _
     rw [L_74_0, S_74_0, cond_dtt (by decide), gd_inB (by simp) (by simp)]
     simp only [Int.toNat_zero, List.getD_cons_zero, List.length_cons, List.length_nil, Nat.zero_add]
     rw [Bool.and_true, gd_dec (by decide), cloop _ _ _ h1 (by omega) _ (by simp)]
     simp only [B_74_1]
     rw [show wrap .i64 (0 + 1) = 1 from by decide, L_74_0, S_74_0, cond_dtt (by decide), gd_inB (by simp) (by simp)]
     simp only [show toNat 1 = 1 from rfl, List.getD_cons_succ, List.getD_cons_zero, List.length_cons, List.length_nil]
     rw [Bool.and_true, gd_dec (by decide), cloop _ _ _ h2 (by omega) _ (by rw [List.length_append, l1, List.length_singleton]; omega)]
     simp only [B_74_1]
     rw [show wrap .i64 (1 + 1) = 2 from by decide, L_74_0, S_74_0, cond_dff (by decide)]
     rfl
   rw [e0]
   rfl
set_option maxRecDepth 100000
set_option maxHeartbeats 4000000
abbrev HdrT := Int × Int × List Int × SigT × Unit
abbrev DlT := Int × Int × Int × HdrT × Unit
/-- The hashes of a header have 32 bytes. -/
structure H32 (h : HdrT) : Prop where
 d : h.2.2.1.length = 32
 c : ∀ x ∈ h.2.2.2.1.2.1, x.length = 32
 p : ∀ x ∈ h.2.2.2.1.2.2.1, x.length = 32
namespace Sp
noncomputable def z32 : List Int := replicate 32 0
noncomputable def zsg (s : SigT) : Bool := s.1 == 0 && (s.2.1.length == 0 && s.2.2.1.length == 0)
noncomputable def zhd (h : HdrT) : Bool := h.1 == 0 && (h.2.1 == 0 && (h.2.2.1 == z32 && zsg h.2.2.2.1))
noncomputable def zdl (d : DlT) : Bool := d.1 == 0 && (d.2.1 == 0 && (d.2.2.1 == 0 && zhd d.2.2.2.1))
noncomputable def rgt (h : HdrT) (n : Int) : Bool := decide (1 ≤ h.1) && (decide (h.1 ≤ 2147483647) && (decide (1 ≤ h.2.1) && (decide (h.2.1 ≤ n) && shp h.2.2.2.1)))
noncomputable def vst (d : DlT) : Bool := bif d.1 == 1 then decide (0 ≤ d.2.2.1) && (decide (d.2.2.1 < d.2.2.2.1.2.1) && Int.tmod d.2.2.1 32 == 0) else bif d.1 == 2 then d.2.2.1 == d.2.2.2.1.2.1 else false
noncomputable def vdl (d : DlT) : Bool := zdl d || ((d.2.1 == 0 || d.2.1 == 1) && (rgt d.2.2.2.1 1484 && vst d))
end Sp
theorem zero_ok (d : DlT) : F_37 d = some (Sp.zdl d, ()) := by
 unfold F_37 Sp.zdl Sp.zhd Sp.zsg
 have e : ∀ (l : List (List Int)), ((l.length : Int) == 0) = (l.length == 0) := fun l => by
   rw [Bool.eq_iff_iff, beq_iff_eq, beq_iff_eq]; omega
 rw [e, e]
 show _ = some (_, ())
 have hb : Ty.beq (.arr 32 (.int .u8)) d.2.2.2.1.2.2.1 (replicate 32 0) = (d.2.2.2.1.2.2.1 == Sp.z32) := rfl
 rw [hb]
 cases d.1 == 0 <;> cases d.2.1 == 0 <;> cases d.2.2.1 == 0 <;> cases d.2.2.2.1.1 == 0 <;> cases d.2.2.2.1.2.1 == 0 <;> cases d.2.2.2.1.2.2.1 == Sp.z32 <;> cases d.2.2.2.1.2.2.2.1.1 == 0 <;> cases d.2.2.2.1.2.2.2.1.2.1.length == 0 <;> rfl
theorem right_ok {h : HdrT} (hh : H32 h) (n : Int) : F_38 h n = some (Sp.rgt h n, ()) := by
 have w := pv_74 _ (words_ok h.2.2.2.1 hh.c hh.p)
 unfold F_38 Sp.rgt
 rw [w.1, w.2, gd_tt]
 have e : ((if Sp.shp h.2.2.2.1 = true then (Sp.wordsF h.2.2.2.1, 0, ()) else (([] : List Int), (1 : Int), ())).2.1 == 0) = Sp.shp h.2.2.2.1 := by
   cases Sp.shp h.2.2.2.1 <;> rfl
 rw [e]
 show (bif decide (1 ≤ h.1) then bif decide (h.1 ≤ 2147483647) then bif decide (1 ≤ h.2.1) then bif decide (h.2.1 ≤ n) then some (Sp.shp h.2.2.2.1, ()) else some (false, ()) else some (false, ()) else some (false, ()) else some (false, ())) = _
 cases decide (1 ≤ h.1) <;> cases decide (h.1 ≤ 2147483647) <;> cases decide (1 ≤ h.2.1) <;> cases decide (h.2.1 ≤ n) <;> rfl
theorem header_ok (h : HdrT) (n : Int) : F_39 h n = some (Sp.rgt h n, ()) := by
 have w := pv_56 _ (rshp_ok h.2.2.2.1)
 unfold F_39 Sp.rgt
 rw [w.1, w.2, gd_tt, show decide (h.1 < 2147483648) = decide (h.1 ≤ 2147483647) from decide_eq_decide.2 (by omega)]
 show (bif decide (1 ≤ h.1) then bif decide (h.1 ≤ 2147483647) then bif decide (1 ≤ h.2.1) then bif decide (h.2.1 ≤ n) then some (Sp.shp h.2.2.2.1, ()) else some (false, ()) else some (false, ()) else some (false, ()) else some (false, ())) = _
 cases decide (1 ≤ h.1) <;> cases decide (h.1 ≤ 2147483647) <;> cases decide (1 ≤ h.2.1) <;> cases decide (h.2.1 ≤ n) <;> rfl
/-- Equality with a signature without hashes. -/
theorem ssame0 (s : SigT) : F_73 s (0, [], [], ()) = some (Sp.zsg s, ()) := by
 unfold F_73 Sp.zsg
 show (bif s.1 != 0 then some (false, ()) else bif (s.2.1.length : Int) != 0 then some (false, ()) else bif (s.2.2.1.length : Int) != 0 then some (false, ()) else _) = _
 by_cases h1 : s.1 = 0
 rotate_left
 · rw [cond_ntt h1, beq_eq_false_iff_ne.2 h1]; rfl
 rw [cond_nff h1, beq_iff_eq.2 h1, Bool.true_and]
 by_cases h2 : s.2.1.length = 0
 rotate_left
 · rw [cond_ntt (by omega), beq_eq_false_iff_ne.2 h2]; rfl
 rw [cond_nff (by omega), beq_iff_eq.2 h2, Bool.true_and]
 by_cases h3 : s.2.2.1.length = 0
 rotate_left
 · rw [cond_ntt (by omega), beq_eq_false_iff_ne.2 h3]
 rw [cond_nff (by omega), beq_iff_eq.2 h3]
 have l0 : L_73_0 4611686018427387904 0 s (0, [], [], ()) = some (.e1 s (0, [], [], ())) := by
   show L_73_0 (4611686018427387903 + 1) 0 s (0, [], [], ()) = _
   rw [L_73_0, S_73_0, cond_dff (by omega)]
 have l1 : L_73_1 4611686018427387904 0 s (0, [], [], ()) = some .e1 := by
   show L_73_1 (4611686018427387903 + 1) 0 s (0, [], [], ()) = _
   rw [L_73_1, S_73_1, cond_dff (by omega)]
 rw [l0]
 simp only [B_73_0]
 rw [l1]
 rfl
theorem hsame0 (h : HdrT) : F_36 h (0, 0, replicate 32 0, (0, [], [], ()), ()) = some (Sp.zhd h, ()) := by
 have s := pv_73 _ _ (ssame0 h.2.2.2.1)
 unfold F_36 Sp.zhd
 show (bif h.1 == 0 then bif h.2.1 == 0 then bif h.2.2.1 == Sp.z32 then gd (p_73 h.2.2.2.1 (0, [], [], ())) (some ((v_73 h.2.2.2.1 (0, [], [], ())).1, ())) else some (false, ()) else some (false, ()) else some (false, ())) = _
 rw [s.1, s.2, gd_tt]
 cases h.1 == 0 <;> cases h.2.1 == 0 <;> cases h.2.2.1 == Sp.z32 <;> rfl
theorem rzero_ok (d : DlT) : F_10 d = some (Sp.zdl d, ()) := by
 have s := pv_36 _ _ (hsame0 d.2.2.2.1)
 unfold F_10 Sp.zdl
 rw [s.1, s.2, gd_tt]
 cases d.1 == 0 <;> cases d.2.1 == 0 <;> cases d.2.2.1 == 0 <;> rfl
theorem valid_ok {d : DlT} (hh : H32 d.2.2.2.1) : F_13 d = some (Sp.vdl d, ()) := by
 have z := pv_37 _ (zero_ok d)
 have r := pv_38 _ _ (right_ok hh 1484)
 unfold F_13 Sp.vdl Sp.vst
 rw [z.1, z.2, gd_tt, r.1, r.2, gd_tt]
 dsimp only
 cases Sp.zdl d
 rotate_left
 · rfl
 unfold J_13_0 S_13_0
 have e0 : (d.2.1 != 0) = !(d.2.1 == 0) := rfl
 have e1 : (d.2.1 != 1) = !(d.2.1 == 1) := rfl
 rw [e0, e1]
 show (bif !(d.2.1 == 0) then _ else _) = _
 generalize Sp.rgt d.2.2.2.1 1484 = g
 have e2 : decide (d.2.2.1 ≥ 0) = decide (0 ≤ d.2.2.1) := rfl
 rw [e2]
 by_cases s1 : d.1 = 1
 · rw [s1]
   cases d.2.1 == 0 <;> cases d.2.1 == 1 <;> cases g <;> cases decide (0 ≤ d.2.2.1) <;> cases decide (d.2.2.1 < d.2.2.2.1.2.1) <;> rfl
 · rw [beq_eq_false_iff_ne.2 s1]
   by_cases s2 : d.1 = 2
   · rw [beq_iff_eq.2 s2]
     cases d.2.1 == 0 <;> cases d.2.1 == 1 <;> cases g <;> rfl
   · rw [beq_eq_false_iff_ne.2 s2]
     cases d.2.1 == 0 <;> cases d.2.1 == 1 <;> cases g <;> rfl
theorem rvalid_ok (d : DlT) : F_14 d = some (Sp.vdl d, ()) := by
 have z := pv_10 _ (rzero_ok d)
 have r := pv_39 _ _ (header_ok d.2.2.2.1 1484)
 unfold F_14 Sp.vdl Sp.vst
 rw [z.1, z.2, r.1, r.2, gd_tt, gd_tt]
 dsimp only
 by_cases s0 : d.1 = 0
 · rw [beq_iff_eq.2 s0, cond_t, s0]
   cases Sp.zdl d <;> cases d.2.1 == 0 <;> cases d.2.1 == 1 <;> cases Sp.rgt d.2.2.2.1 1484 <;> rfl
 have hz : Sp.zdl d = false := by unfold Sp.zdl; rw [beq_eq_false_iff_ne.2 s0]; rfl
 rw [hz, beq_eq_false_iff_ne.2 s0, cond_f]
 unfold J_14_0 S_14_0
 have e0 : (d.2.1 != 0) = !(d.2.1 == 0) := rfl
 have e1 : (d.2.1 != 1) = !(d.2.1 == 1) := rfl
 rw [e0, e1]
 generalize Sp.rgt d.2.2.2.1 1484 = g
 have e2 : decide (d.2.2.1 ≥ 0) = decide (0 ≤ d.2.2.1) := rfl
 rw [e2]
 by_cases s1 : d.1 = 1
 · rw [s1]
   cases d.2.1 == 0 <;> cases d.2.1 == 1 <;> cases g <;> cases decide (0 ≤ d.2.2.1) <;> cases decide (d.2.2.1 < d.2.2.2.1.2.1) <;> rfl
 · rw [beq_eq_false_iff_ne.2 s1]
   by_cases s2 : d.1 = 2
   · rw [beq_iff_eq.2 s2]
     cases d.2.1 == 0 <;> cases d.2.1 == 1 <;> cases g <;> rfl
   · rw [beq_eq_false_iff_ne.2 s2]
     cases d.2.1 == 0 <;> cases d.2.1 == 1 <;> cases g <;> rfl
set_option maxRecDepth 100000
set_option maxHeartbeats 4000000
theorem aw : F_8 = some (true, ()) := by kernel_rfl
theorem aw_pv : p_8 = true ∧ v_8 = (true, ()) := pv_8 aw
theorem odd_pv (h : HdrT) : p_9 h = true ∧ v_9 h = (decide ((h.2.2.2.1.2.1.length : Int) > 100) || decide ((h.2.2.2.1.2.2.1.length : Int) > 100), ()) := by
 refine pv_9 h ?_
 unfold F_9
 cases decide ((h.2.2.2.1.2.1.length : Int) > 100) <;> rfl
theorem h32 {h : HdrT} (w : wfD (.pair (.int .i64) (.pair (.int .i64) (.pair (.arr 32 (.int .u8)) (.pair (.pair (.int .i64) (.pair (.slice (.arr 32 (.int .u8))) (.pair (.slice (.arr 32 (.int .u8))) .unit))) .unit)))) h) : H32 h :=
 ⟨w.2.2.1.1, fun x hx => (w.2.2.2.1.2.1 x hx).1, fun x hx => (w.2.2.2.1.2.2.1 x hx).1⟩
theorem plain_3 (d : DlT) (w : wfD (.pair (.int .i64) (.pair (.int .i64) (.pair (.int .i64) (.pair (.pair (.int .i64) (.pair (.int .i64) (.pair (.arr 32 (.int .u8)) (.pair (.pair (.int .i64) (.pair (.slice (.arr 32 (.int .u8))) (.pair (.slice (.arr 32 (.int .u8))) .unit))) .unit)))) .unit)))) d) : F_3 d = some true := by
 have hh := h32 w.2.2.2.1
 have o := odd_pv d.2.2.2.1
 have n0 : p_11 = true ∧ v_11 = ((0, 0, 0, (0, 0, replicate 32 0, (0, [], [], ()), ()), ()), ()) := pv_11 rfl
 have c0 : p_12 d = true ∧ v_12 d = ((0, 0, 0, (0, 0, replicate 32 0, (0, [], [], ()), ()), ()), ()) := pv_12 d rfl
 have z := pv_10 _ (rzero_ok (0, 0, 0, (0, 0, replicate 32 0, (0, [], [], ()), ()), ()))
 have v := pv_13 _ (valid_ok hh)
 have rv := pv_14 _ (rvalid_ok d)
 unfold F_3
 rw [aw_pv.1, aw_pv.2, gd_tt, o.1, o.2, gd_tt, n0.1, n0.2, gd_tt, c0.1, c0.2, gd_tt, z.1, z.2, gd_tt, v.1, v.2, gd_tt, rv.1, rv.2, gd_tt]
 dsimp only
 rw [show Sp.zdl (0, 0, 0, (0, 0, replicate 32 0, (0, [], [], ()), ()), ()) = true from by decide]
 generalize (decide ((d.2.2.2.1.2.2.2.1.2.1.length : Int) > 100) || decide ((d.2.2.2.1.2.2.2.1.2.2.1.length : Int) > 100)) = b
 cases b <;> cases Sp.vdl d <;> rfl
end Go.Ev
