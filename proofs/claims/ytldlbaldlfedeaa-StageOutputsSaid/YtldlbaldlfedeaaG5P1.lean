/- Helpers: functions of the program as Lean functions, and what they compute. No condition. -/
import Derived.Test.YtldlbaldlfedeaaEvPart3
import Derived.Test.YtldlbaldlfedeaaG5P0
import Derived.Test.YtldlbaldlfedeaaEvPart2
set_option maxRecDepth 10000
set_option linter.unusedVariables false
set_option linter.unusedSimpArgs false
set_option linter.unusedSimpArgs false
set_option linter.unusedVariables false
namespace Go.Ev
open Go
set_option maxRecDepth 100000
set_option maxHeartbeats 4000000
abbrev SwT := Int × Int × Bool × PUnit
abbrev StT := Bool × Int × Int × PUnit
namespace Sp
def tim (t : Int) : Bool := decide (0 ≤ t) && decide (t ≤ 1099511627776)
def stv (s : StT) : Bool := decide (0 ≤ s.2.1) && (decide (s.2.1 ≤ 3) && ((s.1 == (s.2.1 == 0)) && tim s.2.2.1))
def prv (l : List SwT) (j : Nat) : Int := if j = 0 then 0 else (l.getD (j - 1) (Ty.dflt (.pair (.int .i64) (.pair (.int .i64) (.pair .bool .unit))))).1
def okA (l : List SwT) (j : Nat) : Bool := tim (l.getD j (Ty.dflt (.pair (.int .i64) (.pair (.int .i64) (.pair .bool .unit))))).1 && (decide (prv l j ≤ (l.getD j (Ty.dflt (.pair (.int .i64) (.pair (.int .i64) (.pair .bool .unit))))).1) && (decide (0 ≤ (l.getD j (Ty.dflt (.pair (.int .i64) (.pair (.int .i64) (.pair .bool .unit))))).2.1) && decide ((l.getD j (Ty.dflt (.pair (.int .i64) (.pair (.int .i64) (.pair .bool .unit))))).2.1 < 16)))
def lst (l : List SwT) : Bool := decide (l.length ≤ 1000) && (List.range l.length).all (okA l)
def keep (s : StT) (x : SwT) : Bool := s.1 || !x.2.2.1
def out1 (c : Int) (u : Int) (b : Bool) (x : SwT) : Bool := bif (x.2.1 == c) && decide (x.1 ≤ u) then x.2.2.1 else b
def outF (c : Int) (l : List SwT) (u : Int) : Bool := l.foldl (out1 c u) false
end Sp
theorem tim_ok (t : Int) : F_26 t = some (Sp.tim t, ()) := by
  unfold F_26 Sp.tim
  grind
theorem tim_pv (t : Int) : Sp.p_26 t = true ∧ Sp.v_26 t = (Sp.tim t, ()) := pv_26 t (tim_ok t)
theorem stv_ok (s : StT) : F_10 s = some (Sp.stv s, ()) := by
  unfold F_10 Sp.stv
  rw [(tim_pv _).1, (tim_pv _).2, gd_tt]
  grind
theorem rstv_ok (s : StT) : F_11 s = some (Sp.stv s, ()) := by
  unfold F_11 Sp.stv Sp.tim
  grind
theorem stv_pv (s : StT) : Sp.p_10 s = true ∧ Sp.v_10 s = (Sp.stv s, ()) := pv_10 s (stv_ok s)
theorem rstv_pv (s : StT) : Sp.p_11 s = true ∧ Sp.v_11 s = (Sp.stv s, ()) := pv_11 s (rstv_ok s)
theorem lst_ok (l : List SwT) : F_32 l = some (Sp.lst l, ()) := by
  unfold F_32 Sp.lst
  by_cases h : (l.length : Int) > 1000
  · rw [cond_dtt h, decide_eq_false (by omega)]; rfl
  · rw [cond_dff h, decide_eq_true (by omega), Bool.true_and]
    have := all0 (fun m i => Sp.L_32_0 m (Sp.prv l i.toNat) l l.length i) (n := l.length) (Sp.okA l) (e0 := some .e0) (e1 := some .e1) (by omega) (fun m j hj => by
      show Sp.L_32_0 (m + 1) (Sp.prv l (Int.toNat j)) l l.length j = bif Sp.okA l j then Sp.L_32_0 m (Sp.prv l (Int.toNat ((j + 1 : Nat) : Int))) l l.length ((j + 1 : Nat) : Int) else some .e0
      rw [Sp.L_32_0, cond_dtt (by omega), gd_inB (by omega) (by omega), (tim_pv _).1, (tim_pv _).2, gd_tt, Int.toNat_natCast, Int.toNat_natCast, wi64 (by omega) (by omega)]
      have e : Sp.prv l (j + 1) = (l.getD j (Ty.dflt (.pair (.int .i64) (.pair (.int .i64) (.pair .bool .unit))))).1 := by simp [Sp.prv]
      rw [e]
      unfold Sp.okA
      dsimp only
      push_cast
      grind) (fun m => by
      show Sp.L_32_0 (m + 1) _ l l.length l.length = _
      rw [Sp.L_32_0, cond_dff (by omega)])
    have e0 : Sp.L_32_0 4611686018427387904 0 l l.length 0 = _ := this
    rw [e0]
    cases (List.range l.length).all (Sp.okA l) <;> rfl
theorem rlst_ok (l : List SwT) : F_18 l = some (Sp.lst l, ()) := by
  unfold F_18 Sp.lst
  by_cases h : (l.length : Int) > 1000
  · rw [cond_dtt h, decide_eq_false (by omega)]; rfl
  · rw [cond_dff h, decide_eq_true (by omega), Bool.true_and]
    have := all0 (fun m i => Sp.L_18_0 m l i) (n := l.length) (Sp.okA l) (e0 := some .e0) (e1 := some .e1) (by omega) (fun m j hj => by
      show Sp.L_18_0 (m + 1) l j = bif Sp.okA l j then Sp.L_18_0 m l ((j + 1 : Nat) : Int) else some .e0
      rw [Sp.L_18_0, cond_dtt (by omega)]
      simp only [gd_inB (show (0 : Int) ≤ (j : Int) by omega) (show (j : Int) < (l.length : Nat) by omega), Int.toNat_natCast, wi64 (n := (j : Int) + 1) (by omega) (by omega)]
      unfold Sp.okA Sp.prv Sp.tim
      by_cases h0 : j = 0
      · subst h0
        grind
      · rw [cond_dtt (x := gd _ _) (by omega), wi64 (n := (j : Int) - 1) (by omega) (by omega), gd_inB (by omega) (by omega), show ((j : Int) - 1).toNat = j - 1 by omega, if_neg h0]
        push_cast
        grind) (fun m => by
      show Sp.L_18_0 (m + 1) l l.length = _
      rw [Sp.L_18_0, cond_dff (by omega)])
    rw [this]
    cases (List.range l.length).all (Sp.okA l) <;> rfl
theorem lst_pv (l : List SwT) : Sp.p_32 l = true ∧ Sp.v_32 l = (Sp.lst l, ()) := pv_32 l (lst_ok l)
theorem rlst_pv (l : List SwT) : Sp.p_18 l = true ∧ Sp.v_18 l = (Sp.lst l, ()) := pv_18 l (rlst_ok l)
theorem lst_len {l : List SwT} (h : Sp.lst l = true) : l.length ≤ 1000 := by
  simp only [Sp.lst, Bool.and_eq_true, decide_eq_true_eq] at h
  exact h.1
theorem lst_ch {l : List SwT} (h : Sp.lst l = true) {j : Nat} (hj : j < l.length) : 0 ≤ (l.getD j (Ty.dflt (.pair (.int .i64) (.pair (.int .i64) (.pair .bool .unit))))).2.1 ∧ (l.getD j (Ty.dflt (.pair (.int .i64) (.pair (.int .i64) (.pair .bool .unit))))).2.1 < 16 := by
  simp only [Sp.lst, Bool.and_eq_true, decide_eq_true_eq, List.all_eq_true, List.mem_range] at h
  have := h.2 j hj
  simp only [Sp.okA, Bool.and_eq_true, decide_eq_true_eq] at this
  exact this.2.2
end Go.Ev
set_option linter.unusedSimpArgs false
set_option linter.unusedVariables false
namespace Go.Ev
open Go
set_option maxRecDepth 100000
set_option maxHeartbeats 4000000
theorem take_snoc {α : Type} (d : α) {l : List α} {j : Nat} (h : j < l.length) : l.take (j + 1) = l.take j ++ [l.getD j d] := by
  rw [List.take_succ_eq_append_getElem h, getD_at d h]
theorem filt_snoc (p : SwT → Bool) {l : List SwT} {j : Nat} (h : j < l.length) : (l.take (j + 1)).filter p = (l.take j).filter p ++ (bif p (l.getD j (Ty.dflt (.pair (.int .i64) (.pair (.int .i64) (.pair .bool .unit))))) then [l.getD j (Ty.dflt (.pair (.int .i64) (.pair (.int .i64) (.pair .bool .unit))))] else []) := by
  rw [take_snoc (Ty.dflt (.pair (.int .i64) (.pair (.int .i64) (.pair .bool .unit)))) h, List.filter_append]
  generalize l.getD j (Ty.dflt (.pair (.int .i64) (.pair (.int .i64) (.pair .bool .unit)))) = x
  cases hp : p x <;> simp [List.filter_cons, hp]
/-- The reference's list. -/
theorem rpass_ok (s : StT) (l : List SwT) (hn : l.length ≤ 1000) : F_20 s l = some (l.filter (Sp.keep s), ()) := by
  have := run0 (fun m i t => Sp.L_20_0 m l i s t) (n := l.length) (fun j => (l.take j).filter (Sp.keep s)) (r := some (.e0 (l.filter (Sp.keep s)))) (by omega) (fun m j hj => by
    have hl : ((l.take j).filter (Sp.keep s)).length ≤ 1000 := Nat.le_trans (List.length_filter_le _ _) (by rw [List.length_take]; omega)
    show Sp.L_20_0 (m + 1) l j s ((l.take j).filter (Sp.keep s)) = Sp.L_20_0 m l ((j + 1 : Nat) : Int) s ((l.take (j + 1)).filter (Sp.keep s))
    rw [filt_snoc _ hj]
    unfold Sp.keep at *
    rw [Sp.L_20_0, cond_dtt (by omega)]
    simp only [gd_inB (show (0 : Int) ≤ (j : Int) by omega) (show (j : Int) < ((l.length : Nat) : Int) by omega), gd_room (show (List.length (List.filter (fun x => s.1 || !x.2.2.1) (List.take j l)) + 1) * 24 ≤ 140737488355328 by omega) (by omega), Int.toNat_natCast, wi64 (n := (j : Int) + 1) (by omega) (by omega)]
    push_cast
    generalize l.getD j (Ty.dflt (.pair (.int .i64) (.pair (.int .i64) (.pair .bool .unit)))) = x
    cases h1 : s.1 <;> cases h2 : x.2.2.1 <;> simp) (fun m => by
    show Sp.L_20_0 (m + 1) l l.length s ((l.take l.length).filter (Sp.keep s)) = _
    rw [Sp.L_20_0, cond_dff (by omega), List.take_length])
  have e : Sp.L_20_0 4611686018427387904 l 0 s [] = _ := this
  unfold F_20
  rw [e]
  rfl
theorem df_loop (s : StT) (l : List SwT) (hn : l.length ≤ 1000) : ∀ (d m j i : Nat) (t : List SwT), j + d = l.length → d < m → t.length = l.length → i ≤ j → t.take i = (l.take j).filter (Sp.keep s) → t.drop j = l.drop j →
    ∃ t' : List SwT, Sp.L_16_33_0_0 m (i : Int) (j : Int) s t = some (.e0 ((l.filter (Sp.keep s)).length : Int) s t') ∧ t'.length = l.length ∧ t'.take (l.filter (Sp.keep s)).length = l.filter (Sp.keep s)
  | 0, m + 1, j, i, t, hj, _, hl, hi, h1, h2 => by
    have hj : j = l.length := by omega
    subst hj
    rw [List.take_length] at h1
    have hil : i = (l.filter (Sp.keep s)).length := by
      have := congrArg List.length h1
      rw [List.length_take] at this
      omega
    refine ⟨t, ?_, hl, by rw [← hil]; exact h1⟩
    rw [Sp.L_16_33_0_0, cond_dff (by omega), hil]
  | d + 1, m + 1, j, i, t, hj, hm, hl, hi, h1, h2 => by
    have hjl : j < l.length := by omega
    have hx : t.getD j (Ty.dflt (.pair (.int .i64) (.pair (.int .i64) (.pair .bool .unit)))) = l.getD j (Ty.dflt (.pair (.int .i64) (.pair (.int .i64) (.pair .bool .unit)))) := by
      have a : (t.drop j).getD 0 (Ty.dflt (.pair (.int .i64) (.pair (.int .i64) (.pair .bool .unit)))) = (l.drop j).getD 0 (Ty.dflt (.pair (.int .i64) (.pair (.int .i64) (.pair .bool .unit)))) := by rw [h2]
      simpa [List.getD_eq_getElem?_getD] using a
    have hd : t.drop (j + 1) = l.drop (j + 1) := by
      have := congrArg (List.drop 1) h2
      simpa [List.drop_drop, Nat.add_comm] using this
    have hk : ∀ t2 : List SwT, t2.length = t.length → t2.take (i + 1) = t.take i ++ [l.getD j (Ty.dflt (.pair (.int .i64) (.pair (.int .i64) (.pair .bool .unit))))] → t2.drop (j + 1) = t.drop (j + 1) → Sp.keep s (l.getD j (Ty.dflt (.pair (.int .i64) (.pair (.int .i64) (.pair .bool .unit))))) = true →
        ∃ t' : List SwT, Sp.L_16_33_0_0 m ((i : Int) + 1) ((j : Int) + 1) s t2 = some (.e0 ((l.filter (Sp.keep s)).length : Int) s t') ∧ t'.length = l.length ∧ t'.take (l.filter (Sp.keep s)).length = l.filter (Sp.keep s) := by
      intro t2 a1 a2 a3 a4
      have := df_loop s l hn d m (j + 1) (i + 1) t2 (by omega) (by omega) (by omega) (by omega) (by rw [a2, filt_snoc _ hjl, a4, h1]; rfl) (by rw [a3, hd])
      simpa using this
    have hs : Sp.keep s (l.getD j (Ty.dflt (.pair (.int .i64) (.pair (.int .i64) (.pair .bool .unit))))) = false → ∃ t' : List SwT, Sp.L_16_33_0_0 m (i : Int) ((j : Int) + 1) s t = some (.e0 ((l.filter (Sp.keep s)).length : Int) s t') ∧ t'.length = l.length ∧ t'.take (l.filter (Sp.keep s)).length = l.filter (Sp.keep s) := by
      intro a4
      have := df_loop s l hn d m (j + 1) i t (by omega) (by omega) (by omega) (by omega) (by rw [filt_snoc _ hjl, a4, h1]; simp) hd
      simpa using this
    have hset : (t.set i (l.getD j (Ty.dflt (.pair (.int .i64) (.pair (.int .i64) (.pair .bool .unit)))))).take (i + 1) = t.take i ++ [l.getD j (Ty.dflt (.pair (.int .i64) (.pair (.int .i64) (.pair .bool .unit))))] ∧ (t.set i (l.getD j (Ty.dflt (.pair (.int .i64) (.pair (.int .i64) (.pair .bool .unit)))))).drop (j + 1) = t.drop (j + 1) := by
      have hit : i < t.length := by omega
      constructor
      · rw [List.take_succ_eq_append_getElem (by simpa using hit), List.take_set_of_le (by omega)]
        simp
      · rw [List.drop_set_of_lt (by omega)]
    rw [Sp.L_16_33_0_0, cond_dtt (by omega), gd_inB (by omega) (by omega), gd_inB (by omega) (by omega), Int.toNat_natCast, Int.toNat_natCast, hx, Bool.and_true, Bool.and_true, Bool.and_true, gd_dec (by omega), gd_dec (by omega), wi64 (n := (j : Int) + 1) (by omega) (by omega), wi64 (n := (i : Int) + 1) (by omega) (by omega)]
    have hkv : Sp.keep s (l.getD j (Ty.dflt (.pair (.int .i64) (.pair (.int .i64) (.pair .bool .unit))))) = (s.1 || !(l.getD j (Ty.dflt (.pair (.int .i64) (.pair (.int .i64) (.pair .bool .unit))))).2.2.1) := rfl
    cases h5 : s.1 <;> cases h6 : (l.getD j (Ty.dflt (.pair (.int .i64) (.pair (.int .i64) (.pair .bool .unit))))).2.2.1
    · simp only [cond_f]
      exact hk _ (by simp) hset.1 hset.2 (by rw [hkv, h5, h6]; rfl)
    · simp only [cond_t, cond_f, Bool.not_true, Bool.not_false]
      exact hs (by rw [hkv, h5, h6]; rfl)
    · simp only [cond_f]
      exact hk _ (by simp) hset.1 hset.2 (by rw [hkv, h5, h6]; rfl)
    · simp only [cond_t, Bool.not_true, Bool.not_false]
      exact hk _ (by simp) hset.1 hset.2 (by rw [hkv, h5, h6]; rfl)
theorem over_take (t : List SwT) (i n : Nat) (z : List SwT) (hi : i ≤ t.length) : (over t i z).take i = t.take i := by
  unfold over
  rw [List.append_assoc, List.take_append_of_le_length (by rw [List.length_take]; omega), List.take_take, Nat.min_self]
theorem over_length (t : List SwT) (i : Nat) (z : List SwT) (h : i + z.length ≤ t.length) : (over t i z).length = t.length := by
  unfold over
  simp only [List.length_append, List.length_take, List.length_drop]
  omega
theorem pass_ok (s : StT) (l : List SwT) : F_16 s l = some (if Sp.stv s = true ∧ Sp.lst l = true then (l.filter (Sp.keep s), 0, ()) else ([], 1, ())) := by
  unfold F_16
  rw [(stv_pv s).1, (stv_pv s).2, gd_tt, (lst_pv l).1, (lst_pv l).2, gd_tt]
  cases hs : Sp.stv s
  · rfl
  cases hl : Sp.lst l
  · rfl
  have hn := lst_len hl
  simp only [Bool.not_true, cond_f, and_self, if_true]
  rw [gd_room (by omega) (by omega)]
  have hf := find0 (fun m i => Sp.L_16_37_0_0 m l.length i s l) (n := l.length) (fun j => !Sp.keep s (l.getD j (Ty.dflt (.pair (.int .i64) (.pair (.int .i64) (.pair .bool .unit)))))) (ex := fun j => some (.e0 (j : Int) s l)) (e1 := some (.e1 s l)) (by omega) (fun m j hj => by
    show Sp.L_16_37_0_0 (m + 1) l.length j s l = bif !Sp.keep s (l.getD j (Ty.dflt (.pair (.int .i64) (.pair (.int .i64) (.pair .bool .unit))))) then some (.e0 (j : Int) s l) else Sp.L_16_37_0_0 m l.length ((j + 1 : Nat) : Int) s l
    rw [Sp.L_16_37_0_0, cond_dtt (by omega), gd_inB (by omega) (by omega), Int.toNat_natCast, Bool.and_true, gd_dec (by omega), wi64 (by omega) (by omega)]
    unfold Sp.keep
    push_cast
    cases s.1 <;> cases (l.getD j (Ty.dflt (.pair (.int .i64) (.pair (.int .i64) (.pair .bool .unit))))).2.2.1 <;> rfl) (fun m => by
    show Sp.L_16_37_0_0 (m + 1) l.length l.length s l = _
    rw [Sp.L_16_37_0_0, cond_dff (by omega)])
  rw [hf]
  cases hk : fnd (fun j => !Sp.keep s (l.getD j (Ty.dflt (.pair (.int .i64) (.pair (.int .i64) (.pair .bool .unit)))))) l.length 0 with
  | none =>
    have hall := fnd_none.1 hk
    have e : l.filter (Sp.keep s) = l := by
      rw [List.filter_eq_self]
      intro x hx
      obtain ⟨j, hj, rfl⟩ := List.getElem_of_mem hx
      have := hall j (by omega) (by omega)
      rw [getD_at (Ty.dflt (.pair (.int .i64) (.pair (.int .i64) (.pair .bool .unit)))) hj] at this
      simpa using this
    simp only [Sp.B_16_37_0_0, e]
  | some k =>
    obtain ⟨_, h2, h3, h4⟩ := fnd_some hk
    have h2 : k < l.length := by omega
    have hpre : (l.take (k + 1)).filter (Sp.keep s) = l.take k := by
      rw [filt_snoc _ h2]
      have h3' : Sp.keep s (l.getD k (Ty.dflt (.pair (.int .i64) (.pair (.int .i64) (.pair .bool .unit))))) = false := by simpa using h3
      rw [h3', cond_false, List.append_nil, List.filter_eq_self]
      intro x hx
      obtain ⟨j, hj, rfl⟩ := List.getElem_of_mem hx
      have hj' : j < k := by rw [List.length_take] at hj; omega
      have := h4 j (by omega) hj'
      rw [getD_at (Ty.dflt (.pair (.int .i64) (.pair (.int .i64) (.pair .bool .unit)))) (by omega)] at this
      simpa using this
    obtain ⟨t', e1, e2, e3⟩ := df_loop s l hn (l.length - (k + 1)) 4611686018427387904 (k + 1) k l (by omega) (by omega) rfl (by omega) hpre.symm rfl
    have hfl := List.length_filter_le (Sp.keep s) l
    simp only [Sp.B_16_37_0_0]
    rw [cond_eff (by omega), wi64 (by omega) (by omega), show (k : Int) + 1 = ((k + 1 : Nat) : Int) by omega, e1]
    simp only [Sp.B_16_33_0_0, Int.toNat_natCast, e2, Bool.and_true, Nat.zero_add, Nat.sub_zero, List.drop_zero]
    rw [over_length _ _ _ (by rw [List.length_replicate]; omega), e2, gd_sl3 (by omega) (by omega) (by omega), gd_and, gd_dec (by omega), gd_dec (by omega), gd_sl3 (by omega) (by omega) (by omega), gd_dec (by omega), over_take _ _ 0 _ (by omega), e3]
/-! outputs -/
theorem outF_snoc (c u : Int) {l : List SwT} {j : Nat} (h : j < l.length) : Sp.outF c (l.take (j + 1)) u = Sp.out1 c u (Sp.outF c (l.take j) u) (l.getD j (Ty.dflt (.pair (.int .i64) (.pair (.int .i64) (.pair .bool .unit))))) := by
  unfold Sp.outF
  rw [take_snoc (Ty.dflt (.pair (.int .i64) (.pair (.int .i64) (.pair .bool .unit)))) h, List.foldl_append]
  rfl
theorem rout_ok (c : Int) (l : List SwT) (u : Int) (hn : l.length ≤ 1000) : F_21 c l u = some (Sp.outF c l u, ()) := by
  have := run0 (fun m i t => Sp.L_21_0 m c l u t i) (n := l.length) (fun j => Sp.outF c (l.take j) u) (r := some (.e0 (Sp.outF c l u))) (by omega) (fun m j hj => by
    show Sp.L_21_0 (m + 1) c l u (Sp.outF c (l.take j) u) j = Sp.L_21_0 m c l u (Sp.outF c (l.take (j + 1)) u) ((j + 1 : Nat) : Int)
    rw [outF_snoc _ _ hj, Sp.L_21_0, cond_dtt (by omega)]
    simp only [gd_inB (show (0 : Int) ≤ (j : Int) by omega) (show (j : Int) < ((l.length : Nat) : Int) by omega), Int.toNat_natCast, wi64 (n := (j : Int) + 1) (by omega) (by omega)]
    unfold Sp.out1
    push_cast
    grind) (fun m => by
    show Sp.L_21_0 (m + 1) c l u (Sp.outF c (l.take l.length) u) l.length = _
    rw [Sp.L_21_0, cond_dff (by omega), List.take_length])
  have e : Sp.L_21_0 4611686018427387904 c l u false 0 = _ := this
  unfold F_21
  rw [e]
  rfl
namespace Sp
def outs (n : Nat) (l : List SwT) (u : Int) : List Bool := (List.range n).map fun c : Nat => outF c l u
end Sp
theorem outs_len (n : Nat) (l : List SwT) (u : Int) : (Sp.outs n l u).length = n := by simp [Sp.outs]
theorem outs_at (n : Nat) (l : List SwT) (u : Int) (c : Nat) (h : c < n) : (Sp.outs n l u).getD c false = Sp.outF c l u := by
  rw [getD_at _ (by rw [outs_len]; exact h)]
  simp [Sp.outs]
theorem outs_snoc (n : Nat) (u : Int) {l : List SwT} {j : Nat} (h : j < l.length) (h0 : 0 ≤ (l.getD j (Ty.dflt (.pair (.int .i64) (.pair (.int .i64) (.pair .bool .unit))))).2.1) : Sp.outs n (l.take (j + 1)) u = (bif decide ((l.getD j (Ty.dflt (.pair (.int .i64) (.pair (.int .i64) (.pair .bool .unit))))).2.1 < n) && decide ((l.getD j (Ty.dflt (.pair (.int .i64) (.pair (.int .i64) (.pair .bool .unit))))).1 ≤ u) then (Sp.outs n (l.take j) u).set (l.getD j (Ty.dflt (.pair (.int .i64) (.pair (.int .i64) (.pair .bool .unit))))).2.1.toNat (l.getD j (Ty.dflt (.pair (.int .i64) (.pair (.int .i64) (.pair .bool .unit))))).2.2.1 else Sp.outs n (l.take j) u) := by
  refine list_ext false ?_ fun c hc => ?_
  · rw [outs_len]
    cases (decide ((l.getD j (Ty.dflt (.pair (.int .i64) (.pair (.int .i64) (.pair .bool .unit))))).2.1 < n) && decide ((l.getD j (Ty.dflt (.pair (.int .i64) (.pair (.int .i64) (.pair .bool .unit))))).1 ≤ u)) <;> simp [outs_len]
  · rw [outs_len] at hc
    rw [outs_at _ _ _ _ hc, outF_snoc _ _ h]
    unfold Sp.out1
    by_cases h1 : (l.getD j (Ty.dflt (.pair (.int .i64) (.pair (.int .i64) (.pair .bool .unit))))).1 ≤ u
    · by_cases h2 : (l.getD j (Ty.dflt (.pair (.int .i64) (.pair (.int .i64) (.pair .bool .unit))))).2.1 < n
      · rw [decide_eq_true h1, decide_eq_true h2, Bool.and_true, Bool.and_true, cond_true]
        have hx : c < ((Sp.outs n (l.take j) u).set (l.getD j (Ty.dflt (.pair (.int .i64) (.pair (.int .i64) (.pair .bool .unit))))).2.1.toNat (l.getD j (Ty.dflt (.pair (.int .i64) (.pair (.int .i64) (.pair .bool .unit))))).2.2.1).length := by rw [List.length_set, outs_len]; exact hc
        rw [getD_at _ hx, List.getElem_set]
        by_cases h3 : (l.getD j (Ty.dflt (.pair (.int .i64) (.pair (.int .i64) (.pair .bool .unit))))).2.1 = c
        · rw [beq_iff_eq.2 h3, cond_true, if_pos (by omega)]
        · rw [beq_eq_false_iff_ne.2 h3, cond_false, if_neg (by omega), ← outs_at n _ u c hc, getD_at _ (by rw [outs_len]; exact hc)]
      · rw [decide_eq_true h1, decide_eq_false h2, Bool.and_true, Bool.and_true, cond_false, outs_at _ _ _ _ hc, beq_eq_false_iff_ne.2 (by omega), cond_false]
    · rw [decide_eq_false h1, Bool.and_false, Bool.and_false, cond_false, cond_false, outs_at _ _ _ _ hc]
theorem outs_ok (n : Int) (l : List SwT) (u : Int) : F_17 n l u = some (if Sp.lst l = true then (if 1 ≤ n ∧ n ≤ 16 then (Sp.outs n.toNat l u, 0, ()) else ([], 2, ())) else ([], 1, ())) := by
  unfold F_17
  rw [(lst_pv l).1, (lst_pv l).2, gd_tt]
  cases hl : Sp.lst l
  · rfl
  simp only [Bool.not_true, cond_f, if_true]
  by_cases h1 : n < 1
  · rw [cond_dtt h1, if_neg (by omega)]
  rw [cond_dff h1]
  by_cases h2 : n > 16
  · rw [cond_dtt h2, if_neg (by omega)]
  rw [cond_dff h2, if_pos (by omega)]
  have hn := lst_len hl
  obtain ⟨k, rfl⟩ := Int.eq_ofNat_of_zero_le (show 0 ≤ n by omega)
  have := run0 (fun m i t => Sp.L_17_0 m k u l l.length i t) (n := l.length) (fun j => Sp.outs k (l.take j) u) (r := some (.e0 (Sp.outs k l u))) (by omega) (fun m j hj => by
    have hc := lst_ch hl hj
    show Sp.L_17_0 (m + 1) k u l l.length j (Sp.outs k (l.take j) u) = Sp.L_17_0 m k u l l.length ((j + 1 : Nat) : Int) (Sp.outs k (l.take (j + 1)) u)
    rw [outs_snoc k u hj hc.1, Sp.L_17_0, cond_dtt (by omega), gd_inB (by omega) (by omega), Int.toNat_natCast, wi64 (by omega) (by omega)]
    have hlen := outs_len k (l.take j) u
    by_cases h3 : (l.getD j (Ty.dflt (.pair (.int .i64) (.pair (.int .i64) (.pair .bool .unit))))).2.1 < k
    · rw [cond_dtt h3, decide_eq_true h3, gd_inB (by omega) (by omega), Bool.and_true, Bool.and_true, gd_dec (by omega), Bool.true_and]
      push_cast
      by_cases h4 : (l.getD j (Ty.dflt (.pair (.int .i64) (.pair (.int .i64) (.pair .bool .unit))))).1 ≤ u
      · rw [cond_dtt h4, decide_eq_true h4, cond_t]
      · rw [cond_dff h4, decide_eq_false h4, cond_f]
    · rw [cond_dff h3, decide_eq_false h3, Bool.false_and, cond_f]
      push_cast
      rfl) (fun m => by
    show Sp.L_17_0 (m + 1) k u l l.length l.length (Sp.outs k (l.take l.length) u) = _
    rw [Sp.L_17_0, cond_dff (by omega), List.take_length])
  have e0 : Sp.outs k (l.take 0) u = List.replicate k false := by
    refine list_ext false (by simp [outs_len]) fun c hc => ?_
    rw [outs_len] at hc
    rw [outs_at _ _ _ _ hc, getD_at _ (by simpa using hc)]
    simp [Sp.outF]
  have e : Sp.L_17_0 4611686018427387904 k u l l.length 0 (List.replicate k false) = some (.e0 (Sp.outs k l u)) := by rw [← e0]; exact this
  rw [gd_and, gd_dec (by omega), gd_and, gd_beq rfl, gd_room (by omega) (by omega), Int.toNat_natCast, e]
  rfl
end Go.Ev
namespace Go.Ev
open Go
set_option maxRecDepth 100000
set_option maxHeartbeats 4000000
set_option linter.unusedVariables false
noncomputable section

def sm_36 : Nat → Option Summ := fun f => none
def T_36_0 (p0 : List Bool) (p1 : Bool) (p2 : Int) (p3 : Int) : St := St.mk [CV.pure (Ty.slice Ty.bool) p0, CV.bool p1, jk, jk, jk, jk, jk, CV.int IntKind.i64 p2, CV.int IntKind.i64 p3, jk, jk, jk, jk, jk, jk, jk, jk, jk, jk] [] (0 : Nat)
def X_36_0_0 (p3 : Int) : St := St.mk [jk, jk, jk, jk, CV.int IntKind.i64 p3, jk, jk, jk, jk, jk, jk, jk, jk, jk, jk, jk, jk, jk, jk] [] (0 : Nat)
def X_36_0_1 : St := St.mk [jk, jk, jk, jk, jk, jk, jk, jk, jk, jk, jk, jk, jk, jk, jk, jk, jk, jk, jk] [] (0 : Nat)
inductive Sp.E_36_0 where
  | e0 (p3 : Int)
  | e1
def Sp.B_36_0 {R : Type} (r : Option Sp.E_36_0) (k0 : (Int) → Option R) (k1 : Option R) : Option R := match r with
  | none => none
  | some (.e0 p3) => k0 p3
  | some (.e1) => k1
def Sp.L_36_0 : Nat → (List Bool) → (Bool) → (Int) → (Int) → Option Sp.E_36_0
  | 0, _, _, _, _ => none
  | m + 1, p0, p1, p2, p3 => bif decide (p3 < p2) then gd (inB p3 (List.length p0)) (bif p1 == List.getD p0 (Int.toNat p3) false then some (Sp.E_36_0.e0 p3) else Sp.L_36_0 m p0 p1 p2 (IntKind.wrap IntKind.i64 (p3 + (1 : Int)))) else some (Sp.E_36_0.e1)
def G_36_0 {R : Type} (p0 : List Bool) (p1 : Bool) (p2 : Int) (p3 : Int) (k : Ex → St → Option R) : Option R := Sp.B_36_0 (Sp.L_36_0 FU p0 p1 p2 p3) (fun p3 => k Ex.ret (X_36_0_0 p3)) (k (Ex.exit (0 : Nat)) (X_36_0_1))
def o_36_0 {R : Type} (G : (List Bool) → (Bool) → (Int) → (Int) → (Ex → St → Option R) → Option R) : St → (Ex → St → Option R) → Option R := fun T k => match T.sl.getD 0 .junk, T.sl.getD 1 .junk, T.sl.getD 7 .junk, T.sl.getD 8 .junk, T.hp with
  | CV.pure (Ty.slice Ty.bool) p0, CV.bool p1, CV.int IntKind.i64 p2, CV.int IntKind.i64 p3, [] => gd (shapeOK T 19 [0, 1, 7, 8] (0 : Nat)) (G p0 p1 p2 p3 k)
  | _, _, _, _, _ => none
theorem o_36_0_inv {R : Type} {G : (List Bool) → (Bool) → (Int) → (Int) → (Ex → St → Option R) → Option R} {T : St} {k : Ex → St → Option R} {r : R} (h : o_36_0 G T k = some r) : ∃ p0 p1 p2 p3, T = T_36_0 p0 p1 p2 p3 ∧ G p0 p1 p2 p3 k = some r := by
  unfold o_36_0 at h
  split at h
  · obtain ⟨hs, h'⟩ := gd_some h
    refine ⟨_, _, _, _, (st_of (asg := [(0, _), (1, _), (7, _), (8, _)]) hs ⟨by assumption, by assumption, by assumption, by assumption, trivial⟩ (by assumption)).trans ?_, h'⟩
    kernel_rfl
  · cases h
def O_36_36_0 {R : Type} : St → (Ex → St → Option R) → Option R := fun T k => o_36_0 G_36_0 T k
theorem body_36_0 {R : Type} (K0 : St → Option R) (K1 : Ex → St → Option R) (p0 : List Bool) (p1 : Bool) (p2 : Int) (p3 : Int) : evLB (evCodeL sm_36 FU (ovr noO (evFn sm_36 fns FU 0)) .nil ir36_b0) (St.norm ir36_v0) (T_36_0 p0 p1 p2 p3) K0 K1 =
  bif decide (p3 < p2) then gd (inB p3 (List.length p0)) (bif p1 == List.getD p0 (Int.toNat p3) false then K1 Ex.ret (X_36_0_0 p3) else K0 (T_36_0 p0 p1 p2 (IntKind.wrap IntKind.i64 (p3 + (1 : Int))))) else K1 (Ex.exit (0 : Nat)) X_36_0_1 := by kernel_rfl
theorem Bgd_36_0 {R : Type} {c : Bool} {x : Option R} {y : Option Sp.E_36_0} {k0 : (Int) → Option R} {k1 : Option R} (h : x = Sp.B_36_0 y k0 k1) : gd c x = Sp.B_36_0 (gd c y) k0 k1 := by cases c; rfl; exact h
theorem Bcond_36_0 {R : Type} {c : Bool} {x x' : Option R} {y y' : Option Sp.E_36_0} {k0 : (Int) → Option R} {k1 : Option R} (h : x = Sp.B_36_0 y k0 k1) (h' : x' = Sp.B_36_0 y' k0 k1) : (bif c then x else x') = Sp.B_36_0 (bif c then y else y') k0 k1 := by cases c; exact h'; exact h
theorem loop_36_0 {R : Type} (k : Ex → St → Option R) : ∀ (m : Nat) (p0 : List Bool) (p1 : Bool) (p2 : Int) (p3 : Int), evLoopN (evCodeL sm_36 FU (ovr noO (evFn sm_36 fns FU 0)) .nil ir36_b0) (St.norm ir36_v0) m (T_36_0 p0 p1 p2 p3) k = Sp.B_36_0 (Sp.L_36_0 m p0 p1 p2 p3) (fun p3 => k Ex.ret (X_36_0_0 p3)) (k (Ex.exit (0 : Nat)) (X_36_0_1))
  | 0, _, _, _, _ => rfl
  | m + 1, p0, p1, p2, p3 => by
    rw [evLoopN_succ, body_36_0, Sp.L_36_0]
    repeat' first | apply Bgd_36_0 | apply Bcond_36_0 | exact loop_36_0 k m _ _ _ _ | rfl
theorem ok_36_0 {R : Type} (T : St) (k : Ex → St → Option R) (r : R) (h0 : o_36_0 G_36_0 T k = some r) : evLoopN (evCode sm_36 FU (evFn sm_36 fns FU 0) ir36_b0) (St.norm ir36_v0) FU T k = some r := by
  obtain ⟨p0, p1, p2, p3, rfl, h⟩ := o_36_0_inv h0
  refine evLoopN_L (t := .nil) noO_ok trivial _ _ _ _ ?_
  rw [loop_36_0]
  exact h
theorem OK_36_36_0 {R : Type} (T : St) (k : Ex → St → Option R) (r : R) (h : O_36_36_0 T k = some r) : evLoopN (evCode sm_36 FU (evFn sm_36 fns FU 0) ir36_b0) (St.norm ir36_v0) FU T k = some r := ok_36_0 T k r h
def F_36 (a0 : (List Bool)) (a1 : Bool) : Option (Int × Unit) :=
  Sp.B_36_0 (Sp.L_36_0 (4611686018427387904 : Nat) a0 a1 (↑(List.length a0) : Int) (0 : Int)) (fun (y1 : Int) => some (y1, PUnit.unit)) (some ((-1 : Int), PUnit.unit))
theorem fn_36 (a0 : (List Bool)) (a1 : Bool) : evFnL sm_36 FU (ovr noO (evFn sm_36 fns FU 0)) (ir36_t O_36_36_0) ir36 (ofH [(.slice .bool), .bool] (a0, a1, ())) [] (pureK [(.int .i64)]) = F_36 a0 a1 := by kernel_rfl
def Sp.p_36 (a0 : (List Bool)) (a1 : Bool) : Bool := (F_36 a0 a1).isSome
def Sp.v_36 (a0 : (List Bool)) (a1 : Bool) : Int × Unit := (F_36 a0 a1).getD (dfH [(.int .i64)])
def s_36 : Summ := shN [(.slice .bool), .bool] [(.int .i64)] (fun x => Sp.p_36 x.1 x.2.1) (fun x => Sp.v_36 x.1 x.2.1)
theorem pv_36 (a0 : (List Bool)) (a1 : Bool) {y : Int × Unit} (h : F_36 a0 a1 = some y) : Sp.p_36 a0 a1 = true ∧ Sp.v_36 a0 a1 = y := ⟨by rw [Sp.p_36, h]; rfl, by rw [Sp.v_36, h]; rfl⟩
theorem run_36 (x : HDen [(.slice .bool), .bool]) (y : HDen [(.int .i64)]) (h : F_36 x.1 x.2.1 = some y) : evFn sm_36 fns FU 1 36 (ofH [(.slice .bool), .bool] x) [] (pureK [(.int .i64)]) = some y :=
  evFnL_sound (fn := ir36) (t := (ir36_t O_36_36_0)) (o := noO) rfl noO_ok (ir36_tok (fun T k r => OK_36_36_0 T k r)) ((fn_36 _ _).trans h)
end
end Go.Ev
namespace Go.Ev
open Go
set_option maxRecDepth 100000
set_option maxHeartbeats 4000000
set_option linter.unusedVariables false
noncomputable section

def sm_22 : Nat → Option Summ := fun f => bif Nat.beq f 36 then some s_36 else none


def F_22 (a0 : (List Bool)) (a1 : Bool) : Option (Bool × Unit) :=
  gd (Sp.p_36 a0 a1) (some (decide (Prod.fst (Sp.v_36 a0 a1) ≥ (0 : Int)), PUnit.unit))
theorem fn_22 (a0 : (List Bool)) (a1 : Bool) : evFnL sm_22 FU (ovr noO (evFn sm_22 fns FU 0)) .nil ir22 (ofH [(.slice .bool), .bool] (a0, a1, ())) [] (pureK [.bool]) = F_22 a0 a1 := by kernel_rfl
def Sp.p_22 (a0 : (List Bool)) (a1 : Bool) : Bool := (F_22 a0 a1).isSome
def Sp.v_22 (a0 : (List Bool)) (a1 : Bool) : Bool × Unit := (F_22 a0 a1).getD (dfH [.bool])
def s_22 : Summ := shN [(.slice .bool), .bool] [.bool] (fun x => Sp.p_22 x.1 x.2.1) (fun x => Sp.v_22 x.1 x.2.1)
theorem pv_22 (a0 : (List Bool)) (a1 : Bool) {y : Bool × Unit} (h : F_22 a0 a1 = some y) : Sp.p_22 a0 a1 = true ∧ Sp.v_22 a0 a1 = y := ⟨by rw [Sp.p_22, h]; rfl, by rw [Sp.v_22, h]; rfl⟩
theorem run_22 (x : HDen [(.slice .bool), .bool]) (y : HDen [.bool]) (h : F_22 x.1 x.2.1 = some y) : evFn sm_22 fns FU 1 22 (ofH [(.slice .bool), .bool] x) [] (pureK [.bool]) = some y :=
  evFnL_sound (fn := ir22) (t := .nil) (o := noO) rfl noO_ok trivial ((fn_22 _ _).trans h)
end
end Go.Ev
namespace Go.Ev
open Go
set_option maxRecDepth 100000
set_option maxHeartbeats 4000000
set_option linter.unusedVariables false
noncomputable section

def sm_25 : Nat → Option Summ := fun f => none
def T_25_0 (p0 : List Bool) (p1 : List Bool) (p2 : Int) (p3 : Int) : St := St.mk [CV.pure (Ty.slice Ty.bool) p0, CV.pure (Ty.slice Ty.bool) p1, jk, jk, jk, jk, jk, jk, jk, jk, jk, jk, CV.int IntKind.i64 p2, CV.int IntKind.i64 p3, jk, jk, jk, jk, jk, jk, jk, jk, jk, jk, jk, jk] [] (0 : Nat)
def X_25_0_0 : St := St.mk [jk, jk, jk, jk, CV.bool false, jk, jk, jk, jk, jk, jk, jk, jk, jk, jk, jk, jk, jk, jk, jk, jk, jk, jk, jk, jk, jk] [] (0 : Nat)
def X_25_0_1 : St := St.mk [jk, jk, jk, jk, jk, jk, jk, jk, jk, jk, jk, jk, jk, jk, jk, jk, jk, jk, jk, jk, jk, jk, jk, jk, jk, jk] [] (0 : Nat)
inductive Sp.E_25_0 where
  | e0
  | e1
def Sp.B_25_0 {R : Type} (r : Option Sp.E_25_0) (k0 : Option R) (k1 : Option R) : Option R := match r with
  | none => none
  | some (.e0) => k0
  | some (.e1) => k1
def Sp.L_25_0 : Nat → (List Bool) → (List Bool) → (Int) → (Int) → Option Sp.E_25_0
  | 0, _, _, _, _ => none
  | m + 1, p0, p1, p2, p3 => bif decide (p3 < p2) then gd (inB p3 (List.length p0)) (gd (inB p3 (List.length p1)) (bif !List.getD p0 (Int.toNat p3) false == List.getD p1 (Int.toNat p3) false then some (Sp.E_25_0.e0) else Sp.L_25_0 m p0 p1 p2 (IntKind.wrap IntKind.i64 (p3 + (1 : Int))))) else some (Sp.E_25_0.e1)
def G_25_0 {R : Type} (p0 : List Bool) (p1 : List Bool) (p2 : Int) (p3 : Int) (k : Ex → St → Option R) : Option R := Sp.B_25_0 (Sp.L_25_0 FU p0 p1 p2 p3) (k Ex.ret (X_25_0_0)) (k (Ex.exit (0 : Nat)) (X_25_0_1))
def o_25_0 {R : Type} (G : (List Bool) → (List Bool) → (Int) → (Int) → (Ex → St → Option R) → Option R) : St → (Ex → St → Option R) → Option R := fun T k => match T.sl.getD 0 .junk, T.sl.getD 1 .junk, T.sl.getD 12 .junk, T.sl.getD 13 .junk, T.hp with
  | CV.pure (Ty.slice Ty.bool) p0, CV.pure (Ty.slice Ty.bool) p1, CV.int IntKind.i64 p2, CV.int IntKind.i64 p3, [] => gd (shapeOK T 26 [0, 1, 12, 13] (0 : Nat)) (G p0 p1 p2 p3 k)
  | _, _, _, _, _ => none
theorem o_25_0_inv {R : Type} {G : (List Bool) → (List Bool) → (Int) → (Int) → (Ex → St → Option R) → Option R} {T : St} {k : Ex → St → Option R} {r : R} (h : o_25_0 G T k = some r) : ∃ p0 p1 p2 p3, T = T_25_0 p0 p1 p2 p3 ∧ G p0 p1 p2 p3 k = some r := by
  unfold o_25_0 at h
  split at h
  · obtain ⟨hs, h'⟩ := gd_some h
    refine ⟨_, _, _, _, (st_of (asg := [(0, _), (1, _), (12, _), (13, _)]) hs ⟨by assumption, by assumption, by assumption, by assumption, trivial⟩ (by assumption)).trans ?_, h'⟩
    kernel_rfl
  · cases h
def O_25_25_0 {R : Type} : St → (Ex → St → Option R) → Option R := fun T k => o_25_0 G_25_0 T k
theorem body_25_0 {R : Type} (K0 : St → Option R) (K1 : Ex → St → Option R) (p0 : List Bool) (p1 : List Bool) (p2 : Int) (p3 : Int) : evLB (evCodeL sm_25 FU (ovr noO (evFn sm_25 fns FU 0)) .nil ir25_b0) (St.norm ir25_v0) (T_25_0 p0 p1 p2 p3) K0 K1 =
  bif decide (p3 < p2) then gd (inB p3 (List.length p0)) (gd (inB p3 (List.length p1)) (bif !List.getD p0 (Int.toNat p3) false == List.getD p1 (Int.toNat p3) false then K1 Ex.ret X_25_0_0 else K0 (T_25_0 p0 p1 p2 (IntKind.wrap IntKind.i64 (p3 + (1 : Int)))))) else K1 (Ex.exit (0 : Nat)) X_25_0_1 := by kernel_rfl
theorem Bgd_25_0 {R : Type} {c : Bool} {x : Option R} {y : Option Sp.E_25_0} {k0 : Option R} {k1 : Option R} (h : x = Sp.B_25_0 y k0 k1) : gd c x = Sp.B_25_0 (gd c y) k0 k1 := by cases c; rfl; exact h
theorem Bcond_25_0 {R : Type} {c : Bool} {x x' : Option R} {y y' : Option Sp.E_25_0} {k0 : Option R} {k1 : Option R} (h : x = Sp.B_25_0 y k0 k1) (h' : x' = Sp.B_25_0 y' k0 k1) : (bif c then x else x') = Sp.B_25_0 (bif c then y else y') k0 k1 := by cases c; exact h'; exact h
theorem loop_25_0 {R : Type} (k : Ex → St → Option R) : ∀ (m : Nat) (p0 : List Bool) (p1 : List Bool) (p2 : Int) (p3 : Int), evLoopN (evCodeL sm_25 FU (ovr noO (evFn sm_25 fns FU 0)) .nil ir25_b0) (St.norm ir25_v0) m (T_25_0 p0 p1 p2 p3) k = Sp.B_25_0 (Sp.L_25_0 m p0 p1 p2 p3) (k Ex.ret (X_25_0_0)) (k (Ex.exit (0 : Nat)) (X_25_0_1))
  | 0, _, _, _, _ => rfl
  | m + 1, p0, p1, p2, p3 => by
    rw [evLoopN_succ, body_25_0, Sp.L_25_0]
    repeat' first | apply Bgd_25_0 | apply Bcond_25_0 | exact loop_25_0 k m _ _ _ _ | rfl
theorem ok_25_0 {R : Type} (T : St) (k : Ex → St → Option R) (r : R) (h0 : o_25_0 G_25_0 T k = some r) : evLoopN (evCode sm_25 FU (evFn sm_25 fns FU 0) ir25_b0) (St.norm ir25_v0) FU T k = some r := by
  obtain ⟨p0, p1, p2, p3, rfl, h⟩ := o_25_0_inv h0
  refine evLoopN_L (t := .nil) noO_ok trivial _ _ _ _ ?_
  rw [loop_25_0]
  exact h
theorem OK_25_25_0 {R : Type} (T : St) (k : Ex → St → Option R) (r : R) (h : O_25_25_0 T k = some r) : evLoopN (evCode sm_25 FU (evFn sm_25 fns FU 0) ir25_b0) (St.norm ir25_v0) FU T k = some r := ok_25_0 T k r h
def F_25 (a0 : (List Bool)) (a1 : (List Bool)) : Option (Bool × Unit) :=
  bif (↑(List.length a0) : Int) != (↑(List.length a1) : Int) then some (false, PUnit.unit) else Sp.B_25_0 (Sp.L_25_0 (4611686018427387904 : Nat) a0 a1 (↑(List.length a0) : Int) (0 : Int)) (some (false, PUnit.unit)) (some (true, PUnit.unit))
theorem fn_25 (a0 : (List Bool)) (a1 : (List Bool)) : evFnL sm_25 FU (ovr noO (evFn sm_25 fns FU 0)) (ir25_t O_25_25_0) ir25 (ofH [(.slice .bool), (.slice .bool)] (a0, a1, ())) [] (pureK [.bool]) = F_25 a0 a1 := by kernel_rfl
def Sp.p_25 (a0 : (List Bool)) (a1 : (List Bool)) : Bool := (F_25 a0 a1).isSome
def Sp.v_25 (a0 : (List Bool)) (a1 : (List Bool)) : Bool × Unit := (F_25 a0 a1).getD (dfH [.bool])
def s_25 : Summ := shN [(.slice .bool), (.slice .bool)] [.bool] (fun x => Sp.p_25 x.1 x.2.1) (fun x => Sp.v_25 x.1 x.2.1)
theorem pv_25 (a0 : (List Bool)) (a1 : (List Bool)) {y : Bool × Unit} (h : F_25 a0 a1 = some y) : Sp.p_25 a0 a1 = true ∧ Sp.v_25 a0 a1 = y := ⟨by rw [Sp.p_25, h]; rfl, by rw [Sp.v_25, h]; rfl⟩
theorem run_25 (x : HDen [(.slice .bool), (.slice .bool)]) (y : HDen [.bool]) (h : F_25 x.1 x.2.1 = some y) : evFn sm_25 fns FU 1 25 (ofH [(.slice .bool), (.slice .bool)] x) [] (pureK [.bool]) = some y :=
  evFnL_sound (fn := ir25) (t := (ir25_t O_25_25_0)) (o := noO) rfl noO_ok (ir25_tok (fun T k r => OK_25_25_0 T k r)) ((fn_25 _ _).trans h)
end
end Go.Ev
namespace Go.Ev
open Go
set_option maxRecDepth 100000
set_option maxHeartbeats 4000000
set_option linter.unusedVariables false
noncomputable section

def sm_6 : Nat → Option Summ := fun f => bif Nat.beq f 7 then some s_7 else bif Nat.beq f 16 then some s_16 else bif Nat.beq f 17 then some s_17 else bif Nat.beq f 19 then some s_19 else bif Nat.beq f 22 then some s_22 else bif Nat.beq f 25 then some s_25 else none
def T_6_37_0_0 (p0 : List (Int × Int × Bool × PUnit)) (p1 : Int) (p2 : Int) (p3 : Bool × Int × Int × PUnit) : St := St.mk [CV.pure (Ty.slice (Ty.pair (Ty.int IntKind.i64) (Ty.pair (Ty.int IntKind.i64) (Ty.pair Ty.bool Ty.unit)))) p0, CV.clo (24 : Nat) (CV.pure Ty.unit PUnit.unit), jk, jk, jk, jk, jk, CV.int IntKind.i64 p1, CV.int IntKind.i64 p2, jk, jk, jk, jk, jk, jk, jk, jk, jk, jk] [Blk.mem (CV.pure (Ty.pair Ty.bool (Ty.pair (Ty.int IntKind.i64) (Ty.pair (Ty.int IntKind.i64) Ty.unit))) p3)] (1 : Nat)
def X_6_37_0_0_0 (p2 : Int) (p3 : Bool × Int × Int × PUnit) : St := St.mk [jk, jk, jk, jk, CV.int IntKind.i64 p2, jk, jk, jk, jk, jk, jk, jk, jk, jk, jk, jk, jk, jk, jk] [Blk.mem (CV.pure (Ty.pair Ty.bool (Ty.pair (Ty.int IntKind.i64) (Ty.pair (Ty.int IntKind.i64) Ty.unit))) p3)] (1 : Nat)
def X_6_37_0_0_1 (p3 : Bool × Int × Int × PUnit) : St := St.mk [jk, jk, jk, jk, jk, jk, jk, jk, jk, jk, jk, jk, jk, jk, jk, jk, jk, jk, jk] [Blk.mem (CV.pure (Ty.pair Ty.bool (Ty.pair (Ty.int IntKind.i64) (Ty.pair (Ty.int IntKind.i64) Ty.unit))) p3)] (1 : Nat)
inductive Sp.E_6_37_0_0 where
  | e0 (p2 : Int) (p3 : Bool × Int × Int × PUnit)
  | e1 (p3 : Bool × Int × Int × PUnit)
def Sp.B_6_37_0_0 {R : Type} (r : Option Sp.E_6_37_0_0) (k0 : (Int) → (Bool × Int × Int × PUnit) → Option R) (k1 : (Bool × Int × Int × PUnit) → Option R) : Option R := match r with
  | none => none
  | some (.e0 p2 p3) => k0 p2 p3
  | some (.e1 p3) => k1 p3
def Sp.L_6_37_0_0 : Nat → (List (Int × Int × Bool × PUnit)) → (Int) → (Int) → (Bool × Int × Int × PUnit) → Option Sp.E_6_37_0_0
  | 0, _, _, _, _ => none
  | m + 1, p0, p1, p2, p3 => bif decide (p2 < p1) then gd (inB p2 (List.length p0)) (bif Prod.fst (Prod.snd (Prod.snd (List.getD p0 (Int.toNat p2) (Ty.dflt (Ty.pair (Ty.int IntKind.i64) (Ty.pair (Ty.int IntKind.i64) (Ty.pair Ty.bool Ty.unit))))))) then some (Sp.E_6_37_0_0.e0 p2 p3) else Sp.L_6_37_0_0 m p0 p1 (IntKind.wrap IntKind.i64 (p2 + (1 : Int))) p3) else some (Sp.E_6_37_0_0.e1 p3)
def G_6_37_0_0 {R : Type} (p0 : List (Int × Int × Bool × PUnit)) (p1 : Int) (p2 : Int) (p3 : Bool × Int × Int × PUnit) (k : Ex → St → Option R) : Option R := Sp.B_6_37_0_0 (Sp.L_6_37_0_0 FU p0 p1 p2 p3) (fun p2 p3 => k Ex.ret (X_6_37_0_0_0 p2 p3)) (fun p3 => k (Ex.exit (0 : Nat)) (X_6_37_0_0_1 p3))
def o_6_37_0_0 {R : Type} (G : (List (Int × Int × Bool × PUnit)) → (Int) → (Int) → (Bool × Int × Int × PUnit) → (Ex → St → Option R) → Option R) : St → (Ex → St → Option R) → Option R := fun T k => match T.sl.getD 0 .junk, T.sl.getD 1 .junk, T.sl.getD 7 .junk, T.sl.getD 8 .junk, T.hp with
  | CV.pure (Ty.slice (Ty.pair (Ty.int IntKind.i64) (Ty.pair (Ty.int IntKind.i64) (Ty.pair Ty.bool Ty.unit)))) p0, CV.clo (24 : Nat) (CV.pure Ty.unit PUnit.unit), CV.int IntKind.i64 p1, CV.int IntKind.i64 p2, ((Blk.mem (CV.pure (Ty.pair Ty.bool (Ty.pair (Ty.int IntKind.i64) (Ty.pair (Ty.int IntKind.i64) Ty.unit))) p3)) :: []) => gd (shapeOK T 19 [0, 1, 7, 8] (1 : Nat)) (G p0 p1 p2 p3 k)
  | _, _, _, _, _ => none
theorem o_6_37_0_0_inv {R : Type} {G : (List (Int × Int × Bool × PUnit)) → (Int) → (Int) → (Bool × Int × Int × PUnit) → (Ex → St → Option R) → Option R} {T : St} {k : Ex → St → Option R} {r : R} (h : o_6_37_0_0 G T k = some r) : ∃ p0 p1 p2 p3, T = T_6_37_0_0 p0 p1 p2 p3 ∧ G p0 p1 p2 p3 k = some r := by
  unfold o_6_37_0_0 at h
  split at h
  · obtain ⟨hs, h'⟩ := gd_some h
    refine ⟨_, _, _, _, (st_of (asg := [(0, _), (1, _), (7, _), (8, _)]) hs ⟨by assumption, by assumption, by assumption, by assumption, trivial⟩ (by assumption)).trans ?_, h'⟩
    kernel_rfl
  · cases h
def O_6_37_0 {R : Type} : St → (Ex → St → Option R) → Option R := fun T k => o_6_37_0_0 G_6_37_0_0 T k
def g_6_37 {R : Type} : List CV → List Blk → (CV → List Blk → Option R) → Option R := evFnL sm_6 FU (ovr noO (evFn sm_6 fns FU 1)) (ir37_t O_6_37_0) ir37
def g_6_23 {R : Type} : List CV → List Blk → (CV → List Blk → Option R) → Option R := evFnL sm_6 FU (ovr (fun f' => bif Nat.beq f' 37 then some (g_6_37) else none) (evFn sm_6 fns FU 2)) .nil ir23
theorem body_6_37_0_0 {R : Type} (K0 : St → Option R) (K1 : Ex → St → Option R) (p0 : List (Int × Int × Bool × PUnit)) (p1 : Int) (p2 : Int) (p3 : Bool × Int × Int × PUnit) : evLB (evCodeL sm_6 FU (ovr noO (evFn sm_6 fns FU 1)) .nil ir37_b0) (St.norm ir37_v0) (T_6_37_0_0 p0 p1 p2 p3) K0 K1 =
  bif decide (p2 < p1) then gd (inB p2 (List.length p0)) (bif Prod.fst (Prod.snd (Prod.snd (List.getD p0 (Int.toNat p2) (Ty.dflt (Ty.pair (Ty.int IntKind.i64) (Ty.pair (Ty.int IntKind.i64) (Ty.pair Ty.bool Ty.unit))))))) then K1 Ex.ret (X_6_37_0_0_0 p2 p3) else K0 (T_6_37_0_0 p0 p1 (IntKind.wrap IntKind.i64 (p2 + (1 : Int))) p3)) else K1 (Ex.exit (0 : Nat)) (X_6_37_0_0_1 p3) := by kernel_rfl
theorem Bgd_6_37_0_0 {R : Type} {c : Bool} {x : Option R} {y : Option Sp.E_6_37_0_0} {k0 : (Int) → (Bool × Int × Int × PUnit) → Option R} {k1 : (Bool × Int × Int × PUnit) → Option R} (h : x = Sp.B_6_37_0_0 y k0 k1) : gd c x = Sp.B_6_37_0_0 (gd c y) k0 k1 := by cases c; rfl; exact h
theorem Bcond_6_37_0_0 {R : Type} {c : Bool} {x x' : Option R} {y y' : Option Sp.E_6_37_0_0} {k0 : (Int) → (Bool × Int × Int × PUnit) → Option R} {k1 : (Bool × Int × Int × PUnit) → Option R} (h : x = Sp.B_6_37_0_0 y k0 k1) (h' : x' = Sp.B_6_37_0_0 y' k0 k1) : (bif c then x else x') = Sp.B_6_37_0_0 (bif c then y else y') k0 k1 := by cases c; exact h'; exact h
theorem loop_6_37_0_0 {R : Type} (k : Ex → St → Option R) : ∀ (m : Nat) (p0 : List (Int × Int × Bool × PUnit)) (p1 : Int) (p2 : Int) (p3 : Bool × Int × Int × PUnit), evLoopN (evCodeL sm_6 FU (ovr noO (evFn sm_6 fns FU 1)) .nil ir37_b0) (St.norm ir37_v0) m (T_6_37_0_0 p0 p1 p2 p3) k = Sp.B_6_37_0_0 (Sp.L_6_37_0_0 m p0 p1 p2 p3) (fun p2 p3 => k Ex.ret (X_6_37_0_0_0 p2 p3)) (fun p3 => k (Ex.exit (0 : Nat)) (X_6_37_0_0_1 p3))
  | 0, _, _, _, _ => rfl
  | m + 1, p0, p1, p2, p3 => by
    rw [evLoopN_succ, body_6_37_0_0, Sp.L_6_37_0_0]
    repeat' first | apply Bgd_6_37_0_0 | apply Bcond_6_37_0_0 | exact loop_6_37_0_0 k m _ _ _ _ | rfl
theorem ok_6_37_0_0 {R : Type} (T : St) (k : Ex → St → Option R) (r : R) (h0 : o_6_37_0_0 G_6_37_0_0 T k = some r) : evLoopN (evCode sm_6 FU (evFn sm_6 fns FU 1) ir37_b0) (St.norm ir37_v0) FU T k = some r := by
  obtain ⟨p0, p1, p2, p3, rfl, h⟩ := o_6_37_0_0_inv h0
  refine evLoopN_L (t := .nil) noO_ok trivial _ _ _ _ ?_
  rw [loop_6_37_0_0]
  exact h
theorem OK_6_37_0 {R : Type} (T : St) (k : Ex → St → Option R) (r : R) (h : O_6_37_0 T k = some r) : evLoopN (evCode sm_6 FU (evFn sm_6 fns FU 1) ir37_b0) (St.norm ir37_v0) FU T k = some r := ok_6_37_0_0 T k r h
theorem g_6_37_ok {R : Type} (args : List CV) (hp : List Blk) (k : CV → List Blk → Option R) (r : R) (h : g_6_37 args hp k = some r) : evFn sm_6 fns FU 2 37 args hp k = some r :=
  evFnL_sound (fn := ir37) (t := (ir37_t O_6_37_0)) (o := noO) rfl noO_ok (ir37_tok (fun T k r => OK_6_37_0 T k r)) h
theorem ov_6_23_ok {R : Type} : OvrOK (R := R) (fun f' => bif Nat.beq f' 37 then some (g_6_37) else none) (evFn sm_6 fns FU 2) := by
  intro f' g h args hp k r hg
  dsimp only at h
  by_cases h37 : f' = 37
  · subst h37
    injection h with h
    subst h
    exact evFn_le 0 (g_6_37_ok _ _ _ _ hg)
  rw [nbeq_ne h37, cond_false] at h
  cases h
theorem g_6_23_ok {R : Type} (args : List CV) (hp : List Blk) (k : CV → List Blk → Option R) (r : R) (h : g_6_23 args hp k = some r) : evFn sm_6 fns FU 3 23 args hp k = some r :=
  evFnL_sound (fn := ir23) (t := .nil) (o := (fun f' => bif Nat.beq f' 37 then some (g_6_37) else none)) rfl ov_6_23_ok trivial h
theorem ov_6_6_ok {R : Type} : OvrOK (R := R) (fun f' => bif Nat.beq f' 23 then some (g_6_23) else none) (evFn sm_6 fns FU 3) := by
  intro f' g h args hp k r hg
  dsimp only at h
  by_cases h23 : f' = 23
  · subst h23
    injection h with h
    subst h
    exact evFn_le 0 (g_6_23_ok _ _ _ _ hg)
  rw [nbeq_ne h23, cond_false] at h
  cases h
def F_6 (a0 : (Bool × (Int × (Int × Unit)))) (a1 : (List (Int × (Int × (Bool × Unit))))) (a2 : Int) (a3 : Int) : Option (Bool) :=
  gd Sp.p_7 (bif !Prod.fst Sp.v_7 then some false else bif decide ((↑(List.length a1) : Int) > (100 : Int)) then some true else gd (Sp.p_16 a0 a1) (bif Prod.fst (Prod.snd (Sp.v_16 a0 a1)) != (0 : Int) then some ((↑(List.length (Prod.fst (Sp.v_16 a0 a1))) : Int) == (0 : Int)) else gd (Sp.p_17 a2 (Prod.fst (Sp.v_16 a0 a1)) a3) (bif Prod.fst (Prod.snd (Sp.v_17 a2 (Prod.fst (Sp.v_16 a0 a1)) a3)) != (0 : Int) then bif decide (a2 < (1 : Int)) then some true else some (decide (a2 > (16 : Int))) else bif !Prod.fst a0 then gd (Sp.p_22 (Prod.fst (Sp.v_17 a2 (Prod.fst (Sp.v_16 a0 a1)) a3)) true) (bif !Prod.fst (Sp.v_22 (Prod.fst (Sp.v_17 a2 (Prod.fst (Sp.v_16 a0 a1)) a3)) true) then Sp.B_6_37_0_0 (Sp.L_6_37_0_0 (4611686018427387904 : Nat) (Prod.fst (Sp.v_16 a0 a1)) (↑(List.length (Prod.fst (Sp.v_16 a0 a1))) : Int) (0 : Int) a0) (fun (y7 : Int) (y8 : Bool × Int × Int × PUnit) => some !decide (y7 ≥ (0 : Int))) fun (y9 : Bool × Int × Int × PUnit) => some true else some false) else gd (Sp.p_17 a2 a1 a3) (bif Prod.fst (Prod.snd (Sp.v_17 a2 a1 a3)) == (0 : Int) then gd (Sp.p_25 (Prod.fst (Sp.v_17 a2 (Prod.fst (Sp.v_16 a0 a1)) a3)) (Prod.fst (Sp.v_17 a2 a1 a3))) (bif Prod.fst (Sp.v_25 (Prod.fst (Sp.v_17 a2 (Prod.fst (Sp.v_16 a0 a1)) a3)) (Prod.fst (Sp.v_17 a2 a1 a3))) then gd (Sp.p_19 (Prod.fst (Sp.v_16 a0 a1)) a1) (some (Prod.fst (Sp.v_19 (Prod.fst (Sp.v_16 a0 a1)) a1))) else some false) else some false))))
theorem fn_6 (a0 : (Bool × (Int × (Int × Unit)))) (a1 : (List (Int × (Int × (Bool × Unit))))) (a2 : Int) (a3 : Int) : evFnL sm_6 FU (ovr (fun f' => bif Nat.beq f' 23 then some (g_6_23) else none) (evFn sm_6 fns FU 3)) .nil ir6 (ofH [(.pair .bool (.pair (.int .i64) (.pair (.int .i64) .unit))), (.slice (.pair (.int .i64) (.pair (.int .i64) (.pair .bool .unit)))), (.int .i64), (.int .i64)] (a0, a1, a2, a3, ())) [] bk = F_6 a0 a1 a2 a3 := by kernel_rfl
theorem run_6 (a0 : (Bool × (Int × (Int × Unit)))) (a1 : (List (Int × (Int × (Bool × Unit))))) (a2 : Int) (a3 : Int) {b : Bool} (h : F_6 a0 a1 a2 a3 = some b) : evFn sm_6 fns FU 4 6 (ofH [(.pair .bool (.pair (.int .i64) (.pair (.int .i64) .unit))), (.slice (.pair (.int .i64) (.pair (.int .i64) (.pair .bool .unit)))), (.int .i64), (.int .i64)] (a0, a1, a2, a3, ())) [] bk = some b :=
  evFnL_sound (fn := ir6) (t := .nil) (o := (fun f' => bif Nat.beq f' 23 then some (g_6_23) else none)) rfl ov_6_6_ok trivial ((fn_6 _ _ _ _).trans h)
end
end Go.Ev
set_option linter.unusedSimpArgs false
set_option linter.unusedVariables false
namespace Go.Ev
open Go
set_option maxRecDepth 100000
set_option maxHeartbeats 4000000
theorem aw_pv : Sp.p_7 = true ∧ Sp.v_7 = (true, ()) := by
  refine pv_7 ?_
  kernel_rfl
theorem sw_beq (x y : SwT) : Ty.beq (.pair (.int .i64) (.pair (.int .i64) (.pair .bool .unit))) x y = decide (x = y) := by
  obtain ⟨a, b, c, _⟩ := x
  obtain ⟨a', b', c', _⟩ := y
  show ((a == a') && ((b == b') && ((c == c') && true))) = _
  grind
theorem eqS_ok (x y : List SwT) (h : x.length < 4611686018427387904) : F_19 x y = some (decide (x = y), ()) := by
  unfold F_19
  by_cases hl : x.length = y.length
  · rw [cond_nff (by omega), eq0 (fun m i => Sp.L_19_0 m x y x.length i) x y (Ty.dflt (.pair (.int .i64) (.pair (.int .i64) (.pair .bool .unit)))) (e0 := some .e0) (e1 := some .e1) hl h (fun m j h1 h2 => by
      show Sp.L_19_0 (m + 1) x y x.length j = _
      rw [Sp.L_19_0, cond_dtt (by omega), gd_inB (by omega) (by omega), gd_inB (by omega) (by omega), Int.toNat_natCast, wi64 (by omega) (by omega), sw_beq]
      cases decide (x.getD j (Ty.dflt (.pair (.int .i64) (.pair (.int .i64) (.pair .bool .unit)))) = y.getD j (Ty.dflt (.pair (.int .i64) (.pair (.int .i64) (.pair .bool .unit))))) <;> rfl) (fun m => by
      show Sp.L_19_0 (m + 1) x y x.length x.length = _
      rw [Sp.L_19_0, cond_dff (by omega)])]
    cases decide (x = y) <;> rfl
  · rw [cond_ntt (by omega), decide_eq_false (fun e => hl (by rw [e]))]
theorem eqB_ok (x y : List Bool) (h : x.length < 4611686018427387904) : F_25 x y = some (decide (x = y), ()) := by
  unfold F_25
  by_cases hl : x.length = y.length
  · rw [cond_nff (by omega), eq0 (fun m i => Sp.L_25_0 m x y x.length i) x y false (e0 := some .e0) (e1 := some .e1) hl h (fun m j h1 h2 => by
      show Sp.L_25_0 (m + 1) x y x.length j = _
      rw [Sp.L_25_0, cond_dtt (by omega), gd_inB (by omega) (by omega), gd_inB (by omega) (by omega), Int.toNat_natCast, wi64 (by omega) (by omega)]
      cases x.getD j false <;> cases y.getD j false <;> rfl) (fun m => by
      show Sp.L_25_0 (m + 1) x y x.length x.length = _
      rw [Sp.L_25_0, cond_dff (by omega)])]
    cases decide (x = y) <;> rfl
  · rw [cond_ntt (by omega), decide_eq_false (fun e => hl (by rw [e]))]
theorem cont_ok (x : List Bool) (h : x.length < 4611686018427387904) (hx : ∀ j, j < x.length → x.getD j false = false) : F_22 x true = some (false, ()) := by
  have e : F_36 x true = some (-1, ()) := by
    unfold F_36
    rw [find0 (fun m i => Sp.L_36_0 m x true x.length i) (n := x.length) (fun j => x.getD j false) (ex := fun j => some (.e0 j)) (e1 := some .e1) h (fun m j h1 => by
      show Sp.L_36_0 (m + 1) x true x.length j = _
      rw [Sp.L_36_0, cond_dtt (by omega), gd_inB (by omega) (by omega), Int.toNat_natCast, wi64 (by omega) (by omega)]
      cases x.getD j false <;> rfl) (fun m => by
      show Sp.L_36_0 (m + 1) x true x.length x.length = _
      rw [Sp.L_36_0, cond_dff (by omega)])]
    have hn : fnd (fun j => x.getD j false) x.length 0 = none := fnd_none.2 fun i _ h2 => hx i (by omega)
    rw [hn]
    rfl
  have p := pv_36 _ _ e
  unfold F_22
  rw [p.1, p.2, gd_tt]
  rfl
theorem filt_len (s : StT) {l : List SwT} (h : l.length ≤ 1000) : (l.filter (Sp.keep s)).length ≤ 1000 := Nat.le_trans (List.length_filter_le _ _) h
theorem out_loop (n : Nat) (l : List SwT) (u : Int) (hn : l.length ≤ 1000) (hk : n ≤ 16) : Sp.L_5_2 4611686018427387904 l u (Sp.outs n l u) n 0 = some .e1 := by
  have hl := outs_len n l u
  have := all0 (fun m i => Sp.L_5_2 m l u (Sp.outs n l u) n i) (n := n) (fun _ => true) (e0 := some .e0) (e1 := some .e1) (by omega) (fun m j hj => by
    have ro := pv_21 _ _ _ (rout_ok (j : Int) l u hn)
    show Sp.L_5_2 (m + 1) l u (Sp.outs n l u) n j = _
    rw [Sp.L_5_2, cond_dtt (by omega), gd_inB (by omega) (by omega), Int.toNat_natCast, ro.1, ro.2, gd_tt, outs_at n l u j hj, wi64 (by omega) (by omega)]
    cases Sp.outF j l u <;> rfl) (fun m => by
    show Sp.L_5_2 (m + 1) l u (Sp.outs n l u) n n = _
    rw [Sp.L_5_2, cond_dff (by omega)])
  rw [this]
  have : (List.range n).all (fun _ => true) = true := by simp
  rw [this]; rfl
theorem J1 (l : List SwT) (n u : Int) (hl : Sp.lst l = true) : Sp.J_5_1 l n u (if 1 ≤ n ∧ n ≤ 16 then (Sp.outs n.toNat l u, (0 : Int), ()) else ([], 2, ())).1 (if 1 ≤ n ∧ n ≤ 16 then (Sp.outs n.toNat l u, (0 : Int), ()) else ([], 2, ())).2.1 = if 1 ≤ n ∧ n ≤ 16 then some .e2 else some (.e0 []) := by
  have hn := lst_len hl
  unfold Sp.J_5_1
  by_cases a : n < 1
  · rw [cond_dtt a, if_neg (by omega), cond_ett rfl, if_neg (by omega)]
  rw [cond_dff a]
  by_cases b : n > 16
  · rw [cond_dtt b, if_neg (by omega), cond_ett rfl, if_neg (by omega)]
  rw [cond_dff b, if_pos (by omega), if_pos (by omega)]
  obtain ⟨k, rfl⟩ := Int.eq_ofNat_of_zero_le (show 0 ≤ n by omega)
  rw [cond_nff rfl, Int.toNat_natCast]
  dsimp only
  rw [outs_len, cond_nff rfl, out_loop k l u hn (by omega)]
  rfl
theorem J0 (s : StT) (l : List SwT) (n u : Int) : Sp.B_5_0 (Sp.J_5_0 l n u s) (fun y16 y17 y18 => some ((↑(List.length (Prod.fst (Sp.v_17 y17 y16 y18))) : Int) == (0 : Int))) (some false) (fun y19 => some ((↑(List.length y19) : Int) == (0 : Int))) (some true) = some true := by
  have hp := pv_16 _ _ (pass_ok s l)
  have ho := pv_17 _ _ _ (outs_ok n l u)
  unfold Sp.J_5_0
  rw [hp.1, hp.2, ho.1, (rlst_pv l).1, (rlst_pv l).2, gd_tt, gd_tt, gd_tt]
  cases hl : Sp.lst l
  · rw [if_neg (by simp), ho.2, hl, if_neg (by simp)]
    simp only [Bool.not_false, cond_t]
    rw [cond_ett rfl, cond_ett (show ((([] : List SwT).length : Nat) : Int) = 0 from rfl), cond_ett rfl]
    simp only [Sp.B_5_0]
    rw [ho.2, hl, if_neg (by simp)]
    rfl
  rw [ho.2, hl, if_pos rfl, (rstv_pv s).1, (rstv_pv s).2, gd_tt]
  simp only [Bool.not_true, cond_f, and_true]
  have hn := lst_len hl
  have hJ := J1 l n u hl
  have fin : ∀ (x : Option Sp.E_5_1), x = (if 1 ≤ n ∧ n ≤ 16 then some .e2 else some (.e0 [])) → Sp.B_5_0 (Sp.B_5_1 x (fun y2 => some (.e2 y2)) (some .e1) (some .e3)) (fun y16 y17 y18 => some ((↑(List.length (Prod.fst (Sp.v_17 y17 y16 y18))) : Int) == (0 : Int))) (some false) (fun y19 => some ((↑(List.length y19) : Int) == (0 : Int))) (some true) = some true := by
    rintro x rfl
    split <;> rfl
  cases hs : Sp.stv s
  · rw [if_neg (by simp)]
    simp only [Bool.not_false, cond_t]
    rw [cond_nff rfl, cond_nff (show ((([] : List SwT).length : Nat) : Int) = 0 from rfl)]
    exact fin _ hJ
  · have hrp := pv_20 _ _ (rpass_ok s l hn)
    have hfl := filt_len s hn
    have he := pv_19 _ _ (eqS_ok (l.filter (Sp.keep s)) (l.filter (Sp.keep s)) (by omega))
    rw [if_pos rfl]
    simp only [Bool.not_true, cond_f]
    rw [cond_nff rfl, hrp.1, hrp.2, gd_tt, he.1, he.2, gd_tt, decide_eq_true rfl]
    simp only [Bool.not_true, cond_f]
    exact fin _ hJ
theorem plain_5 (s : StT) (l : List SwT) (n u : Int) (_ : wfD (.pair .bool (.pair (.int .i64) (.pair (.int .i64) .unit))) s) (_ : wfD (.slice (.pair (.int .i64) (.pair (.int .i64) (.pair .bool .unit)))) l) (_ : wfD (.int .i64) n) (_ : wfD (.int .i64) u) : F_5 s l n u = some true := by
  unfold F_5
  rw [aw_pv.1, aw_pv.2, gd_tt]
  simp only [Bool.not_true, cond_f, J0, cond_same]
/-! what is off stays off -/
theorem outs_off (n : Nat) (l : List SwT) (u : Int) (h : ∀ x ∈ l, x.2.2.1 = false) : ∀ j, j < (Sp.outs n l u).length → (Sp.outs n l u).getD j false = false := by
  intro j hj
  rw [outs_len] at hj
  rw [outs_at _ _ _ _ hj]
  unfold Sp.outF
  have : ∀ (l : List SwT), (∀ x ∈ l, x.2.2.1 = false) → l.foldl (Sp.out1 j u) false = false := by
    intro l
    induction l with
    | nil => intro _; rfl
    | cons x l ih =>
      intro h
      rw [List.foldl_cons]
      have : Sp.out1 j u false x = false := by
        unfold Sp.out1
        rw [h x (by simp)]
        cases (x.2.1 == (j : Int)) && decide (x.1 ≤ u) <;> rfl
      rw [this]
      exact ih fun y hy => h y (by simp [hy])
  exact this l h
theorem sorted_lst {l : List SwT} (h : Sp.lst l = true) : l.Pairwise (fun x y => x.1 ≤ y.1) ∧ ∀ x ∈ l, Sp.tim x.1 = true ∧ 0 ≤ x.2.1 ∧ x.2.1 < 16 := by
  have h0 := h
  simp only [Sp.lst, Bool.and_eq_true, decide_eq_true_eq, List.all_eq_true, List.mem_range] at h
  have ok : ∀ j, j < l.length → Sp.tim (l.getD j (Ty.dflt (.pair (.int .i64) (.pair (.int .i64) (.pair .bool .unit))))).1 = true ∧ Sp.prv l j ≤ (l.getD j (Ty.dflt (.pair (.int .i64) (.pair (.int .i64) (.pair .bool .unit))))).1 ∧ 0 ≤ (l.getD j (Ty.dflt (.pair (.int .i64) (.pair (.int .i64) (.pair .bool .unit))))).2.1 ∧ (l.getD j (Ty.dflt (.pair (.int .i64) (.pair (.int .i64) (.pair .bool .unit))))).2.1 < 16 := fun j hj => by
    have := h.2 j hj
    simp only [Sp.okA, Bool.and_eq_true, decide_eq_true_eq] at this
    exact ⟨this.1, this.2.1, this.2.2⟩
  refine ⟨?_, fun x hx => ?_⟩
  · rw [List.pairwise_iff_getElem]
    intro i j hi hj hij
    have step : ∀ d i, i + d < l.length → (l.getD i (Ty.dflt (.pair (.int .i64) (.pair (.int .i64) (.pair .bool .unit))))).1 ≤ (l.getD (i + d) (Ty.dflt (.pair (.int .i64) (.pair (.int .i64) (.pair .bool .unit))))).1 := by
      intro d
      induction d with
      | zero => intro i _; exact Int.le_refl _
      | succ d ih =>
        intro i hi
        have a := ih i (by omega)
        have b := (ok (i + (d + 1)) hi).2.1
        unfold Sp.prv at b
        rw [if_neg (by omega), show i + (d + 1) - 1 = i + d by omega] at b
        exact Int.le_trans a b
    have := step (j - i) i (by omega)
    rw [show i + (j - i) = j by omega, getD_at (Ty.dflt (.pair (.int .i64) (.pair (.int .i64) (.pair .bool .unit)))) hi, getD_at (Ty.dflt (.pair (.int .i64) (.pair (.int .i64) (.pair .bool .unit)))) hj] at this
    exact this
  · obtain ⟨j, hj, rfl⟩ := List.getElem_of_mem hx
    have := ok j hj
    rw [getD_at (Ty.dflt (.pair (.int .i64) (.pair (.int .i64) (.pair .bool .unit)))) hj] at this
    exact ⟨this.1, this.2.2⟩
theorem lst_sorted {l : List SwT} (hn : l.length ≤ 1000) (h1 : l.Pairwise (fun x y => x.1 ≤ y.1)) (h2 : ∀ x ∈ l, Sp.tim x.1 = true ∧ 0 ≤ x.2.1 ∧ x.2.1 < 16) : Sp.lst l = true := by
  simp only [Sp.lst, Bool.and_eq_true, decide_eq_true_eq, List.all_eq_true, List.mem_range]
  refine ⟨hn, fun j hj => ?_⟩
  have a := h2 (l.getD j (Ty.dflt (.pair (.int .i64) (.pair (.int .i64) (.pair .bool .unit))))) (by rw [getD_at _ hj]; exact List.getElem_mem hj)
  simp only [Sp.okA, Bool.and_eq_true, decide_eq_true_eq]
  refine ⟨a.1, ?_, a.2⟩
  unfold Sp.prv
  split
  · have := a.1
    simp only [Sp.tim, Bool.and_eq_true, decide_eq_true_eq] at this
    exact this.1
  · have hj1 : j - 1 < l.length := by omega
    rw [List.pairwise_iff_getElem] at h1
    have := h1 (j - 1) j hj1 hj (by omega)
    rwa [getD_at (Ty.dflt (.pair (.int .i64) (.pair (.int .i64) (.pair .bool .unit)))) hj1, getD_at (Ty.dflt (.pair (.int .i64) (.pair (.int .i64) (.pair .bool .unit)))) hj]
theorem lst_filter (s : StT) {l : List SwT} (h : Sp.lst l = true) : Sp.lst (l.filter (Sp.keep s)) = true := by
  obtain ⟨h1, h2⟩ := sorted_lst h
  exact lst_sorted (filt_len s (lst_len h)) (h1.sublist List.filter_sublist) fun x hx => h2 x (List.mem_filter.1 hx).1
theorem filt_on {s : StT} (h : s.1 = true) (l : List SwT) : l.filter (Sp.keep s) = l := by
  rw [List.filter_eq_self]
  intro x _
  unfold Sp.keep
  rw [h]; rfl
theorem cf_loop (s : StT) (l : List SwT) (hn : l.length ≤ 1000) (h : ∀ x ∈ l, x.2.2.1 = false) : Sp.L_6_37_0_0 4611686018427387904 l l.length 0 s = some (.e1 s) := by
  have := find0 (fun m i => Sp.L_6_37_0_0 m l l.length i s) (n := l.length) (fun _ => false) (ex := fun j => some (.e0 (j : Int) s)) (e1 := some (.e1 s)) (by omega) (fun m j hj => by
    show Sp.L_6_37_0_0 (m + 1) l l.length j s = _
    have hx := h (l.getD j (Ty.dflt (.pair (.int .i64) (.pair (.int .i64) (.pair .bool .unit))))) (by rw [getD_at _ hj]; exact List.getElem_mem hj)
    rw [Sp.L_6_37_0_0, cond_dtt (by omega), gd_inB (by omega) (by omega), Int.toNat_natCast, hx, wi64 (by omega) (by omega)]
    rfl) (fun m => by
    show Sp.L_6_37_0_0 (m + 1) l l.length l.length s = _
    rw [Sp.L_6_37_0_0, cond_dff (by omega)])
  rw [this, fnd_none.2 (fun _ _ _ => rfl)]
theorem plain_6 (s : StT) (l : List SwT) (n u : Int) (_ : wfD (.pair .bool (.pair (.int .i64) (.pair (.int .i64) .unit))) s) (_ : wfD (.slice (.pair (.int .i64) (.pair (.int .i64) (.pair .bool .unit)))) l) (_ : wfD (.int .i64) n) (_ : wfD (.int .i64) u) : F_6 s l n u = some true := by
  have hp := pv_16 _ _ (pass_ok s l)
  unfold F_6
  rw [aw_pv.1, aw_pv.2, gd_tt]
  simp only [Bool.not_true, cond_f]
  by_cases h0 : (l.length : Int) > 100
  · rw [cond_dtt h0]
  rw [cond_dff h0, hp.1, hp.2, gd_tt]
  by_cases hv : Sp.stv s = true ∧ Sp.lst l = true
  rotate_left
  · rw [if_neg hv, cond_ntt (by decide)]; rfl
  rw [if_pos hv, cond_nff rfl]
  dsimp only
  have hl := lst_filter s hv.2
  have ho := pv_17 _ _ _ (outs_ok n (l.filter (Sp.keep s)) u)
  rw [hl, if_pos rfl] at ho
  rw [ho.1, ho.2, gd_tt]
  by_cases hr : 1 ≤ n ∧ n ≤ 16
  rotate_left
  · rw [if_neg hr, cond_ntt (by decide)]
    by_cases a : n < 1
    · rw [cond_dtt a]
    · rw [cond_dff a, decide_eq_true (by omega)]
  rw [if_pos hr, cond_nff rfl]
  dsimp only
  obtain ⟨k, rfl⟩ := Int.eq_ofNat_of_zero_le (show 0 ≤ n by omega)
  have hk := outs_len k (l.filter (Sp.keep s)) u
  have hfl := filt_len s (lst_len hv.2)
  cases hs : s.1
  · simp only [Bool.not_false, cond_t]
    have hoff : ∀ x ∈ l.filter (Sp.keep s), x.2.2.1 = false := fun x hx => by
      have := (List.mem_filter.1 hx).2
      unfold Sp.keep at this
      rw [hs] at this
      simpa using this
    have hc := pv_22 _ _ (cont_ok (Sp.outs (Int.toNat k) (l.filter (Sp.keep s)) u) (by rw [outs_len]; omega) (outs_off _ _ _ hoff))
    rw [hc.1, hc.2, gd_tt]
    simp only [Bool.not_false, cond_t]
    rw [cf_loop s _ hfl hoff]
    rfl
  · simp only [Bool.not_true, cond_f]
    rw [filt_on hs] at *
    have ho2 := pv_17 _ _ _ (outs_ok (k : Int) l u)
    rw [hv.2, if_pos rfl, if_pos hr] at ho2
    have e1 := pv_25 _ _ (eqB_ok (Sp.outs (Int.toNat k) l u) (Sp.outs (Int.toNat k) l u) (by rw [outs_len]; omega))
    have e2 := pv_19 _ _ (eqS_ok l l (by omega))
    rw [ho2.1, ho2.2, gd_tt, cond_ett rfl, e1.1, e1.2, gd_tt, decide_eq_true rfl, cond_t, e2.1, e2.2, gd_tt, decide_eq_true rfl]
end Go.Ev
