/- Helpers: functions of the program as Lean functions, and what they compute. No condition. -/
import Derived.Test.YtjfmjhfdonpnmaaE3P5
import Derived.Test.YtjfmjhfdonpnmaaG3P2
import Derived.Test.YtjfmjhfdonpnmaaG3P3
set_option maxRecDepth 10000
set_option linter.unusedVariables false
set_option linter.unusedSimpArgs false
set_option linter.unusedSimpArgs false
set_option linter.unusedVariables false
namespace Go.Ev
open Go
set_option maxRecDepth 100000
set_option maxHeartbeats 4000000
abbrev RxT := List Int × Int × Int × List Int × Int × Unit
abbrev AcT := Int × List Int × Unit
namespace Sp
noncomputable def rin (x l h : Int) : Bool := decide (l ≤ x) && decide (x ≤ h)
/-- A name. -/
noncomputable def nm (s : List Int) : Bool := rin s.length 1 24 && (fnd (fun j => !rin (s.getD j 0) 33 126) s.length 0).isNone
noncomputable def cbad (l : List Int) (n : Int) (j : Nat) : Bool := decide (l.getD j 0 < 0) || (decide (l.getD j 0 ≥ n) || (decide (0 < j) && decide (l.getD j 0 ≤ l.getD (j - 1) 0)))
/-- Causes. -/
noncomputable def cz (l : List Int) (n : Int) : Bool := (fnd (cbad l n) l.length 0).isNone
noncomputable def rt0 (r : RxT) : Bool := nm r.1 && (rin r.2.1 0 15 && (rin r.2.2.1 0 15 && (rin r.2.2.2.1.length 1 16 && rin r.2.2.2.2.1 (-5000) 10000)))
noncomputable def rt (r : RxT) (n : Int) : Bool := rt0 r && cz r.2.2.2.1 n
/-- The name comes before. -/
noncomputable def bef (l : List RxT) (i : Nat) : Bool := !(fnd (fun k => (l.getD k (Ty.dflt (.pair .str (.pair (.int .i64) (.pair (.int .i64) (.pair (.slice (.int .i64)) (.pair (.int .i64) .unit))))))).1 == (l.getD i (Ty.dflt (.pair .str (.pair (.int .i64) (.pair (.int .i64) (.pair (.slice (.int .i64)) (.pair (.int .i64) .unit))))))).1) i 0).isNone
/-- A valid list of reactions. -/
noncomputable def rv (l : List RxT) (n : Int) : Bool := rin n 0 64 && (decide (l.length ≤ 64) && (List.range l.length).all fun i => rt (l.getD i (Ty.dflt (.pair .str (.pair (.int .i64) (.pair (.int .i64) (.pair (.slice (.int .i64)) (.pair (.int .i64) .unit))))))) n && !bef l i)
end Sp
theorem rin_iff {x l h : Int} : Sp.rin x l h = true ↔ l ≤ x ∧ x ≤ h := by simp [Sp.rin]
theorem rin_f {x l h : Int} (k : x < l ∨ h < x) : Sp.rin x l h = false := by
  unfold Sp.rin
  rcases k with k | k
  · rw [decide_eq_false (by omega)]; rfl
  · rw [decide_eq_false (p := x ≤ h) (by omega), Bool.and_false]
theorem rin_t {x l h : Int} (k1 : l ≤ x) (k2 : x ≤ h) : Sp.rin x l h = true := rin_iff.2 ⟨k1, k2⟩
theorem nm_lo {s : List Int} (h : (s.length : Int) < 1) : Sp.nm s = false := by unfold Sp.nm; rw [rin_f (Or.inl h)]; rfl
theorem nm_hi {s : List Int} (h : (s.length : Int) > 24) : Sp.nm s = false := by unfold Sp.nm; rw [rin_f (Or.inr h)]; rfl
theorem nm_in {s : List Int} (h : ¬ (s.length : Int) < 1) (h' : ¬ (s.length : Int) > 24) : Sp.nm s = (fnd (fun j => !Sp.rin (s.getD j 0) 33 126) s.length 0).isNone := by unfold Sp.nm; rw [rin_t (by omega) (by omega)]; rfl
theorem nm_ok (s : List Int) : F_57 s = some (Sp.nm s, ()) := by
  unfold F_57
  by_cases h1 : (s.length : Int) < 1
  · rw [cond_dtt h1, nm_lo h1]
  by_cases h2 : (s.length : Int) > 24
  · rw [cond_dff h1, cond_dtt h2, nm_hi h2]
  rw [cond_dff h1, cond_dff h2, nm_in h1 h2]
  have hf := find0 (fun m i => Sp.L_57_0 m s s.length i) (n := s.length) (fun j => !Sp.rin (s.getD j 0) 33 126) (ex := fun _ => some .e0) (e1 := some .e1) (by omega) (fun m j hj => by
    show Sp.L_57_0 (m + 1) s s.length j = bif !Sp.rin (s.getD j 0) 33 126 then some .e0 else Sp.L_57_0 m s s.length ((j + 1 : Nat) : Int)
    rw [Sp.L_57_0, cond_dtt (by omega), gd_inB (by omega) (by omega), gd_inB (by omega) (by omega), Int.toNat_natCast, wi64 (by omega) (by omega)]
    by_cases a : s.getD j 0 < 33
    · rw [cond_dtt a, rin_f (Or.inl a)]; rfl
    by_cases b : s.getD j 0 > 126
    · rw [cond_dff a, cond_dtt b, rin_f (Or.inr b)]; rfl
    rw [cond_dff a, cond_dff b, rin_t (by omega) (by omega)]
    push_cast
    rfl) (fun m => by
    show Sp.L_57_0 (m + 1) s s.length s.length = _
    rw [Sp.L_57_0, cond_dff (by omega)])
  rw [hf]
  cases fnd (fun j => !Sp.rin (s.getD j 0) 33 126) s.length 0 <;> rfl
theorem nm_pv (s : List Int) : Sp.p_57 s = true ∧ Sp.v_57 s = (Sp.nm s, ()) := pv_57 s (nm_ok s)
theorem rnm_ok (s : List Int) : F_39 s = some (Sp.nm s, ()) := by
  unfold F_39
  by_cases h1 : (s.length : Int) < 1
  · rw [cond_dtt h1, nm_lo h1]
  by_cases h2 : (s.length : Int) > 24
  · rw [cond_dff h1, cond_dtt h2, nm_hi h2]
  rw [cond_dff h1, cond_dff h2, nm_in h1 h2]
  have hf := find0 (fun m i => Sp.L_39_0 m s i) (n := s.length) (fun j => !Sp.rin (s.getD j 0) 33 126) (ex := fun _ => some .e0) (e1 := some .e1) (by omega) (fun m j hj => by
    show Sp.L_39_0 (m + 1) s j = bif !Sp.rin (s.getD j 0) 33 126 then some .e0 else Sp.L_39_0 m s ((j + 1 : Nat) : Int)
    rw [Sp.L_39_0, cond_dtt (by omega), gd_inB (by omega) (by omega), gd_inB (by omega) (by omega), Int.toNat_natCast, wi64 (by omega) (by omega)]
    by_cases a : s.getD j 0 < 33
    · rw [cond_dtt a, rin_f (Or.inl a)]; rfl
    by_cases b : s.getD j 0 > 126
    · rw [cond_dff a, cond_dtt b, rin_f (Or.inr b)]; rfl
    rw [cond_dff a, cond_dff b, rin_t (by omega) (by omega)]
    push_cast
    rfl) (fun m => by
    show Sp.L_39_0 (m + 1) s s.length = _
    rw [Sp.L_39_0, cond_dff (by omega)])
  rw [hf]
  cases fnd (fun j => !Sp.rin (s.getD j 0) 33 126) s.length 0 <;> rfl
theorem rnm_pv (s : List Int) : Sp.p_39 s = true ∧ Sp.v_39 s = (Sp.nm s, ()) := pv_39 s (rnm_ok s)
/-- A chain of tests. -/
theorem chain_rt {R : Type} (r : RxT) (nmb : Bool) (h : nmb = Sp.nm r.1) (x y : R) : (bif !nmb then x else bif decide (r.2.1 < 0) then x else bif decide (r.2.1 > 15) then x else bif decide (r.2.2.1 < 0) then x else bif decide (r.2.2.1 > 15) then x else bif decide ((r.2.2.2.1.length : Int) < 1) then x else bif decide ((r.2.2.2.1.length : Int) > 16) then x else bif decide (r.2.2.2.2.1 < -5000) then x else bif decide (r.2.2.2.2.1 > 10000) then x else y) = bif Sp.rt0 r then y else x := by
  subst h
  unfold Sp.rt0
  cases Sp.nm r.1
  · rfl
  rw [Bool.not_true, cond_f, Bool.true_and]
  by_cases a1 : r.2.1 < 0
  · rw [cond_dtt a1, rin_f (Or.inl a1)]; rfl
  by_cases a2 : r.2.1 > 15
  · rw [cond_dff a1, cond_dtt a2, rin_f (Or.inr a2)]; rfl
  rw [cond_dff a1, cond_dff a2, rin_t (by omega) (by omega), Bool.true_and]
  by_cases a3 : r.2.2.1 < 0
  · rw [cond_dtt a3, rin_f (Or.inl a3)]; rfl
  by_cases a4 : r.2.2.1 > 15
  · rw [cond_dff a3, cond_dtt a4, rin_f (Or.inr a4)]; rfl
  rw [cond_dff a3, cond_dff a4, rin_t (by omega) (by omega), Bool.true_and]
  by_cases a5 : (r.2.2.2.1.length : Int) < 1
  · rw [cond_dtt a5, rin_f (Or.inl a5)]; rfl
  by_cases a6 : (r.2.2.2.1.length : Int) > 16
  · rw [cond_dff a5, cond_dtt a6, rin_f (Or.inr a6)]; rfl
  rw [cond_dff a5, cond_dff a6, rin_t (by omega) (by omega), Bool.true_and]
  by_cases a7 : r.2.2.2.2.1 < -5000
  · rw [cond_dtt a7, rin_f (Or.inl a7)]; rfl
  by_cases a8 : r.2.2.2.2.1 > 10000
  · rw [cond_dff a7, cond_dtt a8, rin_f (Or.inr a8)]; rfl
  rw [cond_dff a7, cond_dff a8, rin_t (by omega) (by omega)]
  rfl
theorem rt0_len {r : RxT} (h : Sp.rt0 r = true) : 1 ≤ r.2.2.2.1.length ∧ r.2.2.2.1.length ≤ 16 := by
  unfold Sp.rt0 at h
  simp only [Bool.and_eq_true, rin_iff] at h
  omega
theorem rt_ok (r : RxT) (n : Int) : F_51 r n = some (Sp.rt r n, ()) := by
  unfold F_51
  rw [(nm_pv r.1).1, (nm_pv r.1).2, gd_tt, chain_rt r _ rfl]
  unfold Sp.rt
  cases h : Sp.rt0 r
  · rfl
  obtain ⟨l1, l2⟩ := rt0_len h
  rw [cond_t, Bool.true_and]
  have hf := find0 (fun m i => Sp.L_51_0 m n r.2.2.2.1 r.2.2.2.1.length i r) (n := r.2.2.2.1.length) (Sp.cbad r.2.2.2.1 n) (ex := fun _ => some .e0) (e1 := some .e1) (by omega) (fun m j hj => by
    show Sp.L_51_0 (m + 1) n r.2.2.2.1 r.2.2.2.1.length j r = bif Sp.cbad r.2.2.2.1 n j then some .e0 else Sp.L_51_0 m n r.2.2.2.1 r.2.2.2.1.length ((j + 1 : Nat) : Int) r
    rw [Sp.L_51_0, cond_dtt (by omega), gd_inB (by omega) (by omega), Int.toNat_natCast, wi64 (n := (j : Int) + 1) (by omega) (by omega)]
    unfold Sp.cbad
    by_cases a : r.2.2.2.1.getD j 0 < 0
    · rw [cond_dtt a, decide_eq_true a]; rfl
    by_cases b : r.2.2.2.1.getD j 0 ≥ n
    · rw [cond_dff a, cond_dtt b, decide_eq_false a, decide_eq_true b]; rfl
    rw [cond_dff a, cond_dff b, decide_eq_false a, decide_eq_false b, Bool.false_or, Bool.false_or]
    by_cases c : (j : Int) > 0
    · rw [cond_dtt c, wi64 (by omega) (by omega), gd_inB (by omega) (by omega), decide_eq_true (show 0 < j by omega), Bool.true_and, show Int.toNat ((j : Int) - 1) = j - 1 by omega]
      push_cast
      rfl
    · rw [cond_dff c, decide_eq_false (show ¬ 0 < j by omega), Bool.false_and]
      push_cast
      rfl) (fun m => by
    show Sp.L_51_0 (m + 1) n r.2.2.2.1 r.2.2.2.1.length r.2.2.2.1.length r = _
    rw [Sp.L_51_0, cond_dff (by omega)])
  rw [hf]
  unfold Sp.cz
  cases fnd (Sp.cbad r.2.2.2.1 n) r.2.2.2.1.length 0 <;> rfl
theorem rt_pv (r : RxT) (n : Int) : Sp.p_51 r n = true ∧ Sp.v_51 r n = (Sp.rt r n, ()) := pv_51 r n (rt_ok r n)
namespace Sp
noncomputable def dq : List RxT → List (List Int) → Bool
  | [], _ => true
  | r :: l, seen => !seen.contains r.1 && dq l (seen ++ [r.1])
end Sp
theorem rvl_eq (n : Int) : ∀ (l : List RxT) (seen : List (List Int)), Sp.rvl n l seen = some (l.all (fun r => Sp.rt r n) && Sp.dq l seen)
  | [], seen => rfl
  | r :: l, seen => by
    rw [Sp.rvl, (rt_pv r n).1, (rt_pv r n).2, gd_tt, rvl_eq n l, List.all_cons, Sp.dq]
    cases Sp.rt r n <;> cases seen.contains r.1 <;> cases l.all (fun r => Sp.rt r n) <;> rfl
theorem dq_iff : ∀ (l : List RxT) (seen : List (List Int)), Sp.dq l seen = true ↔ ∀ i, i < l.length → (l.getD i (Ty.dflt (.pair .str (.pair (.int .i64) (.pair (.int .i64) (.pair (.slice (.int .i64)) (.pair (.int .i64) .unit))))))).1 ∉ seen ∧ ∀ k, k < i → (l.getD k (Ty.dflt (.pair .str (.pair (.int .i64) (.pair (.int .i64) (.pair (.slice (.int .i64)) (.pair (.int .i64) .unit))))))).1 ≠ (l.getD i (Ty.dflt (.pair .str (.pair (.int .i64) (.pair (.int .i64) (.pair (.slice (.int .i64)) (.pair (.int .i64) .unit))))))).1
  | [], seen => by simp [Sp.dq]
  | r :: l, seen => by
    rw [Sp.dq, Bool.and_eq_true, dq_iff l]
    constructor
    · rintro ⟨h1, h2⟩ i hi
      cases i with
      | zero => exact ⟨by simpa using h1, fun k hk => by omega⟩
      | succ i =>
        obtain ⟨h3, h4⟩ := h2 i (by simpa using hi)
        rw [List.getD_cons_succ]
        refine ⟨fun h => h3 (List.mem_append_left _ h), fun k hk => ?_⟩
        cases k with
        | zero =>
          rw [List.getD_cons_zero]
          intro h
          exact h3 (List.mem_append_right _ (by rw [← h]; exact List.mem_singleton_self _))
        | succ k => rw [List.getD_cons_succ]; exact h4 k (by omega)
    · intro h
      refine ⟨by have := (h 0 (by simp)).1; simpa using this, fun i hi => ?_⟩
      obtain ⟨h3, h4⟩ := h (i + 1) (by simpa using hi)
      rw [List.getD_cons_succ] at h3 h4
      refine ⟨?_, fun k hk => ?_⟩
      · simp only [List.mem_append, List.mem_singleton, not_or]
        exact ⟨h3, fun e => h4 0 (by omega) (by rw [List.getD_cons_zero]; exact e.symm)⟩
      · have := h4 (k + 1) (by omega)
        rwa [List.getD_cons_succ] at this
theorem bef_iff {l : List RxT} {i : Nat} : Sp.bef l i = false ↔ ∀ k, k < i → (l.getD k (Ty.dflt (.pair .str (.pair (.int .i64) (.pair (.int .i64) (.pair (.slice (.int .i64)) (.pair (.int .i64) .unit))))))).1 ≠ (l.getD i (Ty.dflt (.pair .str (.pair (.int .i64) (.pair (.int .i64) (.pair (.slice (.int .i64)) (.pair (.int .i64) .unit))))))).1 := by
  unfold Sp.bef
  rw [Bool.not_eq_false', Option.isNone_iff_eq_none, fnd_none]
  constructor
  · intro h k hk
    have := h k (by omega) (by omega)
    simpa using this
  · intro h k _ hk
    have := h k (by omega)
    simpa using this
theorem rv_all (l : List RxT) (n : Int) : ((List.range l.length).all fun i => Sp.rt (l.getD i (Ty.dflt (.pair .str (.pair (.int .i64) (.pair (.int .i64) (.pair (.slice (.int .i64)) (.pair (.int .i64) .unit))))))) n && !Sp.bef l i) = (l.all (fun r => Sp.rt r n) && Sp.dq l []) := by
  rw [Bool.eq_iff_iff, Bool.and_eq_true, List.all_eq_true, List.all_eq_true, dq_iff]
  simp only [List.mem_range, Bool.and_eq_true, Bool.not_eq_true', bef_iff]
  constructor
  · intro h
    refine ⟨fun r hr => ?_, fun i hi => ⟨by simp, (h i hi).2⟩⟩
    obtain ⟨i, hi, rfl⟩ := List.getElem_of_mem hr
    have := (h i hi).1
    rwa [getD_at _ hi] at this
  · rintro ⟨h1, h2⟩ i hi
    exact ⟨h1 _ (by rw [getD_at _ hi]; exact List.getElem_mem hi), (h2 i hi).2⟩
theorem rv_ok (l : List RxT) (n : Int) : F_37 l n = some (Sp.rv l n, ()) := by
  unfold F_37 Sp.rv
  by_cases h1 : n < 0
  · rw [cond_dtt h1, rin_f (Or.inl h1)]; rfl
  by_cases h2 : n > 64
  · rw [cond_dff h1, cond_dtt h2, rin_f (Or.inr h2)]; rfl
  rw [cond_dff h1, cond_dff h2, rin_t (by omega) (by omega), Bool.true_and]
  by_cases h3 : (l.length : Int) > 64
  · rw [cond_dtt h3, decide_eq_false (by omega)]; rfl
  rw [cond_dff h3, decide_eq_true (by omega), Bool.true_and, rv_all, rvl_eq]
  rfl
theorem rv_pv (l : List RxT) (n : Int) : Sp.p_37 l n = true ∧ Sp.v_37 l n = (Sp.rv l n, ()) := pv_37 l n (rv_ok l n)
theorem rlv1 {l : List RxT} {n : Int} {i : Nat} (hi : i < l.length) (hl : l.length ≤ 64) : Sp.L_11_1 4611686018427387904 l n i 0 (l.getD i (Ty.dflt (.pair .str (.pair (.int .i64) (.pair (.int .i64) (.pair (.slice (.int .i64)) (.pair (.int .i64) .unit))))))) = if Sp.bef l i = true then some .e0 else some (.e1 l n i (l.getD i (Ty.dflt (.pair .str (.pair (.int .i64) (.pair (.int .i64) (.pair (.slice (.int .i64)) (.pair (.int .i64) .unit)))))))) := by
  have hf := find0 (fun m k => Sp.L_11_1 m l n i k (l.getD i (Ty.dflt (.pair .str (.pair (.int .i64) (.pair (.int .i64) (.pair (.slice (.int .i64)) (.pair (.int .i64) .unit)))))))) (n := i) (fun k => (l.getD k (Ty.dflt (.pair .str (.pair (.int .i64) (.pair (.int .i64) (.pair (.slice (.int .i64)) (.pair (.int .i64) .unit))))))).1 == (l.getD i (Ty.dflt (.pair .str (.pair (.int .i64) (.pair (.int .i64) (.pair (.slice (.int .i64)) (.pair (.int .i64) .unit))))))).1) (ex := fun _ => some .e0) (e1 := some (.e1 l n i (l.getD i (Ty.dflt (.pair .str (.pair (.int .i64) (.pair (.int .i64) (.pair (.slice (.int .i64)) (.pair (.int .i64) .unit))))))))) (by omega) (fun m j hj => by
    show Sp.L_11_1 (m + 1) l n i j (l.getD i (Ty.dflt (.pair .str (.pair (.int .i64) (.pair (.int .i64) (.pair (.slice (.int .i64)) (.pair (.int .i64) .unit))))))) = bif (l.getD j (Ty.dflt (.pair .str (.pair (.int .i64) (.pair (.int .i64) (.pair (.slice (.int .i64)) (.pair (.int .i64) .unit))))))).1 == (l.getD i (Ty.dflt (.pair .str (.pair (.int .i64) (.pair (.int .i64) (.pair (.slice (.int .i64)) (.pair (.int .i64) .unit))))))).1 then some .e0 else Sp.L_11_1 m l n i ((j + 1 : Nat) : Int) (l.getD i (Ty.dflt (.pair .str (.pair (.int .i64) (.pair (.int .i64) (.pair (.slice (.int .i64)) (.pair (.int .i64) .unit)))))))
    rw [Sp.L_11_1, cond_dtt (by omega), gd_inB (by omega) (by omega), Int.toNat_natCast, wi64 (by omega) (by omega)]
    push_cast
    rfl) (fun m => by
    show Sp.L_11_1 (m + 1) l n i i (l.getD i (Ty.dflt (.pair .str (.pair (.int .i64) (.pair (.int .i64) (.pair (.slice (.int .i64)) (.pair (.int .i64) .unit))))))) = _
    rw [Sp.L_11_1, cond_dff (by omega)])
  have e1 : Sp.L_11_1 4611686018427387904 l n i 0 (l.getD i (Ty.dflt (.pair .str (.pair (.int .i64) (.pair (.int .i64) (.pair (.slice (.int .i64)) (.pair (.int .i64) .unit))))))) = _ := hf
  rw [e1]
  unfold Sp.bef
  cases fnd (fun k => (l.getD k (Ty.dflt (.pair .str (.pair (.int .i64) (.pair (.int .i64) (.pair (.slice (.int .i64)) (.pair (.int .i64) .unit))))))).1 == (l.getD i (Ty.dflt (.pair .str (.pair (.int .i64) (.pair (.int .i64) (.pair (.slice (.int .i64)) (.pair (.int .i64) .unit))))))).1) i 0 <;> rfl
theorem rlv2 {l : List RxT} {n i : Int} {r : RxT} (hr : r.2.2.2.1.length ≤ 16) : Sp.L_11_2 4611686018427387904 l n i 0 r = if Sp.cz r.2.2.2.1 n = true then some (.e1 l n i) else some .e0 := by
  have hf := find0 (fun m k => Sp.L_11_2 m l n i k r) (n := r.2.2.2.1.length) (Sp.cbad r.2.2.2.1 n) (ex := fun _ => some .e0) (e1 := some (.e1 l n i)) (by omega) (fun m j hj => by
    show Sp.L_11_2 (m + 1) l n i j r = bif Sp.cbad r.2.2.2.1 n j then some .e0 else Sp.L_11_2 m l n i ((j + 1 : Nat) : Int) r
    rw [Sp.L_11_2, cond_dtt (by omega), gd_inB (by omega) (by omega), gd_inB (by omega) (by omega), gd_inB (by omega) (by omega), Int.toNat_natCast, wi64 (n := (j : Int) + 1) (by omega) (by omega)]
    unfold Sp.cbad
    by_cases a : r.2.2.2.1.getD j 0 < 0
    · rw [cond_dtt a, decide_eq_true a]; rfl
    by_cases b : r.2.2.2.1.getD j 0 ≥ n
    · rw [cond_dff a, cond_dtt b, decide_eq_false a, decide_eq_true b]; rfl
    rw [cond_dff a, cond_dff b, decide_eq_false a, decide_eq_false b, Bool.false_or, Bool.false_or]
    by_cases c : (j : Int) > 0
    · rw [cond_dtt c, wi64 (by omega) (by omega), gd_inB (by omega) (by omega), decide_eq_true (show 0 < j by omega), Bool.true_and, show Int.toNat ((j : Int) - 1) = j - 1 by omega]
      push_cast
      rfl
    · rw [cond_dff c, decide_eq_false (show ¬ 0 < j by omega), Bool.false_and]
      push_cast
      rfl) (fun m => by
    show Sp.L_11_2 (m + 1) l n i r.2.2.2.1.length r = _
    rw [Sp.L_11_2, cond_dff (by omega)])
  have e1 : Sp.L_11_2 4611686018427387904 l n i 0 r = _ := hf
  rw [e1]
  unfold Sp.cz
  cases fnd (Sp.cbad r.2.2.2.1 n) r.2.2.2.1.length 0 <;> rfl
theorem rrv_ok (l : List RxT) (n : Int) : F_11 l n = some (Sp.rv l n, ()) := by
  unfold F_11 Sp.rv
  by_cases h3 : (l.length : Int) > 64
  · rw [cond_dtt h3, decide_eq_false (p := l.length ≤ 64) (by omega), Bool.false_and, Bool.and_false]
  rw [cond_dff h3, decide_eq_true (p := l.length ≤ 64) (by omega), Bool.true_and]
  by_cases h1 : n < 0
  · rw [cond_dtt h1, rin_f (Or.inl h1)]; rfl
  by_cases h2 : n > 64
  · rw [cond_dff h1, cond_dtt h2, rin_f (Or.inr h2)]; rfl
  rw [cond_dff h1, cond_dff h2, rin_t (by omega) (by omega), Bool.true_and]
  have ha := all0 (fun m i => Sp.L_11_0 m l n i) (n := l.length) (fun i => Sp.rt (l.getD i (Ty.dflt (.pair .str (.pair (.int .i64) (.pair (.int .i64) (.pair (.slice (.int .i64)) (.pair (.int .i64) .unit))))))) n && !Sp.bef l i) (e0 := some .e0) (e1 := some .e1) (by omega) (fun m j hj => by
    show Sp.L_11_0 (m + 1) l n j = bif Sp.rt (l.getD j (Ty.dflt (.pair .str (.pair (.int .i64) (.pair (.int .i64) (.pair (.slice (.int .i64)) (.pair (.int .i64) .unit))))))) n && !Sp.bef l j then Sp.L_11_0 m l n ((j + 1 : Nat) : Int) else some .e0
    rw [Sp.L_11_0, cond_dtt (by omega), gd_inB (by omega) (by omega), Int.toNat_natCast, (rnm_pv _).1, (rnm_pv _).2, gd_tt, chain_rt (l.getD j (Ty.dflt (.pair .str (.pair (.int .i64) (.pair (.int .i64) (.pair (.slice (.int .i64)) (.pair (.int .i64) .unit))))))) _ rfl, rlv1 hj (by omega)]
    unfold Sp.rt
    cases h : Sp.rt0 (l.getD j (Ty.dflt (.pair .str (.pair (.int .i64) (.pair (.int .i64) (.pair (.slice (.int .i64)) (.pair (.int .i64) .unit)))))))
    · rfl
    rw [cond_t, Bool.true_and]
    cases hb : Sp.bef l j
    · rw [if_neg (by decide)]
      simp only [Sp.B_11_1]
      rw [rlv2 (rt0_len h).2]
      cases hc : Sp.cz (l.getD j (Ty.dflt (.pair .str (.pair (.int .i64) (.pair (.int .i64) (.pair (.slice (.int .i64)) (.pair (.int .i64) .unit))))))).2.2.2.1 n
      · rfl
      · rw [if_pos rfl]
        simp only [Sp.B_11_2]
        rw [wi64 (by omega) (by omega)]
        push_cast
        rfl
    · rw [if_pos rfl, Bool.not_true, Bool.and_false]
      rfl) (fun m => by
    show Sp.L_11_0 (m + 1) l n l.length = _
    rw [Sp.L_11_0, cond_dff (by omega)])
  rw [ha]
  cases (List.range l.length).all fun i => Sp.rt (l.getD i (Ty.dflt (.pair .str (.pair (.int .i64) (.pair (.int .i64) (.pair (.slice (.int .i64)) (.pair (.int .i64) .unit))))))) n && !Sp.bef l i <;> rfl
theorem rrv_pv (l : List RxT) (n : Int) : Sp.p_11 l n = true ∧ Sp.v_11 l n = (Sp.rv l n, ()) := pv_11 l n (rrv_ok l n)
end Go.Ev
set_option linter.unusedSimpArgs false
set_option linter.unusedVariables false
namespace Go.Ev
open Go
set_option maxRecDepth 100000
set_option maxHeartbeats 4000000
abbrev CfT := Int × Int × Int × Int × Int × Int × Bool × Int × Unit
abbrev FaT := Int × Int × Int × Int × Int × List Int × Int × Unit
abbrev FsT := List CfT × List FaT × Int × Bool × Unit
theorem aw : F_8 = some (true, ()) := by kernel_rfl
theorem aw_pv : Sp.p_8 = true ∧ Sp.v_8 = (true, ()) := pv_8 aw
theorem few_pv (l : List RxT) (F : FsT) : Sp.p_9 l F = true ∧ ((Sp.v_9 l F).1 = true → l.length ≤ 70 ∧ F.1.length ≤ 70 ∧ F.2.1.length ≤ 70 ∧ ∀ j, j < F.2.1.length → (F.2.1.getD j Zd2).2.2.2.2.2.1.length ≤ 20) := by
  have hF : ∃ b, F_9 l F = some (b, ()) ∧ (b = true → l.length ≤ 70 ∧ F.1.length ≤ 70 ∧ F.2.1.length ≤ 70 ∧ ∀ j, j < F.2.1.length → (F.2.1.getD j Zd2).2.2.2.2.2.1.length ≤ 20) := by
    unfold F_9
    by_cases h1 : (l.length : Int) ≤ 70
    rotate_left
    · rw [cond_dff h1]; exact ⟨false, rfl, fun h => by cases h⟩
    by_cases h2 : (F.1.length : Int) ≤ 70
    rotate_left
    · rw [cond_dtt h1, cond_dff h2]; exact ⟨false, rfl, fun h => by cases h⟩
    by_cases h3 : (F.2.1.length : Int) ≤ 70
    rotate_left
    · rw [cond_dtt h1, cond_dtt h2, cond_dff h3]; exact ⟨false, rfl, fun h => by cases h⟩
    rw [cond_dtt h1, cond_dtt h2, cond_dtt h3]
    have hf := find0 (fun m i => Sp.L_9_49_0_0 m l l.length i F) (n := l.length) (fun j => decide (((l.getD j (Ty.dflt (.pair .str (.pair (.int .i64) (.pair (.int .i64) (.pair (.slice (.int .i64)) (.pair (.int .i64) .unit))))))).2.2.2.1.length : Int) > 20) || decide (((l.getD j (Ty.dflt (.pair .str (.pair (.int .i64) (.pair (.int .i64) (.pair (.slice (.int .i64)) (.pair (.int .i64) .unit))))))).1.length : Int) > 60)) (ex := fun j => some (.e0 (j : Int) F)) (e1 := some (.e1 F)) (by omega) (fun m j hj => by
      show Sp.L_9_49_0_0 (m + 1) l l.length j F = bif decide (((l.getD j (Ty.dflt (.pair .str (.pair (.int .i64) (.pair (.int .i64) (.pair (.slice (.int .i64)) (.pair (.int .i64) .unit))))))).2.2.2.1.length : Int) > 20) || decide (((l.getD j (Ty.dflt (.pair .str (.pair (.int .i64) (.pair (.int .i64) (.pair (.slice (.int .i64)) (.pair (.int .i64) .unit))))))).1.length : Int) > 60) then some (.e0 (j : Int) F) else Sp.L_9_49_0_0 m l l.length ((j + 1 : Nat) : Int) F
      rw [Sp.L_9_49_0_0, cond_dtt (by omega), gd_inB (by omega) (by omega), Int.toNat_natCast, wi64 (by omega) (by omega)]
      push_cast
      cases decide (((l.getD j (Ty.dflt (.pair .str (.pair (.int .i64) (.pair (.int .i64) (.pair (.slice (.int .i64)) (.pair (.int .i64) .unit))))))).2.2.2.1.length : Int) > 20) <;> rfl) (fun m => by
      show Sp.L_9_49_0_0 (m + 1) l l.length l.length F = _
      rw [Sp.L_9_49_0_0, cond_dff (by omega)])
    have hg := find0 (fun m i => Sp.L_9_50_0_0 m F.2.1 F.2.1.length i F) (n := F.2.1.length) (fun j => decide (((F.2.1.getD j Zd2).2.2.2.2.2.1.length : Int) > 20)) (ex := fun j => some (.e0 (j : Int) F)) (e1 := some (.e1 F)) (by omega) (fun m j hj => by
      show Sp.L_9_50_0_0 (m + 1) F.2.1 F.2.1.length j F = bif decide (((F.2.1.getD j Zd2).2.2.2.2.2.1.length : Int) > 20) then some (.e0 (j : Int) F) else Sp.L_9_50_0_0 m F.2.1 F.2.1.length ((j + 1 : Nat) : Int) F
      rw [Sp.L_9_50_0_0, cond_dtt (by omega), gd_inB (by omega) (by omega), Int.toNat_natCast, wi64 (by omega) (by omega)]
      push_cast
      rfl) (fun m => by
      show Sp.L_9_50_0_0 (m + 1) F.2.1 F.2.1.length F.2.1.length F = _
      rw [Sp.L_9_50_0_0, cond_dff (by omega)])
    rw [hf]
    cases e : fnd (fun j => decide (((l.getD j (Ty.dflt (.pair .str (.pair (.int .i64) (.pair (.int .i64) (.pair (.slice (.int .i64)) (.pair (.int .i64) .unit))))))).2.2.2.1.length : Int) > 20) || decide (((l.getD j (Ty.dflt (.pair .str (.pair (.int .i64) (.pair (.int .i64) (.pair (.slice (.int .i64)) (.pair (.int .i64) .unit))))))).1.length : Int) > 60)) l.length 0 with
    | some k =>
      simp only [Sp.B_9_49_0_0]
      rw [decide_eq_true (by omega)]
      exact ⟨false, rfl, fun h => by cases h⟩
    | none =>
      simp only [Sp.B_9_49_0_0]
      rw [hg]
      cases e : fnd (fun j => decide (((F.2.1.getD j Zd2).2.2.2.2.2.1.length : Int) > 20)) F.2.1.length 0 with
      | some k =>
        simp only [Sp.B_9_50_0_0]
        rw [decide_eq_true (by omega)]
        exact ⟨false, rfl, fun h => by cases h⟩
      | none =>
        refine ⟨true, rfl, fun _ => ⟨by omega, by omega, by omega, fun j hj => ?_⟩⟩
        have := (fnd_none.1 e) j (by omega) (by omega)
        simp only [decide_eq_false_iff_not] at this
        omega
  obtain ⟨b, hb, hh⟩ := hF
  have hq := pv_9 _ _ hb
  exact ⟨hq.1, by rw [hq.2]; exact hh⟩
namespace Sp
/-- The reaction of an element. -/
noncomputable def rx (l : List RxT) (a : List AcT) (j : Nat) : RxT := l.getD (a.getD j Zd0).1.toNat (Ty.dflt (.pair .str (.pair (.int .i64) (.pair (.int .i64) (.pair (.slice (.int .i64)) (.pair (.int .i64) .unit))))))
noncomputable def abad (l : List RxT) (a : List AcT) (j : Nat) : Bool := decide ((a.getD j Zd0).1 < 0) || decide ((a.getD j Zd0).1 ≥ l.length)
noncomputable def aok (l : List RxT) (a : List AcT) : Bool := (fnd (abad l a) a.length 0).isNone
/-- Limit and priority after so many elements. -/
noncomputable def lms (l : List RxT) (a : List AcT) (g o : Int) : Nat → Int × Int
  | 0 => (o, -1)
  | j + 1 => if ¬ (rx l a j).2.1 = g ∨ (rx l a j).2.2.1 < (lms l a g o j).2 then lms l a g o j
    else if (rx l a j).2.2.1 > (lms l a g o j).2 then ((rx l a j).2.2.2.2.1, (rx l a j).2.2.1)
    else ((if (rx l a j).2.2.2.2.1 < (lms l a g o j).1 then (rx l a j).2.2.2.2.1 else (lms l a g o j).1), (lms l a g o j).2)
noncomputable def lim (l : List RxT) (a : List AcT) (g o : Int) : Int × Int × Unit :=
  bif rv l 64 && (decide (a.length ≤ 64) && aok l a) then (bif rin g 0 15 then ((lms l a g o a.length).1, 0, ()) else (0, 2, ())) else (0, 1, ())
end Sp
theorem aok_at {l : List RxT} {a : List AcT} (h : Sp.aok l a = true) {j : Nat} (hj : j < a.length) : 0 ≤ (a.getD j Zd0).1 ∧ (a.getD j Zd0).1 < l.length := by
  unfold Sp.aok at h
  rw [Option.isNone_iff_eq_none, fnd_none] at h
  have := h j (by omega) (by omega)
  unfold Sp.abad at this
  simp only [Bool.or_eq_false_iff, decide_eq_false_iff_not] at this
  omega
section
variable {l : List RxT} {a : List AcT} {g o : Int}
theorem ll_run (hl : a.length ≤ 100) (h : Sp.aok l a = true) : Sp.L_10_0 4611686018427387904 g o (-1) a a.length 0 l = some (.e0 (Sp.lms l a g o a.length).1) := by
  have hr := run0 (fun m i (s : Int × Int) => Sp.L_10_0 m g s.1 s.2 a a.length i l) (n := a.length) (fun j => Sp.lms l a g o j) (r := some (.e0 (Sp.lms l a g o a.length).1)) (by omega) (fun m j hj => by
    show Sp.L_10_0 (m + 1) g (Sp.lms l a g o j).1 (Sp.lms l a g o j).2 a a.length (j : Int) l = Sp.L_10_0 m g (Sp.lms l a g o (j + 1)).1 (Sp.lms l a g o (j + 1)).2 a a.length ((j + 1 : Nat) : Int) l
    have hb := aok_at h hj
    rw [Sp.L_10_0, cond_dtt (by omega), gd_inB (by omega) (by omega), Int.toNat_natCast, gd_inB hb.1 hb.2, wi64 (by omega) (by omega), Sp.lms]
    change (bif (Sp.rx l a j).2.1 != g then _ else bif decide ((Sp.rx l a j).2.2.1 < (Sp.lms l a g o j).2) then _ else bif decide ((Sp.rx l a j).2.2.1 > (Sp.lms l a g o j).2) then Sp.L_10_0 m g (if (Sp.rx l a j).2.2.2.2.1 < (Sp.rx l a j).2.2.2.2.1 then (Sp.rx l a j).2.2.2.2.1 else (Sp.rx l a j).2.2.2.2.1) (Sp.rx l a j).2.2.1 a a.length ((j : Int) + 1) l else Sp.L_10_0 m g (if (Sp.rx l a j).2.2.2.2.1 < (Sp.lms l a g o j).1 then (Sp.rx l a j).2.2.2.2.1 else (Sp.lms l a g o j).1) (Sp.lms l a g o j).2 a a.length ((j : Int) + 1) l) = _
    push_cast
    by_cases c1 : (Sp.rx l a j).2.1 = g
    rotate_left
    · rw [cond_ntt c1, if_pos (Or.inl c1)]
    rw [cond_nff c1]
    by_cases c2 : (Sp.rx l a j).2.2.1 < (Sp.lms l a g o j).2
    · rw [cond_dtt c2, if_pos (Or.inr c2)]
    have hc : ¬ (¬ (Sp.rx l a j).2.1 = g ∨ (Sp.rx l a j).2.2.1 < (Sp.lms l a g o j).2) := fun h => h.elim (fun h => h c1) c2
    rw [cond_dff c2, if_neg hc]
    by_cases c3 : (Sp.rx l a j).2.2.1 > (Sp.lms l a g o j).2
    · rw [cond_dtt c3, if_pos c3, if_neg (Int.lt_irrefl _)]
    · rw [cond_dff c3, if_neg c3]) (fun m => by
    show Sp.L_10_0 (m + 1) g (Sp.lms l a g o a.length).1 (Sp.lms l a g o a.length).2 a a.length a.length l = _
    rw [Sp.L_10_0, cond_dff (by omega)])
  exact hr
theorem rl_run (hl : a.length ≤ 100) (h : Sp.aok l a = true) : Sp.L_14_0 4611686018427387904 l a g (-1) o 0 = some (.e0 (Sp.lms l a g o a.length).1) := by
  have hr := run0 (fun m i (s : Int × Int) => Sp.L_14_0 m l a g s.2 s.1 i) (n := a.length) (fun j => Sp.lms l a g o j) (r := some (.e0 (Sp.lms l a g o a.length).1)) (by omega) (fun m j hj => by
    show Sp.L_14_0 (m + 1) l a g (Sp.lms l a g o j).2 (Sp.lms l a g o j).1 (j : Int) = Sp.L_14_0 m l a g (Sp.lms l a g o (j + 1)).2 (Sp.lms l a g o (j + 1)).1 ((j + 1 : Nat) : Int)
    have hb := aok_at h hj
    rw [Sp.L_14_0, cond_dtt (by omega), gd_inB (by omega) (by omega), Int.toNat_natCast, gd_inB hb.1 hb.2, wi64 (by omega) (by omega), Sp.lms]
    change (bif (Sp.rx l a j).2.1 != g then _ else bif decide ((Sp.rx l a j).2.2.1 < (Sp.lms l a g o j).2) then _ else bif decide ((Sp.rx l a j).2.2.1 > (Sp.lms l a g o j).2) then Sp.L_14_0 m l a g (Sp.rx l a j).2.2.1 (if (Sp.rx l a j).2.2.2.2.1 < (Sp.rx l a j).2.2.2.2.1 then (Sp.rx l a j).2.2.2.2.1 else (Sp.rx l a j).2.2.2.2.1) ((j : Int) + 1) else Sp.L_14_0 m l a g (Sp.lms l a g o j).2 (if (Sp.rx l a j).2.2.2.2.1 < (Sp.lms l a g o j).1 then (Sp.rx l a j).2.2.2.2.1 else (Sp.lms l a g o j).1) ((j : Int) + 1)) = _
    push_cast
    by_cases c1 : (Sp.rx l a j).2.1 = g
    rotate_left
    · rw [cond_ntt c1, if_pos (Or.inl c1)]
    rw [cond_nff c1]
    by_cases c2 : (Sp.rx l a j).2.2.1 < (Sp.lms l a g o j).2
    · rw [cond_dtt c2, if_pos (Or.inr c2)]
    have hc : ¬ (¬ (Sp.rx l a j).2.1 = g ∨ (Sp.rx l a j).2.2.1 < (Sp.lms l a g o j).2) := fun h => h.elim (fun h => h c1) c2
    rw [cond_dff c2, if_neg hc]
    by_cases c3 : (Sp.rx l a j).2.2.1 > (Sp.lms l a g o j).2
    · rw [cond_dtt c3, if_pos c3, if_neg (Int.lt_irrefl _)]
    · rw [cond_dff c3, if_neg c3]) (fun m => by
    show Sp.L_14_0 (m + 1) l a g (Sp.lms l a g o a.length).2 (Sp.lms l a g o a.length).1 a.length = _
    rw [Sp.L_14_0, cond_dff (by omega)])
  exact hr
theorem lc_run (hl : a.length ≤ 100) : Sp.L_10_20_0_0 4611686018427387904 a a.length 0 l = (match fnd (Sp.abad l a) a.length 0 with | some k => some (.e0 (k : Int) l) | none => some (.e1 l)) := by
  have hf := find0 (fun m i => Sp.L_10_20_0_0 m a a.length i l) (n := a.length) (Sp.abad l a) (ex := fun j => some (.e0 (j : Int) l)) (e1 := some (.e1 l)) (by omega) (fun m j hj => by
    show Sp.L_10_20_0_0 (m + 1) a a.length j l = bif Sp.abad l a j then some (.e0 (j : Int) l) else Sp.L_10_20_0_0 m a a.length ((j + 1 : Nat) : Int) l
    rw [Sp.L_10_20_0_0, cond_dtt (by omega), gd_inB (by omega) (by omega), Int.toNat_natCast, wi64 (by omega) (by omega)]
    unfold Sp.abad
    push_cast
    cases decide ((a.getD j Zd0).1 < 0) <;> rfl) (fun m => by
    show Sp.L_10_20_0_0 (m + 1) a a.length a.length l = _
    rw [Sp.L_10_20_0_0, cond_dff (by omega)])
  exact hf
theorem lim_ok : F_10 l a g o = some (Sp.lim l a g o) := by
  unfold F_10 Sp.lim
  rw [(rv_pv l 64).1, (rv_pv l 64).2, gd_tt]
  cases Sp.rv l 64
  · rfl
  rw [Bool.not_true, cond_f, Bool.true_and]
  by_cases h1 : (a.length : Int) > 64
  · rw [cond_dtt h1, decide_eq_false (p := a.length ≤ 64) (by omega)]; rfl
  rw [cond_dff h1, decide_eq_true (p := a.length ≤ 64) (by omega), Bool.true_and, lc_run (by omega)]
  cases e : fnd (Sp.abad l a) a.length 0 with
  | some k =>
    simp only [Sp.B_10_20_0_0]
    rw [cond_dtt (by omega), show Sp.aok l a = false by unfold Sp.aok; rw [e]; rfl]
    rfl
  | none =>
    have ha : Sp.aok l a = true := by unfold Sp.aok; rw [e]; rfl
    simp only [Sp.B_10_20_0_0]
    rw [ha, cond_t]
    by_cases h2 : g < 0
    · rw [cond_dtt h2, rin_f (Or.inl h2)]; rfl
    by_cases h3 : g > 15
    · rw [cond_dff h2, cond_dtt h3, rin_f (Or.inr h3)]; rfl
    rw [cond_dff h2, cond_dff h3, rin_t (by omega) (by omega), ll_run (by omega) ha]
    rfl
theorem lim_pv (l : List RxT) (a : List AcT) (g o : Int) : Sp.p_10 l a g o = true ∧ Sp.v_10 l a g o = Sp.lim l a g o := pv_10 l a g o lim_ok
theorem rlim_pv (hl : a.length ≤ 100) (h : Sp.aok l a = true) : Sp.p_14 l a g o = true ∧ Sp.v_14 l a g o = ((Sp.lms l a g o a.length).1, ()) := by
  refine pv_14 l a g o ?_
  unfold F_14
  rw [rl_run hl h]
  rfl
end
end Go.Ev
set_option linter.unusedSimpArgs false
set_option linter.unusedVariables false
namespace Go.Ev
open Go
set_option maxRecDepth 100000
set_option maxHeartbeats 4000000
theorem l3_run {l : List RxT} {a : List AcT} (hl : a.length ≤ 100) : Sp.L_3_20_0_0 4611686018427387904 a a.length 0 l = (match fnd (Sp.abad l a) a.length 0 with | some k => some (.e0 (k : Int) l) | none => some (.e1 l)) := by
  have hf := find0 (fun m i => Sp.L_3_20_0_0 m a a.length i l) (n := a.length) (Sp.abad l a) (ex := fun j => some (.e0 (j : Int) l)) (e1 := some (.e1 l)) (by omega) (fun m j hj => by
    show Sp.L_3_20_0_0 (m + 1) a a.length j l = bif Sp.abad l a j then some (.e0 (j : Int) l) else Sp.L_3_20_0_0 m a a.length ((j + 1 : Nat) : Int) l
    rw [Sp.L_3_20_0_0, cond_dtt (by omega), gd_inB (by omega) (by omega), Int.toNat_natCast, wi64 (by omega) (by omega)]
    unfold Sp.abad
    push_cast
    cases decide ((a.getD j Zd0).1 < 0) <;> rfl) (fun m => by
    show Sp.L_3_20_0_0 (m + 1) a a.length a.length l = _
    rw [Sp.L_3_20_0_0, cond_dff (by omega)])
  exact hf
theorem plain_3 (l : List RxT) (a : List AcT) (g o : Int) (_ : wfD (.slice (.pair .str (.pair (.int .i64) (.pair (.int .i64) (.pair (.slice (.int .i64)) (.pair (.int .i64) .unit)))))) l) (_ : wfD (.slice (.pair (.int .i64) (.pair (.slice (.int .i64)) .unit))) a) (_ : wfD (.int .i64) g) (_ : wfD (.int .i64) o) : F_3 l a g o = some true := by
  unfold F_3
  obtain ⟨f1, f2⟩ := few_pv l ([], [], 0, false, ())
  rw [aw_pv.1, aw_pv.2, gd_tt, Bool.not_true, cond_f, f1, gd_tt]
  cases (Sp.v_9 l ([], [], 0, false, ())).1
  · rfl
  rw [Bool.not_true, cond_f]
  by_cases h1 : (a.length : Int) > 100
  · rw [cond_dtt h1]; rfl
  rw [cond_dff h1, (lim_pv l a g o).1, (lim_pv l a g o).2, gd_tt, (rrv_pv l 64).1, (rrv_pv l 64).2, gd_tt]
  unfold Sp.lim
  cases Sp.rv l 64
  · rfl
  rw [Bool.not_true, cond_f, Bool.true_and]
  by_cases h2 : (a.length : Int) > 64
  · rw [cond_dtt h2, decide_eq_false (p := a.length ≤ 64) (by omega)]; rfl
  rw [cond_dff h2, decide_eq_true (p := a.length ≤ 64) (by omega), Bool.true_and, l3_run (by omega)]
  cases e : fnd (Sp.abad l a) a.length 0 with
  | some k =>
    simp only [Sp.B_3_20_0_0]
    rw [cond_dtt (by omega), show Sp.aok l a = false by unfold Sp.aok; rw [e]; rfl]
    rfl
  | none =>
    have ha : Sp.aok l a = true := by unfold Sp.aok; rw [e]; rfl
    simp only [Sp.B_3_20_0_0]
    rw [ha, cond_t]
    by_cases h3 : g < 0
    · rw [cond_dtt h3, rin_f (Or.inl h3)]; rfl
    by_cases h4 : g > 15
    · rw [cond_dff h3, cond_dtt h4, rin_f (Or.inr h4)]; rfl
    rw [cond_dff h3, cond_dff h4, rin_t (by omega) (by omega), (rlim_pv (by omega) ha).1, (rlim_pv (by omega) ha).2, gd_tt, cond_t, cond_ett rfl]
    rfl
end Go.Ev
