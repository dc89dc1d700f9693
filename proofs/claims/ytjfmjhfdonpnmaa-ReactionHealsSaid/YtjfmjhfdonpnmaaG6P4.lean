/- Helpers: functions of the program as Lean functions, and what they compute. No condition. -/
import Derived.Test.YtjfmjhfdonpnmaaE6P5
import Derived.Test.YtjfmjhfdonpnmaaG6P2
import Derived.Test.YtjfmjhfdonpnmaaG6P3
import Derived.Test.YtjfmjhfdonpnmaaE6P2
import Derived.Test.YtjfmjhfdonpnmaaG6P1
set_option maxRecDepth 10000
set_option linter.unusedVariables false
set_option linter.unusedSimpArgs false
set_option linter.unusedSimpArgs false
set_option linter.unusedVariables false
namespace Go.Ev
open Go
set_option maxRecDepth 100000
set_option maxHeartbeats 4000000
abbrev RxT := List Int × Int × Int × List Int × Int × Unit
abbrev AcT := Int × List Int × Unit
namespace Sp
noncomputable def rin (x l h : Int) : Bool := decide (l ≤ x) && decide (x ≤ h)
/-- A name. -/
noncomputable def nm (s : List Int) : Bool := rin s.length 1 24 && (fnd (fun j => !rin (s.getD j 0) 33 126) s.length 0).isNone
noncomputable def cbad (l : List Int) (n : Int) (j : Nat) : Bool := decide (l.getD j 0 < 0) || (decide (l.getD j 0 ≥ n) || (decide (0 < j) && decide (l.getD j 0 ≤ l.getD (j - 1) 0)))
/-- Causes. -/
noncomputable def cz (l : List Int) (n : Int) : Bool := (fnd (cbad l n) l.length 0).isNone
noncomputable def rt0 (r : RxT) : Bool := nm r.1 && (rin r.2.1 0 15 && (rin r.2.2.1 0 15 && (rin r.2.2.2.1.length 1 16 && rin r.2.2.2.2.1 (-5000) 10000)))
noncomputable def rt (r : RxT) (n : Int) : Bool := rt0 r && cz r.2.2.2.1 n
/-- The name comes before. -/
noncomputable def bef (l : List RxT) (i : Nat) : Bool := !(fnd (fun k => (l.getD k (Ty.dflt (.pair .str (.pair (.int .i64) (.pair (.int .i64) (.pair (.slice (.int .i64)) (.pair (.int .i64) .unit))))))).1 == (l.getD i (Ty.dflt (.pair .str (.pair (.int .i64) (.pair (.int .i64) (.pair (.slice (.int .i64)) (.pair (.int .i64) .unit))))))).1) i 0).isNone
/-- A valid list of reactions. -/
noncomputable def rv (l : List RxT) (n : Int) : Bool := rin n 0 64 && (decide (l.length ≤ 64) && (List.range l.length).all fun i => rt (l.getD i (Ty.dflt (.pair .str (.pair (.int .i64) (.pair (.int .i64) (.pair (.slice (.int .i64)) (.pair (.int .i64) .unit))))))) n && !bef l i)
end Sp
theorem rin_iff {x l h : Int} : Sp.rin x l h = true ↔ l ≤ x ∧ x ≤ h := by simp [Sp.rin]
theorem rin_f {x l h : Int} (k : x < l ∨ h < x) : Sp.rin x l h = false := by
  unfold Sp.rin
  rcases k with k | k
  · rw [decide_eq_false (by omega)]; rfl
  · rw [decide_eq_false (p := x ≤ h) (by omega), Bool.and_false]
theorem rin_t {x l h : Int} (k1 : l ≤ x) (k2 : x ≤ h) : Sp.rin x l h = true := rin_iff.2 ⟨k1, k2⟩
theorem nm_lo {s : List Int} (h : (s.length : Int) < 1) : Sp.nm s = false := by unfold Sp.nm; rw [rin_f (Or.inl h)]; rfl
theorem nm_hi {s : List Int} (h : (s.length : Int) > 24) : Sp.nm s = false := by unfold Sp.nm; rw [rin_f (Or.inr h)]; rfl
theorem nm_in {s : List Int} (h : ¬ (s.length : Int) < 1) (h' : ¬ (s.length : Int) > 24) : Sp.nm s = (fnd (fun j => !Sp.rin (s.getD j 0) 33 126) s.length 0).isNone := by unfold Sp.nm; rw [rin_t (by omega) (by omega)]; rfl
theorem nm_ok (s : List Int) : F_57 s = some (Sp.nm s, ()) := by
  unfold F_57
  by_cases h1 : (s.length : Int) < 1
  · rw [cond_dtt h1, nm_lo h1]
  by_cases h2 : (s.length : Int) > 24
  · rw [cond_dff h1, cond_dtt h2, nm_hi h2]
  rw [cond_dff h1, cond_dff h2, nm_in h1 h2]
  have hf := find0 (fun m i => Sp.L_57_0 m s s.length i) (n := s.length) (fun j => !Sp.rin (s.getD j 0) 33 126) (ex := fun _ => some .e0) (e1 := some .e1) (by omega) (fun m j hj => by
    show Sp.L_57_0 (m + 1) s s.length j = bif !Sp.rin (s.getD j 0) 33 126 then some .e0 else Sp.L_57_0 m s s.length ((j + 1 : Nat) : Int)
    rw [Sp.L_57_0, cond_dtt (by omega), gd_inB (by omega) (by omega), gd_inB (by omega) (by omega), Int.toNat_natCast, wi64 (by omega) (by omega)]
    by_cases a : s.getD j 0 < 33
    · rw [cond_dtt a, rin_f (Or.inl a)]; rfl
    by_cases b : s.getD j 0 > 126
    · rw [cond_dff a, cond_dtt b, rin_f (Or.inr b)]; rfl
    rw [cond_dff a, cond_dff b, rin_t (by omega) (by omega)]
    push_cast
    rfl) (fun m => by
    show Sp.L_57_0 (m + 1) s s.length s.length = _
    rw [Sp.L_57_0, cond_dff (by omega)])
  rw [hf]
  cases fnd (fun j => !Sp.rin (s.getD j 0) 33 126) s.length 0 <;> rfl
theorem nm_pv (s : List Int) : Sp.p_57 s = true ∧ Sp.v_57 s = (Sp.nm s, ()) := pv_57 s (nm_ok s)
theorem rnm_ok (s : List Int) : F_39 s = some (Sp.nm s, ()) := by
  unfold F_39
  by_cases h1 : (s.length : Int) < 1
  · rw [cond_dtt h1, nm_lo h1]
  by_cases h2 : (s.length : Int) > 24
  · rw [cond_dff h1, cond_dtt h2, nm_hi h2]
  rw [cond_dff h1, cond_dff h2, nm_in h1 h2]
  have hf := find0 (fun m i => Sp.L_39_0 m s i) (n := s.length) (fun j => !Sp.rin (s.getD j 0) 33 126) (ex := fun _ => some .e0) (e1 := some .e1) (by omega) (fun m j hj => by
    show Sp.L_39_0 (m + 1) s j = bif !Sp.rin (s.getD j 0) 33 126 then some .e0 else Sp.L_39_0 m s ((j + 1 : Nat) : Int)
    rw [Sp.L_39_0, cond_dtt (by omega), gd_inB (by omega) (by omega), gd_inB (by omega) (by omega), Int.toNat_natCast, wi64 (by omega) (by omega)]
    by_cases a : s.getD j 0 < 33
    · rw [cond_dtt a, rin_f (Or.inl a)]; rfl
    by_cases b : s.getD j 0 > 126
    · rw [cond_dff a, cond_dtt b, rin_f (Or.inr b)]; rfl
    rw [cond_dff a, cond_dff b, rin_t (by omega) (by omega)]
    push_cast
    rfl) (fun m => by
    show Sp.L_39_0 (m + 1) s s.length = _
    rw [Sp.L_39_0, cond_dff (by omega)])
  rw [hf]
  cases fnd (fun j => !Sp.rin (s.getD j 0) 33 126) s.length 0 <;> rfl
theorem rnm_pv (s : List Int) : Sp.p_39 s = true ∧ Sp.v_39 s = (Sp.nm s, ()) := pv_39 s (rnm_ok s)
/-- A chain of tests. -/
theorem chain_rt {R : Type} (r : RxT) (nmb : Bool) (h : nmb = Sp.nm r.1) (x y : R) : (bif !nmb then x else bif decide (r.2.1 < 0) then x else bif decide (r.2.1 > 15) then x else bif decide (r.2.2.1 < 0) then x else bif decide (r.2.2.1 > 15) then x else bif decide ((r.2.2.2.1.length : Int) < 1) then x else bif decide ((r.2.2.2.1.length : Int) > 16) then x else bif decide (r.2.2.2.2.1 < -5000) then x else bif decide (r.2.2.2.2.1 > 10000) then x else y) = bif Sp.rt0 r then y else x := by
  subst h
  unfold Sp.rt0
  cases Sp.nm r.1
  · rfl
  rw [Bool.not_true, cond_f, Bool.true_and]
  by_cases a1 : r.2.1 < 0
  · rw [cond_dtt a1, rin_f (Or.inl a1)]; rfl
  by_cases a2 : r.2.1 > 15
  · rw [cond_dff a1, cond_dtt a2, rin_f (Or.inr a2)]; rfl
  rw [cond_dff a1, cond_dff a2, rin_t (by omega) (by omega), Bool.true_and]
  by_cases a3 : r.2.2.1 < 0
  · rw [cond_dtt a3, rin_f (Or.inl a3)]; rfl
  by_cases a4 : r.2.2.1 > 15
  · rw [cond_dff a3, cond_dtt a4, rin_f (Or.inr a4)]; rfl
  rw [cond_dff a3, cond_dff a4, rin_t (by omega) (by omega), Bool.true_and]
  by_cases a5 : (r.2.2.2.1.length : Int) < 1
  · rw [cond_dtt a5, rin_f (Or.inl a5)]; rfl
  by_cases a6 : (r.2.2.2.1.length : Int) > 16
  · rw [cond_dff a5, cond_dtt a6, rin_f (Or.inr a6)]; rfl
  rw [cond_dff a5, cond_dff a6, rin_t (by omega) (by omega), Bool.true_and]
  by_cases a7 : r.2.2.2.2.1 < -5000
  · rw [cond_dtt a7, rin_f (Or.inl a7)]; rfl
  by_cases a8 : r.2.2.2.2.1 > 10000
  · rw [cond_dff a7, cond_dtt a8, rin_f (Or.inr a8)]; rfl
  rw [cond_dff a7, cond_dff a8, rin_t (by omega) (by omega)]
  rfl
theorem rt0_len {r : RxT} (h : Sp.rt0 r = true) : 1 ≤ r.2.2.2.1.length ∧ r.2.2.2.1.length ≤ 16 := by
  unfold Sp.rt0 at h
  simp only [Bool.and_eq_true, rin_iff] at h
  omega
theorem rt_ok (r : RxT) (n : Int) : F_51 r n = some (Sp.rt r n, ()) := by
  unfold F_51
  rw [(nm_pv r.1).1, (nm_pv r.1).2, gd_tt, chain_rt r _ rfl]
  unfold Sp.rt
  cases h : Sp.rt0 r
  · rfl
  obtain ⟨l1, l2⟩ := rt0_len h
  rw [cond_t, Bool.true_and]
  have hf := find0 (fun m i => Sp.L_51_0 m n r.2.2.2.1 r.2.2.2.1.length i r) (n := r.2.2.2.1.length) (Sp.cbad r.2.2.2.1 n) (ex := fun _ => some .e0) (e1 := some .e1) (by omega) (fun m j hj => by
    show Sp.L_51_0 (m + 1) n r.2.2.2.1 r.2.2.2.1.length j r = bif Sp.cbad r.2.2.2.1 n j then some .e0 else Sp.L_51_0 m n r.2.2.2.1 r.2.2.2.1.length ((j + 1 : Nat) : Int) r
    rw [Sp.L_51_0, cond_dtt (by omega), gd_inB (by omega) (by omega), Int.toNat_natCast, wi64 (n := (j : Int) + 1) (by omega) (by omega)]
    unfold Sp.cbad
    by_cases a : r.2.2.2.1.getD j 0 < 0
    · rw [cond_dtt a, decide_eq_true a]; rfl
    by_cases b : r.2.2.2.1.getD j 0 ≥ n
    · rw [cond_dff a, cond_dtt b, decide_eq_false a, decide_eq_true b]; rfl
    rw [cond_dff a, cond_dff b, decide_eq_false a, decide_eq_false b, Bool.false_or, Bool.false_or]
    by_cases c : (j : Int) > 0
    · rw [cond_dtt c, wi64 (by omega) (by omega), gd_inB (by omega) (by omega), decide_eq_true (show 0 < j by omega), Bool.true_and, show Int.toNat ((j : Int) - 1) = j - 1 by omega]
      push_cast
      rfl
    · rw [cond_dff c, decide_eq_false (show ¬ 0 < j by omega), Bool.false_and]
      push_cast
      rfl) (fun m => by
    show Sp.L_51_0 (m + 1) n r.2.2.2.1 r.2.2.2.1.length r.2.2.2.1.length r = _
    rw [Sp.L_51_0, cond_dff (by omega)])
  rw [hf]
  unfold Sp.cz
  cases fnd (Sp.cbad r.2.2.2.1 n) r.2.2.2.1.length 0 <;> rfl
theorem rt_pv (r : RxT) (n : Int) : Sp.p_51 r n = true ∧ Sp.v_51 r n = (Sp.rt r n, ()) := pv_51 r n (rt_ok r n)
namespace Sp
noncomputable def dq : List RxT → List (List Int) → Bool
  | [], _ => true
  | r :: l, seen => !seen.contains r.1 && dq l (seen ++ [r.1])
end Sp
theorem rvl_eq (n : Int) : ∀ (l : List RxT) (seen : List (List Int)), Sp.rvl n l seen = some (l.all (fun r => Sp.rt r n) && Sp.dq l seen)
  | [], seen => rfl
  | r :: l, seen => by
    rw [Sp.rvl, (rt_pv r n).1, (rt_pv r n).2, gd_tt, rvl_eq n l, List.all_cons, Sp.dq]
    cases Sp.rt r n <;> cases seen.contains r.1 <;> cases l.all (fun r => Sp.rt r n) <;> rfl
theorem dq_iff : ∀ (l : List RxT) (seen : List (List Int)), Sp.dq l seen = true ↔ ∀ i, i < l.length → (l.getD i (Ty.dflt (.pair .str (.pair (.int .i64) (.pair (.int .i64) (.pair (.slice (.int .i64)) (.pair (.int .i64) .unit))))))).1 ∉ seen ∧ ∀ k, k < i → (l.getD k (Ty.dflt (.pair .str (.pair (.int .i64) (.pair (.int .i64) (.pair (.slice (.int .i64)) (.pair (.int .i64) .unit))))))).1 ≠ (l.getD i (Ty.dflt (.pair .str (.pair (.int .i64) (.pair (.int .i64) (.pair (.slice (.int .i64)) (.pair (.int .i64) .unit))))))).1
  | [], seen => by simp [Sp.dq]
  | r :: l, seen => by
    rw [Sp.dq, Bool.and_eq_true, dq_iff l]
    constructor
    · rintro ⟨h1, h2⟩ i hi
      cases i with
      | zero => exact ⟨by simpa using h1, fun k hk => by omega⟩
      | succ i =>
        obtain ⟨h3, h4⟩ := h2 i (by simpa using hi)
        rw [List.getD_cons_succ]
        refine ⟨fun h => h3 (List.mem_append_left _ h), fun k hk => ?_⟩
        cases k with
        | zero =>
          rw [List.getD_cons_zero]
          intro h
          exact h3 (List.mem_append_right _ (by rw [← h]; exact List.mem_singleton_self _))
        | succ k => rw [List.getD_cons_succ]; exact h4 k (by omega)
    · intro h
      refine ⟨by have := (h 0 (by simp)).1; simpa using this, fun i hi => ?_⟩
      obtain ⟨h3, h4⟩ := h (i + 1) (by simpa using hi)
      rw [List.getD_cons_succ] at h3 h4
      refine ⟨?_, fun k hk => ?_⟩
      · simp only [List.mem_append, List.mem_singleton, not_or]
        exact ⟨h3, fun e => h4 0 (by omega) (by rw [List.getD_cons_zero]; exact e.symm)⟩
      · have := h4 (k + 1) (by omega)
        rwa [List.getD_cons_succ] at this
theorem bef_iff {l : List RxT} {i : Nat} : Sp.bef l i = false ↔ ∀ k, k < i → (l.getD k (Ty.dflt (.pair .str (.pair (.int .i64) (.pair (.int .i64) (.pair (.slice (.int .i64)) (.pair (.int .i64) .unit))))))).1 ≠ (l.getD i (Ty.dflt (.pair .str (.pair (.int .i64) (.pair (.int .i64) (.pair (.slice (.int .i64)) (.pair (.int .i64) .unit))))))).1 := by
  unfold Sp.bef
  rw [Bool.not_eq_false', Option.isNone_iff_eq_none, fnd_none]
  constructor
  · intro h k hk
    have := h k (by omega) (by omega)
    simpa using this
  · intro h k _ hk
    have := h k (by omega)
    simpa using this
theorem rv_all (l : List RxT) (n : Int) : ((List.range l.length).all fun i => Sp.rt (l.getD i (Ty.dflt (.pair .str (.pair (.int .i64) (.pair (.int .i64) (.pair (.slice (.int .i64)) (.pair (.int .i64) .unit))))))) n && !Sp.bef l i) = (l.all (fun r => Sp.rt r n) && Sp.dq l []) := by
  rw [Bool.eq_iff_iff, Bool.and_eq_true, List.all_eq_true, List.all_eq_true, dq_iff]
  simp only [List.mem_range, Bool.and_eq_true, Bool.not_eq_true', bef_iff]
  constructor
  · intro h
    refine ⟨fun r hr => ?_, fun i hi => ⟨by simp, (h i hi).2⟩⟩
    obtain ⟨i, hi, rfl⟩ := List.getElem_of_mem hr
    have := (h i hi).1
    rwa [getD_at _ hi] at this
  · rintro ⟨h1, h2⟩ i hi
    exact ⟨h1 _ (by rw [getD_at _ hi]; exact List.getElem_mem hi), (h2 i hi).2⟩
theorem rv_ok (l : List RxT) (n : Int) : F_37 l n = some (Sp.rv l n, ()) := by
  unfold F_37 Sp.rv
  by_cases h1 : n < 0
  · rw [cond_dtt h1, rin_f (Or.inl h1)]; rfl
  by_cases h2 : n > 64
  · rw [cond_dff h1, cond_dtt h2, rin_f (Or.inr h2)]; rfl
  rw [cond_dff h1, cond_dff h2, rin_t (by omega) (by omega), Bool.true_and]
  by_cases h3 : (l.length : Int) > 64
  · rw [cond_dtt h3, decide_eq_false (by omega)]; rfl
  rw [cond_dff h3, decide_eq_true (by omega), Bool.true_and, rv_all, rvl_eq]
  rfl
theorem rv_pv (l : List RxT) (n : Int) : Sp.p_37 l n = true ∧ Sp.v_37 l n = (Sp.rv l n, ()) := pv_37 l n (rv_ok l n)
theorem rlv1 {l : List RxT} {n : Int} {i : Nat} (hi : i < l.length) (hl : l.length ≤ 64) : Sp.L_11_1 4611686018427387904 l n i 0 (l.getD i (Ty.dflt (.pair .str (.pair (.int .i64) (.pair (.int .i64) (.pair (.slice (.int .i64)) (.pair (.int .i64) .unit))))))) = if Sp.bef l i = true then some .e0 else some (.e1 l n i (l.getD i (Ty.dflt (.pair .str (.pair (.int .i64) (.pair (.int .i64) (.pair (.slice (.int .i64)) (.pair (.int .i64) .unit)))))))) := by
  have hf := find0 (fun m k => Sp.L_11_1 m l n i k (l.getD i (Ty.dflt (.pair .str (.pair (.int .i64) (.pair (.int .i64) (.pair (.slice (.int .i64)) (.pair (.int .i64) .unit)))))))) (n := i) (fun k => (l.getD k (Ty.dflt (.pair .str (.pair (.int .i64) (.pair (.int .i64) (.pair (.slice (.int .i64)) (.pair (.int .i64) .unit))))))).1 == (l.getD i (Ty.dflt (.pair .str (.pair (.int .i64) (.pair (.int .i64) (.pair (.slice (.int .i64)) (.pair (.int .i64) .unit))))))).1) (ex := fun _ => some .e0) (e1 := some (.e1 l n i (l.getD i (Ty.dflt (.pair .str (.pair (.int .i64) (.pair (.int .i64) (.pair (.slice (.int .i64)) (.pair (.int .i64) .unit))))))))) (by omega) (fun m j hj => by
    show Sp.L_11_1 (m + 1) l n i j (l.getD i (Ty.dflt (.pair .str (.pair (.int .i64) (.pair (.int .i64) (.pair (.slice (.int .i64)) (.pair (.int .i64) .unit))))))) = bif (l.getD j (Ty.dflt (.pair .str (.pair (.int .i64) (.pair (.int .i64) (.pair (.slice (.int .i64)) (.pair (.int .i64) .unit))))))).1 == (l.getD i (Ty.dflt (.pair .str (.pair (.int .i64) (.pair (.int .i64) (.pair (.slice (.int .i64)) (.pair (.int .i64) .unit))))))).1 then some .e0 else Sp.L_11_1 m l n i ((j + 1 : Nat) : Int) (l.getD i (Ty.dflt (.pair .str (.pair (.int .i64) (.pair (.int .i64) (.pair (.slice (.int .i64)) (.pair (.int .i64) .unit)))))))
    rw [Sp.L_11_1, cond_dtt (by omega), gd_inB (by omega) (by omega), Int.toNat_natCast, wi64 (by omega) (by omega)]
    push_cast
    rfl) (fun m => by
    show Sp.L_11_1 (m + 1) l n i i (l.getD i (Ty.dflt (.pair .str (.pair (.int .i64) (.pair (.int .i64) (.pair (.slice (.int .i64)) (.pair (.int .i64) .unit))))))) = _
    rw [Sp.L_11_1, cond_dff (by omega)])
  have e1 : Sp.L_11_1 4611686018427387904 l n i 0 (l.getD i (Ty.dflt (.pair .str (.pair (.int .i64) (.pair (.int .i64) (.pair (.slice (.int .i64)) (.pair (.int .i64) .unit))))))) = _ := hf
  rw [e1]
  unfold Sp.bef
  cases fnd (fun k => (l.getD k (Ty.dflt (.pair .str (.pair (.int .i64) (.pair (.int .i64) (.pair (.slice (.int .i64)) (.pair (.int .i64) .unit))))))).1 == (l.getD i (Ty.dflt (.pair .str (.pair (.int .i64) (.pair (.int .i64) (.pair (.slice (.int .i64)) (.pair (.int .i64) .unit))))))).1) i 0 <;> rfl
theorem rlv2 {l : List RxT} {n i : Int} {r : RxT} (hr : r.2.2.2.1.length ≤ 16) : Sp.L_11_2 4611686018427387904 l n i 0 r = if Sp.cz r.2.2.2.1 n = true then some (.e1 l n i) else some .e0 := by
  have hf := find0 (fun m k => Sp.L_11_2 m l n i k r) (n := r.2.2.2.1.length) (Sp.cbad r.2.2.2.1 n) (ex := fun _ => some .e0) (e1 := some (.e1 l n i)) (by omega) (fun m j hj => by
    show Sp.L_11_2 (m + 1) l n i j r = bif Sp.cbad r.2.2.2.1 n j then some .e0 else Sp.L_11_2 m l n i ((j + 1 : Nat) : Int) r
    rw [Sp.L_11_2, cond_dtt (by omega), gd_inB (by omega) (by omega), gd_inB (by omega) (by omega), gd_inB (by omega) (by omega), Int.toNat_natCast, wi64 (n := (j : Int) + 1) (by omega) (by omega)]
    unfold Sp.cbad
    by_cases a : r.2.2.2.1.getD j 0 < 0
    · rw [cond_dtt a, decide_eq_true a]; rfl
    by_cases b : r.2.2.2.1.getD j 0 ≥ n
    · rw [cond_dff a, cond_dtt b, decide_eq_false a, decide_eq_true b]; rfl
    rw [cond_dff a, cond_dff b, decide_eq_false a, decide_eq_false b, Bool.false_or, Bool.false_or]
    by_cases c : (j : Int) > 0
    · rw [cond_dtt c, wi64 (by omega) (by omega), gd_inB (by omega) (by omega), decide_eq_true (show 0 < j by omega), Bool.true_and, show Int.toNat ((j : Int) - 1) = j - 1 by omega]
      push_cast
      rfl
    · rw [cond_dff c, decide_eq_false (show ¬ 0 < j by omega), Bool.false_and]
      push_cast
      rfl) (fun m => by
    show Sp.L_11_2 (m + 1) l n i r.2.2.2.1.length r = _
    rw [Sp.L_11_2, cond_dff (by omega)])
  have e1 : Sp.L_11_2 4611686018427387904 l n i 0 r = _ := hf
  rw [e1]
  unfold Sp.cz
  cases fnd (Sp.cbad r.2.2.2.1 n) r.2.2.2.1.length 0 <;> rfl
theorem rrv_ok (l : List RxT) (n : Int) : F_11 l n = some (Sp.rv l n, ()) := by
  unfold F_11 Sp.rv
  by_cases h3 : (l.length : Int) > 64
  · rw [cond_dtt h3, decide_eq_false (p := l.length ≤ 64) (by omega), Bool.false_and, Bool.and_false]
  rw [cond_dff h3, decide_eq_true (p := l.length ≤ 64) (by omega), Bool.true_and]
  by_cases h1 : n < 0
  · rw [cond_dtt h1, rin_f (Or.inl h1)]; rfl
  by_cases h2 : n > 64
  · rw [cond_dff h1, cond_dtt h2, rin_f (Or.inr h2)]; rfl
  rw [cond_dff h1, cond_dff h2, rin_t (by omega) (by omega), Bool.true_and]
  have ha := all0 (fun m i => Sp.L_11_0 m l n i) (n := l.length) (fun i => Sp.rt (l.getD i (Ty.dflt (.pair .str (.pair (.int .i64) (.pair (.int .i64) (.pair (.slice (.int .i64)) (.pair (.int .i64) .unit))))))) n && !Sp.bef l i) (e0 := some .e0) (e1 := some .e1) (by omega) (fun m j hj => by
    show Sp.L_11_0 (m + 1) l n j = bif Sp.rt (l.getD j (Ty.dflt (.pair .str (.pair (.int .i64) (.pair (.int .i64) (.pair (.slice (.int .i64)) (.pair (.int .i64) .unit))))))) n && !Sp.bef l j then Sp.L_11_0 m l n ((j + 1 : Nat) : Int) else some .e0
    rw [Sp.L_11_0, cond_dtt (by omega), gd_inB (by omega) (by omega), Int.toNat_natCast, (rnm_pv _).1, (rnm_pv _).2, gd_tt, chain_rt (l.getD j (Ty.dflt (.pair .str (.pair (.int .i64) (.pair (.int .i64) (.pair (.slice (.int .i64)) (.pair (.int .i64) .unit))))))) _ rfl, rlv1 hj (by omega)]
    unfold Sp.rt
    cases h : Sp.rt0 (l.getD j (Ty.dflt (.pair .str (.pair (.int .i64) (.pair (.int .i64) (.pair (.slice (.int .i64)) (.pair (.int .i64) .unit)))))))
    · rfl
    rw [cond_t, Bool.true_and]
    cases hb : Sp.bef l j
    · rw [if_neg (by decide)]
      simp only [Sp.B_11_1]
      rw [rlv2 (rt0_len h).2]
      cases hc : Sp.cz (l.getD j (Ty.dflt (.pair .str (.pair (.int .i64) (.pair (.int .i64) (.pair (.slice (.int .i64)) (.pair (.int .i64) .unit))))))).2.2.2.1 n
      · rfl
      · rw [if_pos rfl]
        simp only [Sp.B_11_2]
        rw [wi64 (by omega) (by omega)]
        push_cast
        rfl
    · rw [if_pos rfl, Bool.not_true, Bool.and_false]
      rfl) (fun m => by
    show Sp.L_11_0 (m + 1) l n l.length = _
    rw [Sp.L_11_0, cond_dff (by omega)])
  rw [ha]
  cases (List.range l.length).all fun i => Sp.rt (l.getD i (Ty.dflt (.pair .str (.pair (.int .i64) (.pair (.int .i64) (.pair (.slice (.int .i64)) (.pair (.int .i64) .unit))))))) n && !Sp.bef l i <;> rfl
theorem rrv_pv (l : List RxT) (n : Int) : Sp.p_11 l n = true ∧ Sp.v_11 l n = (Sp.rv l n, ()) := pv_11 l n (rrv_ok l n)
end Go.Ev
namespace Go.Ev
open Go
set_option maxRecDepth 100000
set_option maxHeartbeats 4000000
set_option linter.unusedVariables false
noncomputable section

noncomputable def sm_59 : Nat → Option Summ := fun f => bif Nat.beq f 64 then some s_64 else none


noncomputable def F_59 (a0 : (Int × (Int × (Int × (Int × (Int × (Int × (Bool × (Int × Unit))))))))) : Option (Bool × Unit) :=
  gd (Sp.p_64 a0) (some (!(Sp.v_64 a0).1, PUnit.unit))
noncomputable def Sp.p_59 (a0 : (Int × (Int × (Int × (Int × (Int × (Int × (Bool × (Int × Unit))))))))) : Bool := (F_59 a0).isSome
noncomputable def Sp.v_59 (a0 : (Int × (Int × (Int × (Int × (Int × (Int × (Bool × (Int × Unit))))))))) : Bool × Unit := (F_59 a0).getD (dfH [.bool])
noncomputable def s_59 : Summ := shN [(.pair (.int .i64) (.pair (.int .i64) (.pair (.int .i64) (.pair (.int .i64) (.pair (.int .i64) (.pair (.int .i64) (.pair .bool (.pair (.int .i64) .unit))))))))] [.bool] (fun x => Sp.p_59 x.1) (fun x => Sp.v_59 x.1)
end
end Go.Ev
set_option linter.unusedSimpArgs false
set_option linter.unusedVariables false
namespace Go.Ev
open Go
set_option maxRecDepth 100000
set_option maxHeartbeats 4000000
abbrev CfT := Int × Int × Int × Int × Int × Int × Bool × Int × Unit
abbrev FaT := Int × Int × Int × Int × Int × List Int × Int × Unit
abbrev FsT := List CfT × List FaT × Int × Bool × Unit
namespace Sp
noncomputable def inr (x l h : Int) : Bool := decide (x ≥ l) && decide (x ≤ h)
noncomputable def cfg (c : CfT) : Bool := inr c.1 1 16777215 && (inr c.2.1 1 100 && (inr c.2.2.1 1 100 && (inr c.2.2.2.1 1 100 && (inr c.2.2.2.2.1 c.2.2.2.1 255 && (inr c.2.2.2.2.2.1 0 255 && inr c.2.2.2.2.2.2.2.1 0 8)))))
noncomputable def val (x : Int) : Bool := inr x (-1099511627776) 1099511627776
noncomputable def vals (l : List Int) : Bool := (List.range l.length).all fun j => val (l.getD j 0)
/-- A bit of a status. -/
noncomputable def bt (f : FaT) (k : Int) : Bool := andI .i64 f.1 k == k
noncomputable def kno (f : FaT) : Bool := decide (f.2.2.2.2.1 ≥ 1) && (decide (f.2.2.1 ≥ 1) && decide (f.2.2.2.2.2.2.1 ≥ 1))
noncomputable def unk (f : FaT) : Bool := (f.2.2.1 == 0) && ((f.2.2.2.1 == 0) && ((f.2.2.2.2.1 == 0) && (f.2.2.2.2.2.2.1 == 0)))
noncomputable def q2 (f : FaT) : Bool := !(bt f 2 && (f.2.2.2.1 != 0))
noncomputable def q1 (c : CfT) (f : FaT) : Bool := (bt f 4 == (f.2.2.1 == 2)) && (!bt f 16 || (bt f 4 && c.2.2.2.2.2.2.1))
noncomputable def q0 (cyc : Int) (f : FaT) : Bool := !bt f 1 || ((bt f 2 && bt f 8) && (f.2.2.2.2.2.2.1 == cyc))
noncomputable def rngs (c : CfT) (f : FaT) (cyc : Int) : Bool := inr f.1 0 31 && (inr f.2.1 (0 - c.2.2.1) c.2.1 && (inr f.2.2.1 0 2 && (inr f.2.2.2.1 0 (c.2.2.2.2.1 - 1) && (inr f.2.2.2.2.1 0 255 && inr f.2.2.2.2.2.2.1 0 cyc))))
noncomputable def frq (c : CfT) (f : FaT) : Bool := (((f.2.2.2.2.2.1.length : Int) == 0) || ((f.2.2.2.2.2.1.length : Int) == c.2.2.2.2.2.2.2.1)) && vals f.2.2.2.2.2.1
noncomputable def fin (c : CfT) (f : FaT) : Bool := bif bt f 2 || bt f 4 then kno f && ((f.2.2.2.2.2.1.length : Int) == c.2.2.2.2.2.2.2.1) else unk f && ((f.2.2.2.2.2.1.length : Int) == 0)
/-- The state of a fault is valid. -/
noncomputable def rgt (c : CfT) (f : FaT) (cyc : Int) : Bool := rngs c f cyc && (frq c f && ((q0 cyc f && (q1 c f && q2 f)) && fin c f))
end Sp
theorem inr_iff {x l h : Int} : Sp.inr x l h = true ↔ l ≤ x ∧ x ≤ h := by simp [Sp.inr]
theorem wit_ok (x l h : Int) : F_61 x l h = some (Sp.inr x l h, ()) := by
  unfold F_61 Sp.inr
  cases decide (x ≥ l) <;> rfl
theorem wit_pv (x l h : Int) : Sp.p_61 x l h = true ∧ Sp.v_61 x l h = (Sp.inr x l h, ()) := pv_61 x l h (wit_ok x l h)
theorem cfg_ok (c : CfT) : F_64 c = some (Sp.cfg c, ()) := by
  unfold F_64 Sp.cfg
  simp only [wit_pv, gd_tt]
  cases Sp.inr c.1 1 16777215 <;> try rfl
  cases Sp.inr c.2.1 1 100 <;> try rfl
  cases Sp.inr c.2.2.1 1 100 <;> try rfl
  cases Sp.inr c.2.2.2.1 1 100 <;> try rfl
  cases Sp.inr c.2.2.2.2.1 c.2.2.2.1 255 <;> try rfl
  cases Sp.inr c.2.2.2.2.2.1 0 255 <;> rfl
theorem cfg_pv (c : CfT) : Sp.p_64 c = true ∧ Sp.v_64 c = (Sp.cfg c, ()) := pv_64 c (cfg_ok c)
theorem has_pv (f : FaT) (k : Int) : Sp.p_66 f k = true ∧ Sp.v_66 f k = (Sp.bt f k, ()) := pv_66 f k rfl
/-- Bits of small numbers. -/
theorem tab (P : Int → Bool) (h : (List.range 32).all (fun n => P (n : Int)) = true) {s : Int} (h0 : 0 ≤ s) (h1 : s ≤ 31) : P s = true := by
  obtain ⟨n, rfl⟩ := Int.eq_ofNat_of_zero_le h0
  rw [List.all_eq_true] at h
  exact h n (by rw [List.mem_range]; omega)
theorem bt_ne {s : Int} (h0 : 0 ≤ s) (h1 : s ≤ 31) : ((Sp.andI .i64 s 1 != 0) = (Sp.andI .i64 s 1 == 1) ∧ (Sp.andI .i64 s 2 != 0) = (Sp.andI .i64 s 2 == 2) ∧ (Sp.andI .i64 s 4 != 0) = (Sp.andI .i64 s 4 == 4)) ∧ ((Sp.andI .i64 s 8 != 0) = (Sp.andI .i64 s 8 == 8) ∧ (Sp.andI .i64 s 16 != 0) = (Sp.andI .i64 s 16 == 16)) ∧ (Sp.andI .i64 s 10 == 10) = ((Sp.andI .i64 s 2 == 2) && (Sp.andI .i64 s 8 == 8)) ∧ (Sp.andI .i64 s 6 != 0) = ((Sp.andI .i64 s 2 == 2) || (Sp.andI .i64 s 4 == 4)) := by
  have := tab (fun s => ((((Sp.andI .i64 s 1 != 0) == (Sp.andI .i64 s 1 == 1)) && ((Sp.andI .i64 s 2 != 0) == (Sp.andI .i64 s 2 == 2)) && ((Sp.andI .i64 s 4 != 0) == (Sp.andI .i64 s 4 == 4)))) && ((((Sp.andI .i64 s 8 != 0) == (Sp.andI .i64 s 8 == 8)) && ((Sp.andI .i64 s 16 != 0) == (Sp.andI .i64 s 16 == 16)))) && ((Sp.andI .i64 s 10 == 10) == ((Sp.andI .i64 s 2 == 2) && (Sp.andI .i64 s 8 == 8))) && ((Sp.andI .i64 s 6 != 0) == ((Sp.andI .i64 s 2 == 2) || (Sp.andI .i64 s 4 == 4)))) (by decide +kernel) h0 h1
  simp only [Bool.and_eq_true, beq_iff_eq] at this
  exact ⟨⟨this.1.1.1.1.1, this.1.1.1.1.2, this.1.1.1.2⟩, this.1.1.2, this.1.2, this.2⟩
end Go.Ev
set_option linter.unusedSimpArgs false
set_option linter.unusedVariables false
namespace Go.Ev
open Go
set_option maxRecDepth 100000
set_option maxHeartbeats 4000000
theorem aw : F_8 = some (true, ()) := by kernel_rfl
theorem aw_pv : Sp.p_8 = true ∧ Sp.v_8 = (true, ()) := pv_8 aw
theorem few_pv (l : List RxT) (F : FsT) : Sp.p_9 l F = true ∧ ((Sp.v_9 l F).1 = true → l.length ≤ 70 ∧ F.1.length ≤ 70 ∧ F.2.1.length ≤ 70 ∧ ∀ j, j < F.2.1.length → (F.2.1.getD j Zd2).2.2.2.2.2.1.length ≤ 20) := by
  have hF : ∃ b, F_9 l F = some (b, ()) ∧ (b = true → l.length ≤ 70 ∧ F.1.length ≤ 70 ∧ F.2.1.length ≤ 70 ∧ ∀ j, j < F.2.1.length → (F.2.1.getD j Zd2).2.2.2.2.2.1.length ≤ 20) := by
    unfold F_9
    by_cases h1 : (l.length : Int) ≤ 70
    rotate_left
    · rw [cond_dff h1]; exact ⟨false, rfl, fun h => by cases h⟩
    by_cases h2 : (F.1.length : Int) ≤ 70
    rotate_left
    · rw [cond_dtt h1, cond_dff h2]; exact ⟨false, rfl, fun h => by cases h⟩
    by_cases h3 : (F.2.1.length : Int) ≤ 70
    rotate_left
    · rw [cond_dtt h1, cond_dtt h2, cond_dff h3]; exact ⟨false, rfl, fun h => by cases h⟩
    rw [cond_dtt h1, cond_dtt h2, cond_dtt h3]
    have hf := find0 (fun m i => Sp.L_9_49_0_0 m l l.length i F) (n := l.length) (fun j => decide (((l.getD j (Ty.dflt (.pair .str (.pair (.int .i64) (.pair (.int .i64) (.pair (.slice (.int .i64)) (.pair (.int .i64) .unit))))))).2.2.2.1.length : Int) > 20) || decide (((l.getD j (Ty.dflt (.pair .str (.pair (.int .i64) (.pair (.int .i64) (.pair (.slice (.int .i64)) (.pair (.int .i64) .unit))))))).1.length : Int) > 60)) (ex := fun j => some (.e0 (j : Int) F)) (e1 := some (.e1 F)) (by omega) (fun m j hj => by
      show Sp.L_9_49_0_0 (m + 1) l l.length j F = bif decide (((l.getD j (Ty.dflt (.pair .str (.pair (.int .i64) (.pair (.int .i64) (.pair (.slice (.int .i64)) (.pair (.int .i64) .unit))))))).2.2.2.1.length : Int) > 20) || decide (((l.getD j (Ty.dflt (.pair .str (.pair (.int .i64) (.pair (.int .i64) (.pair (.slice (.int .i64)) (.pair (.int .i64) .unit))))))).1.length : Int) > 60) then some (.e0 (j : Int) F) else Sp.L_9_49_0_0 m l l.length ((j + 1 : Nat) : Int) F
      rw [Sp.L_9_49_0_0, cond_dtt (by omega), gd_inB (by omega) (by omega), Int.toNat_natCast, wi64 (by omega) (by omega)]
      push_cast
      cases decide (((l.getD j (Ty.dflt (.pair .str (.pair (.int .i64) (.pair (.int .i64) (.pair (.slice (.int .i64)) (.pair (.int .i64) .unit))))))).2.2.2.1.length : Int) > 20) <;> rfl) (fun m => by
      show Sp.L_9_49_0_0 (m + 1) l l.length l.length F = _
      rw [Sp.L_9_49_0_0, cond_dff (by omega)])
    have hg := find0 (fun m i => Sp.L_9_50_0_0 m F.2.1 F.2.1.length i F) (n := F.2.1.length) (fun j => decide (((F.2.1.getD j Zd2).2.2.2.2.2.1.length : Int) > 20)) (ex := fun j => some (.e0 (j : Int) F)) (e1 := some (.e1 F)) (by omega) (fun m j hj => by
      show Sp.L_9_50_0_0 (m + 1) F.2.1 F.2.1.length j F = bif decide (((F.2.1.getD j Zd2).2.2.2.2.2.1.length : Int) > 20) then some (.e0 (j : Int) F) else Sp.L_9_50_0_0 m F.2.1 F.2.1.length ((j + 1 : Nat) : Int) F
      rw [Sp.L_9_50_0_0, cond_dtt (by omega), gd_inB (by omega) (by omega), Int.toNat_natCast, wi64 (by omega) (by omega)]
      push_cast
      rfl) (fun m => by
      show Sp.L_9_50_0_0 (m + 1) F.2.1 F.2.1.length F.2.1.length F = _
      rw [Sp.L_9_50_0_0, cond_dff (by omega)])
    rw [hf]
    cases e : fnd (fun j => decide (((l.getD j (Ty.dflt (.pair .str (.pair (.int .i64) (.pair (.int .i64) (.pair (.slice (.int .i64)) (.pair (.int .i64) .unit))))))).2.2.2.1.length : Int) > 20) || decide (((l.getD j (Ty.dflt (.pair .str (.pair (.int .i64) (.pair (.int .i64) (.pair (.slice (.int .i64)) (.pair (.int .i64) .unit))))))).1.length : Int) > 60)) l.length 0 with
    | some k =>
      simp only [Sp.B_9_49_0_0]
      rw [decide_eq_true (by omega)]
      exact ⟨false, rfl, fun h => by cases h⟩
    | none =>
      simp only [Sp.B_9_49_0_0]
      rw [hg]
      cases e : fnd (fun j => decide (((F.2.1.getD j Zd2).2.2.2.2.2.1.length : Int) > 20)) F.2.1.length 0 with
      | some k =>
        simp only [Sp.B_9_50_0_0]
        rw [decide_eq_true (by omega)]
        exact ⟨false, rfl, fun h => by cases h⟩
      | none =>
        refine ⟨true, rfl, fun _ => ⟨by omega, by omega, by omega, fun j hj => ?_⟩⟩
        have := (fnd_none.1 e) j (by omega) (by omega)
        simp only [decide_eq_false_iff_not] at this
        omega
  obtain ⟨b, hb, hh⟩ := hF
  have hq := pv_9 _ _ hb
  exact ⟨hq.1, by rw [hq.2]; exact hh⟩
end Go.Ev
set_option linter.unusedSimpArgs false
set_option linter.unusedVariables false
namespace Go.Ev
open Go
set_option maxRecDepth 100000
set_option maxHeartbeats 4000000
theorem rin_ok (x l h : Int) : F_45 x l h = some (Sp.inr x l h, ()) := by
  unfold F_45 Sp.inr
  cases decide (x ≥ l) <;> rfl
theorem rin_pv (x l h : Int) : Sp.p_45 x l h = true ∧ Sp.v_45 x l h = (Sp.inr x l h, ()) := pv_45 x l h (rin_ok x l h)
theorem rcfg_ok (c : CfT) : F_54 c = some (Sp.cfg c, ()) := by
  unfold F_54 Sp.cfg
  simp only [rin_pv, gd_tt]
  cases Sp.inr c.1 1 16777215 <;> try rfl
  cases Sp.inr c.2.1 1 100 <;> try rfl
  cases Sp.inr c.2.2.1 1 100 <;> try rfl
  cases Sp.inr c.2.2.2.1 1 100 <;> try rfl
  cases Sp.inr c.2.2.2.2.1 c.2.2.2.1 255 <;> try rfl
  cases Sp.inr c.2.2.2.2.2.1 0 255 <;> rfl
theorem rcfg_pv (c : CfT) : Sp.p_54 c = true ∧ Sp.v_54 c = (Sp.cfg c, ()) := pv_54 c (rcfg_ok c)
theorem vals_ok (l : List Int) (h : l.length < 4611686018427387904) : F_55 l = some (Sp.vals l, ()) := by
  have := all0 (fun m i => Sp.L_55_0 m l i) (n := l.length) (fun j => Sp.val (l.getD j 0)) (e0 := some .e0) (e1 := some .e1) h (fun m j hj => by
    show Sp.L_55_0 (m + 1) l j = bif Sp.val (l.getD j 0) then Sp.L_55_0 m l ((j + 1 : Nat) : Int) else some .e0
    rw [Sp.L_55_0, cond_dtt (by omega), gd_inB (by omega) (by omega), (rin_pv _ _ _).1, (rin_pv _ _ _).2, gd_tt, Int.toNat_natCast, wi64 (by omega) (by omega)]
    push_cast
    show (bif !Sp.val (l.getD j 0) then _ else _) = _
    cases Sp.val (l.getD j 0) <;> rfl) (fun m => by
    show Sp.L_55_0 (m + 1) l l.length = _
    rw [Sp.L_55_0, cond_dff (by omega)])
  unfold F_55
  rw [this]
  unfold Sp.vals
  cases (List.range l.length).all (fun j => Sp.val (l.getD j 0)) <;> rfl
theorem vals_pv (l : List Int) (h : l.length < 4611686018427387904) : Sp.p_55 l = true ∧ Sp.v_55 l = (Sp.vals l, ()) := pv_55 l (vals_ok l h)
section
variable {c : CfT} {f : FaT} {cyc : Int}
theorem rhas_pv {k : Int} (hk : k = 1 ∨ k = 2 ∨ k = 4 ∨ k = 8 ∨ k = 16) (h0 : 0 ≤ f.1) (h1 : f.1 ≤ 31) : Sp.p_56 f k = true ∧ Sp.v_56 f k = (Sp.bt f k, ()) := by
  refine pv_56 f k ?_
  unfold F_56 Sp.bt
  have := bt_ne h0 h1
  rcases hk with rfl | rfl | rfl | rfl | rfl <;> simp only [this]
theorem rJ3 (k : Bool) : Sp.J_46_3 k c f = some (bif k then (bif Sp.kno f then .e0 c f else .e1) else bif Sp.unk f then .e2 f else .e1) := by
  unfold Sp.J_46_3 Sp.kno Sp.unk
  cases k
  · cases f.2.2.1 == 0 <;> try rfl
    cases f.2.2.2.1 == 0 <;> try rfl
    cases f.2.2.2.2.1 == 0 <;> try rfl
    cases f.2.2.2.2.2.2.1 == 0 <;> rfl
  · cases decide (f.2.2.2.2.1 ≥ 1) <;> try rfl
    cases decide (f.2.2.1 ≥ 1) <;> try rfl
    cases decide (f.2.2.2.2.2.2.1 ≥ 1) <;> rfl
theorem rJ2 (k : Bool) (h0 : 0 ≤ f.1) (h1 : f.1 ≤ 31) : Sp.J_46_2 k c f = some (bif Sp.q2 f then (bif k then (bif Sp.kno f then .e1 c f else .e0) else bif Sp.unk f then .e2 f else .e0) else .e0) := by
  unfold Sp.J_46_2 Sp.q2
  rw [(rhas_pv (by decide) h0 h1).1, (rhas_pv (by decide) h0 h1).2, gd_tt, rJ3]
  cases Sp.bt f 2 <;> cases f.2.2.2.1 != 0 <;> cases k <;> cases Sp.kno f <;> cases Sp.unk f <;> rfl
theorem rJ1 (k : Bool) (h0 : 0 ≤ f.1) (h1 : f.1 ≤ 31) : Sp.J_46_1 k c f = some (bif Sp.q1 c f && Sp.q2 f then (bif k then (bif Sp.kno f then .e1 c f else .e0) else bif Sp.unk f then .e2 f else .e0) else .e0) := by
  unfold Sp.J_46_1 Sp.q1
  rw [(rhas_pv (k := 4) (by decide) h0 h1).1, (rhas_pv (k := 4) (by decide) h0 h1).2, (rhas_pv (k := 16) (by decide) h0 h1).1, (rhas_pv (k := 16) (by decide) h0 h1).2, gd_tt, gd_tt, gd_tt, rJ2 k h0 h1]
  dsimp only
  cases Sp.bt f 4 <;> cases f.2.2.1 == 2 <;> cases Sp.bt f 16 <;> cases c.2.2.2.2.2.2.1 <;> cases Sp.q2 f <;> cases k <;> cases Sp.kno f <;> cases Sp.unk f <;> rfl
theorem rJ0 (k : Bool) (h0 : 0 ≤ f.1) (h1 : f.1 ≤ 31) : Sp.J_46_0 cyc k c f = some (bif Sp.q0 cyc f && (Sp.q1 c f && Sp.q2 f) then (bif k then (bif Sp.kno f then .e1 c f else .e0) else bif Sp.unk f then .e2 f else .e0) else .e0) := by
  unfold Sp.J_46_0 Sp.q0
  rw [(rhas_pv (k := 1) (by decide) h0 h1).1, (rhas_pv (k := 1) (by decide) h0 h1).2, (rhas_pv (k := 2) (by decide) h0 h1).1, (rhas_pv (k := 2) (by decide) h0 h1).2, (rhas_pv (k := 8) (by decide) h0 h1).1, (rhas_pv (k := 8) (by decide) h0 h1).2, gd_tt, gd_tt, gd_tt, rJ1 k h0 h1]
  dsimp only
  cases Sp.bt f 1 <;> cases Sp.bt f 2 <;> cases Sp.bt f 8 <;> cases f.2.2.2.2.2.2.1 == cyc <;> cases Sp.q1 c f <;> cases Sp.q2 f <;> cases k <;> cases Sp.kno f <;> cases Sp.unk f <;> rfl
theorem rfault_ok (hc : Sp.cfg c = true) (hfr : f.2.2.2.2.2.1.length < 4611686018427387904) : F_46 c f cyc = some (Sp.rgt c f cyc, ()) := by
  simp only [Sp.cfg, Bool.and_eq_true, inr_iff] at hc
  unfold F_46 Sp.rgt Sp.rngs
  simp only [rin_pv, gd_tt]
  rw [wi64 (n := 0 - c.2.2.1) (by omega) (by omega), wi64 (n := c.2.2.2.2.1 - 1) (by omega) (by omega)]
  cases h1 : Sp.inr f.1 0 31
  · rfl
  have hb := inr_iff.1 h1
  cases Sp.inr f.2.1 (0 - c.2.2.1) c.2.1
  · rfl
  cases Sp.inr f.2.2.1 0 2
  · rfl
  cases Sp.inr f.2.2.2.1 0 (c.2.2.2.2.1 - 1)
  · rfl
  cases Sp.inr f.2.2.2.2.1 0 255
  · rfl
  cases Sp.inr f.2.2.2.2.2.2.1 0 cyc
  · rfl
  simp only [Bool.not_true, cond_f, Bool.and_true, Bool.true_and]
  simp only [vals_pv _ hfr, rhas_pv (k := 2) (by decide) hb.1 hb.2, rhas_pv (k := 4) (by decide) hb.1 hb.2, gd_tt, rJ0 _ hb.1 hb.2]
  unfold Sp.frq Sp.fin
  cases e1 : ((f.2.2.2.2.2.1.length : Int) == c.2.2.2.2.2.2.2.1) <;> cases he : ((f.2.2.2.2.2.1.length : Int) == 0) <;> cases Sp.vals f.2.2.2.2.2.1 <;> cases Sp.bt f 2 <;> cases Sp.bt f 4 <;> cases Sp.q0 cyc f && (Sp.q1 c f && Sp.q2 f) <;> cases Sp.kno f <;> cases Sp.unk f <;> simp only [bne, he, e1, Sp.B_46_0, Bool.not_true, Bool.not_false, cond_true, cond_false, Bool.and_true, Bool.and_false, Bool.true_and, Bool.false_and, Bool.or_true, Bool.or_false, Bool.true_or, Bool.false_or]
end
end Go.Ev
set_option linter.unusedSimpArgs false
set_option linter.unusedVariables false
namespace Go.Ev
open Go
set_option maxRecDepth 100000
set_option maxHeartbeats 4000000
theorem fnd_all (P : Nat → Bool) (n : Nat) : (fnd (fun j => !P j) n 0 = none) ↔ (List.range n).all P = true := by
  rw [fnd_none, List.all_eq_true]
  constructor
  · intro h x hx
    have := h x (by omega) (by rw [List.mem_range] at hx; omega)
    simpa using this
  · intro h i _ hi
    rw [h i (by rw [List.mem_range]; omega)]
    rfl
namespace Sp
noncomputable def frm (c : CfT) (l : List Int) : Bool := ((l.length : Int) == c.2.2.2.2.2.2.2.1) && vals l
noncomputable def cfgs (l : List CfT) : Bool := (List.range l.length).all fun j => cfg (l.getD j Zd1)
noncomputable def rgts (F : FsT) : Bool := (List.range F.2.1.length).all fun j => rgt (F.1.getD j Zd1) (F.2.1.getD j Zd2) F.2.2.1
/-- A state is valid. -/
noncomputable def vf (F : FsT) : Bool := decide (F.1.length ≤ 64) && (cfgs F.1 && (dst (F.1.map fun c => c.1) && (((F.2.1.length : Int) == F.1.length) && (inr F.2.2.1 0 1073741824 && ((!F.2.2.2.1 || decide (F.2.2.1 ≥ 1)) && rgts F)))))
end Sp
theorem val_pv (x : Int) : Sp.p_70 x = true ∧ Sp.v_70 x = (Sp.val x, ()) := by
  refine pv_70 x ?_
  unfold F_70
  rw [(wit_pv _ _ _).1, (wit_pv _ _ _).2, gd_tt]
  rfl
theorem frm_ok (c : CfT) (l : List Int) (h : l.length < 4611686018427387904) : F_65 c l = some (Sp.frm c l, ()) := by
  unfold F_65 Sp.frm
  cases (l.length : Int) == c.2.2.2.2.2.2.2.1
  · rfl
  have hf := find0 (fun m i => Sp.L_65_48_0_0 m l l.length i c) (n := l.length) (fun j => !Sp.val (l.getD j 0)) (ex := fun j => some (.e0 (j : Int) c)) (e1 := some (.e1 c)) h (fun m j hj => by
    show Sp.L_65_48_0_0 (m + 1) l l.length j c = bif !Sp.val (l.getD j 0) then some (.e0 (j : Int) c) else Sp.L_65_48_0_0 m l l.length ((j + 1 : Nat) : Int) c
    rw [Sp.L_65_48_0_0, cond_dtt (by omega), gd_inB (by omega) (by omega), Int.toNat_natCast, (val_pv _).1, (val_pv _).2, gd_tt, wi64 (by omega) (by omega)]
    push_cast
    rfl) (fun m => by
    show Sp.L_65_48_0_0 (m + 1) l l.length l.length c = _
    rw [Sp.L_65_48_0_0, cond_dff (by omega)])
  rw [hf, cond_t]
  cases hk : fnd (fun j => !Sp.val (l.getD j 0)) l.length 0 with
  | none =>
    have : Sp.vals l = true := (fnd_all (fun j => Sp.val (l.getD j 0)) l.length).1 hk
    rw [this]
    rfl
  | some k =>
    have : Sp.vals l = false := by
      cases hv : Sp.vals l
      · rfl
      · have := (fnd_all (fun j => Sp.val (l.getD j 0)) l.length).2 hv
        rw [this] at hk; cases hk
    rw [this]
    simp only [Sp.B_65_48_0_0]
    rw [decide_eq_true (by omega)]
    rfl
theorem frm_pv (c : CfT) (l : List Int) (h : l.length < 4611686018427387904) : Sp.p_65 c l = true ∧ Sp.v_65 c l = (Sp.frm c l, ()) := pv_65 c l (frm_ok c l h)
section
variable {c : CfT} {f : FaT} {cyc : Int}
theorem kn_pv (h0 : 0 ≤ f.1) (h1 : f.1 ≤ 31) : Sp.p_67 f = true ∧ Sp.v_67 f = (Sp.bt f 2 || Sp.bt f 4, ()) := by
  refine pv_67 f ?_
  unfold F_67 Sp.bt
  rw [(bt_ne h0 h1).2.2.2]
theorem bt10 (h0 : 0 ≤ f.1) (h1 : f.1 ≤ 31) : Sp.bt f 10 = (Sp.bt f 2 && Sp.bt f 8) := (bt_ne h0 h1).2.2.1
theorem gJ3 (h0 : 0 ≤ f.1) (h1 : f.1 ≤ 31) : Sp.J_62_3 c f = some (bif Sp.bt f 2 || Sp.bt f 4 then (bif Sp.kno f then .e0 c f else .e1) else .e2 c f) := by
  unfold Sp.J_62_3 Sp.kno
  rw [(kn_pv h0 h1).1, (kn_pv h0 h1).2, gd_tt]
  cases Sp.bt f 2 || Sp.bt f 4 <;> try rfl
  cases decide (f.2.2.2.2.1 ≥ 1) <;> try rfl
  cases decide (f.2.2.1 ≥ 1) <;> try rfl
  cases decide (f.2.2.2.2.2.2.1 ≥ 1) <;> rfl
theorem gJ2 (h0 : 0 ≤ f.1) (h1 : f.1 ≤ 31) : Sp.J_62_2 c f = some (bif Sp.q2 f then (bif Sp.bt f 2 || Sp.bt f 4 then (bif Sp.kno f then .e1 c f else .e0) else .e2 c f) else .e0) := by
  unfold Sp.J_62_2 Sp.q2
  simp only [has_pv, gd_tt, gJ3 h0 h1]
  cases Sp.bt f 2 <;> cases f.2.2.2.1 != 0 <;> cases Sp.bt f 4 <;> cases Sp.kno f <;> rfl
theorem gJ1 (h0 : 0 ≤ f.1) (h1 : f.1 ≤ 31) : Sp.J_62_1 c f = some (bif Sp.q1 c f && Sp.q2 f then (bif Sp.bt f 2 || Sp.bt f 4 then (bif Sp.kno f then .e1 c f else .e0) else .e2 c f) else .e0) := by
  unfold Sp.J_62_1 Sp.q1
  simp only [has_pv, gd_tt, gJ2 h0 h1]
  cases Sp.bt f 4 <;> cases f.2.2.1 == 2 <;> cases Sp.bt f 16 <;> cases c.2.2.2.2.2.2.1 <;> cases Sp.q2 f <;> cases Sp.bt f 2 <;> cases Sp.kno f <;> rfl
theorem gJ0 (h0 : 0 ≤ f.1) (h1 : f.1 ≤ 31) : Sp.J_62_0 cyc c f = some (bif Sp.q0 cyc f && (Sp.q1 c f && Sp.q2 f) then (bif Sp.bt f 2 || Sp.bt f 4 then (bif Sp.kno f then .e1 c f else .e0) else bif Sp.unk f then .e2 f else .e0) else .e0) := by
  unfold Sp.J_62_0 Sp.q0 Sp.unk
  simp only [has_pv, gd_tt, gJ1 h0 h1, bt10 h0 h1]
  have hz : ∀ x y : Int, (bif !(x == y) then (some (Sp.E_62_0.e0) : Option Sp.E_62_0) else none) = (bif x != y then some (Sp.E_62_0.e0) else none) := fun _ _ => rfl
  cases e1 : f.2.2.1 == 0 <;> cases e2 : f.2.2.2.1 == 0 <;> cases e3 : f.2.2.2.2.1 == 0 <;> cases e4 : f.2.2.2.2.2.2.1 == 0 <;> cases e5 : f.2.2.2.2.2.2.1 == cyc <;> cases Sp.q1 c f && Sp.q2 f <;> cases Sp.bt f 1 <;> cases Sp.bt f 2 <;> cases Sp.bt f 8 <;> cases Sp.bt f 4 <;> cases Sp.kno f <;> simp only [bne, e1, e2, e3, e4, e5, Sp.B_62_1, Bool.not_true, Bool.not_false, cond_true, cond_false, Bool.and_true, Bool.and_false, Bool.true_and, Bool.false_and, Bool.or_true, Bool.or_false, Bool.true_or, Bool.false_or]
theorem right_ok (hc : Sp.cfg c = true) (hfr : f.2.2.2.2.2.1.length < 4611686018427387904) : F_62 c f cyc = some (Sp.rgt c f cyc, ()) := by
  simp only [Sp.cfg, Bool.and_eq_true, inr_iff] at hc
  unfold F_62 Sp.rgt Sp.rngs
  simp only [wit_pv, gd_tt]
  rw [wi64 (n := 0 - c.2.2.1) (by omega) (by omega), wi64 (n := c.2.2.2.2.1 - 1) (by omega) (by omega)]
  cases h1 : Sp.inr f.1 0 31
  · rfl
  have hb := inr_iff.1 h1
  cases Sp.inr f.2.1 (0 - c.2.2.1) c.2.1
  · rfl
  cases Sp.inr f.2.2.1 0 2
  · rfl
  cases Sp.inr f.2.2.2.1 0 (c.2.2.2.2.1 - 1)
  · rfl
  cases Sp.inr f.2.2.2.2.1 0 255
  · rfl
  cases Sp.inr f.2.2.2.2.2.2.1 0 cyc
  · rfl
  simp only [Bool.not_true, cond_f, Bool.and_true, Bool.true_and]
  simp only [frm_pv _ _ hfr, gd_tt, gJ0 hb.1 hb.2]
  unfold Sp.frq Sp.fin Sp.frm
  by_cases hl : f.2.2.2.2.2.1 = []
  · have hv : Sp.vals f.2.2.2.2.2.1 = true := by rw [hl]; rfl
    have hz : ((f.2.2.2.2.2.1.length : Int) == 0) = true := by rw [hl]; rfl
    rw [cond_dff (by rw [hl]; decide), hv, hz]
    cases e1 : ((f.2.2.2.2.2.1.length : Int) == c.2.2.2.2.2.2.2.1) <;> cases Sp.bt f 2 <;> cases Sp.bt f 4 <;> cases Sp.q0 cyc f && (Sp.q1 c f && Sp.q2 f) <;> cases Sp.kno f <;> cases Sp.unk f <;> simp only [bne, hz, e1, Sp.B_62_0, Bool.not_true, Bool.not_false, cond_true, cond_false, Bool.and_true, Bool.and_false, Bool.true_and, Bool.false_and, Bool.or_true, Bool.or_false, Bool.true_or, Bool.false_or]
  · have hp : 0 < f.2.2.2.2.2.1.length := List.length_pos_iff.2 hl
    have hz : ((f.2.2.2.2.2.1.length : Int) == 0) = false := beq_eq_false_iff_ne.2 (by omega)
    rw [cond_dtt (by omega), hz]
    cases e1 : ((f.2.2.2.2.2.1.length : Int) == c.2.2.2.2.2.2.2.1) <;> cases Sp.vals f.2.2.2.2.2.1 <;> cases Sp.bt f 2 <;> cases Sp.bt f 4 <;> cases Sp.q0 cyc f && (Sp.q1 c f && Sp.q2 f) <;> cases Sp.kno f <;> cases Sp.unk f <;> simp only [bne, hz, e1, Sp.B_62_0, Bool.not_true, Bool.not_false, cond_true, cond_false, Bool.and_true, Bool.and_false, Bool.true_and, Bool.false_and, Bool.or_true, Bool.or_false, Bool.true_or, Bool.false_or]
theorem right_pv (hc : Sp.cfg c = true) (hfr : f.2.2.2.2.2.1.length < 4611686018427387904) : Sp.p_62 c f cyc = true ∧ Sp.v_62 c f cyc = (Sp.rgt c f cyc, ()) := pv_62 c f cyc (right_ok hc hfr)
end
/-- Memory is not great. -/
structure Sm (F : FsT) : Prop where
  l : F.2.1.length < 4611686018427387904
  f : ∀ j, j < F.2.1.length → (F.2.1.getD j Zd2).2.2.2.2.2.1.length < 4611686018427387904
theorem cfgs_at {l : List CfT} (h : Sp.cfgs l = true) {j : Nat} (hj : j < l.length) : Sp.cfg (l.getD j Zd1) = true := by
  unfold Sp.cfgs at h
  rw [List.all_eq_true] at h
  exact h j (by rw [List.mem_range]; exact hj)
theorem vJ0 {F : FsT} (hs : Sm F) (hc : Sp.cfgs F.1 = true) (hl : F.2.1.length = F.1.length) : Sp.J_52_0 F = some (bif Sp.rgts F then .e1 else .e0) := by
  have := all0 (fun m i => Sp.L_52_1 m F.2.1 F.2.1.length i F) (n := F.2.1.length) (fun j => Sp.rgt (F.1.getD j Zd1) (F.2.1.getD j Zd2) F.2.2.1) (e0 := some .e0) (e1 := some .e1) hs.l (fun m j hj => by
    show Sp.L_52_1 (m + 1) F.2.1 F.2.1.length j F = bif Sp.rgt (F.1.getD j Zd1) (F.2.1.getD j Zd2) F.2.2.1 then Sp.L_52_1 m F.2.1 F.2.1.length ((j + 1 : Nat) : Int) F else some .e0
    have hr := right_pv (cyc := F.2.2.1) (cfgs_at hc (j := j) (by omega)) (hs.f j hj)
    rw [Sp.L_52_1, cond_dtt (by omega), gd_inB (by omega) (by omega), gd_inB (by omega) (by omega), Int.toNat_natCast, hr.1, hr.2, gd_tt, wi64 (by have := hs.l; omega) (by have := hs.l; omega)]
    push_cast
    cases Sp.rgt (F.1.getD j Zd1) (F.2.1.getD j Zd2) F.2.2.1 <;> rfl) (fun m => by
    show Sp.L_52_1 (m + 1) F.2.1 F.2.1.length F.2.1.length F = _
    rw [Sp.L_52_1, cond_dff (by omega)])
  unfold Sp.J_52_0
  rw [this]
  unfold Sp.rgts
  cases (List.range F.2.1.length).all fun j => Sp.rgt (F.1.getD j Zd1) (F.2.1.getD j Zd2) F.2.2.1 <;> rfl
theorem vf_ok {F : FsT} (hs : Sm F) : F_52 F = some (Sp.vf F, ()) := by
  unfold F_52 Sp.vf
  by_cases h1 : (F.1.length : Int) > 64
  · rw [cond_dtt h1, decide_eq_false (by omega)]; rfl
  rw [cond_dff h1, decide_eq_true (p := F.1.length ≤ 64) (by omega), Bool.true_and]
  have hf := find0 (fun m i => Sp.L_52_63_0_0 m F.1 F.1.length i F) (n := F.1.length) (fun j => !Sp.cfg (F.1.getD j Zd1)) (ex := fun j => some (.e0 (j : Int) F)) (e1 := some (.e1 F)) (by omega) (fun m j hj => by
    show Sp.L_52_63_0_0 (m + 1) F.1 F.1.length j F = bif !Sp.cfg (F.1.getD j Zd1) then some (.e0 (j : Int) F) else Sp.L_52_63_0_0 m F.1 F.1.length ((j + 1 : Nat) : Int) F
    rw [Sp.L_52_63_0_0, cond_dtt (by omega), gd_inB (by omega) (by omega), Int.toNat_natCast, (cfg_pv _).1, (cfg_pv _).2, gd_tt, wi64 (by omega) (by omega)]
    push_cast
    rfl) (fun m => by
    show Sp.L_52_63_0_0 (m + 1) F.1 F.1.length F.1.length F = _
    rw [Sp.L_52_63_0_0, cond_dff (by omega)])
  rw [hf]
  cases hk : fnd (fun j => !Sp.cfg (F.1.getD j Zd1)) F.1.length 0 with
  | some k =>
    have : Sp.cfgs F.1 = false := by
      cases hv : Sp.cfgs F.1
      · rfl
      · have := (fnd_all (fun j => Sp.cfg (F.1.getD j Zd1)) F.1.length).2 hv
        rw [this] at hk; cases hk
    rw [this]
    simp only [Sp.B_52_63_0_0]
    rw [cond_dtt (by omega)]
    rfl
  | none =>
    have hc : Sp.cfgs F.1 = true := (fnd_all (fun j => Sp.cfg (F.1.getD j Zd1)) F.1.length).1 hk
    rw [hc]
    simp only [Sp.B_52_63_0_0, Bool.true_and]
    have em : (List.map (fun (y : Ty.den CfgTy) => Prod.fst y) F.1) = (F.1.map fun c => c.1) := rfl
    rw [em]
    cases Sp.dst (F.1.map fun c => c.1)
    · rfl
    simp only [Bool.not_true, cond_f, Bool.true_and]
    by_cases hl : (F.2.1.length : Int) = (F.1.length : Int)
    rotate_left
    · rw [cond_ntt hl, beq_eq_false_iff_ne.2 hl]; rfl
    rw [cond_nff hl, beq_iff_eq.2 hl, Bool.true_and, (wit_pv _ _ _).1, (wit_pv _ _ _).2, gd_tt]
    cases Sp.inr F.2.2.1 0 1073741824
    · rfl
    simp only [Bool.not_true, cond_f, Bool.true_and]
    rw [vJ0 hs hc (by omega)]
    cases F.2.2.2.1
    · cases Sp.rgts F <;> rfl
    · by_cases hy : F.2.2.1 < 1
      · rw [cond_t, cond_dtt hy, decide_eq_false (by omega)]
        rfl
      · rw [cond_t, cond_dff hy, decide_eq_true (p := F.2.2.1 ≥ 1) (by omega)]
        cases Sp.rgts F <;> rfl
theorem vf_pv {F : FsT} (hs : Sm F) : Sp.p_52 F = true ∧ Sp.v_52 F = (Sp.vf F, ()) := pv_52 F (vf_ok hs)
end Go.Ev
set_option linter.unusedSimpArgs false
set_option linter.unusedVariables false
namespace Go.Ev
open Go
set_option maxRecDepth 100000
set_option maxHeartbeats 4000000
namespace Sp
noncomputable def codesL (l : List CfT) : List Int := l.map fun c => c.1
noncomputable def rcs (l : List CfT) : Int := bif decide (l.length ≤ 64) then (bif cfgs l then (bif dst (codesL l) then 0 else 8) else 1) else 5
end Sp
theorem codesL_at (l : List CfT) {j : Nat} (h : j < l.length) : (Sp.codesL l).getD j 0 = (l.getD j Zd1).1 := by
  unfold Sp.codesL
  rw [getD_at _ h, getD_at 0 (by simpa using h), List.getElem_map]
theorem dst_all (l : List Int) : Sp.dst l = (List.range l.length).all fun i => (List.range i).all fun k => !(l.getD k 0 == l.getD i 0) := by
  rw [Bool.eq_iff_iff, Sp.dst_nodup, List.Nodup, List.pairwise_iff_getElem]
  simp only [List.all_eq_true, List.mem_range, Bool.not_eq_true', beq_eq_false_iff_ne]
  constructor
  · intro h i hi k hk
    rw [getD_at 0 (show k < l.length by omega), getD_at 0 hi]
    exact h k i (by omega) hi hk
  · intro h i j hi hj hij
    have := h j hj i hij
    rwa [getD_at 0 hi, getD_at 0 hj] at this
theorem rcs_ok (l : List CfT) : F_44 l = some (Sp.rcs l, ()) := by
  unfold F_44 Sp.rcs
  by_cases h1 : (l.length : Int) > 64
  · rw [cond_dtt h1, decide_eq_false (by omega)]; rfl
  rw [cond_dff h1, decide_eq_true (p := l.length ≤ 64) (by omega), cond_t]
  have ha := all0 (fun m i => Sp.L_44_0 m l i) (n := l.length) (fun j => Sp.cfg (l.getD j Zd1)) (e0 := some .e0) (e1 := some (.e1 l)) (by omega) (fun m j hj => by
    show Sp.L_44_0 (m + 1) l j = bif Sp.cfg (l.getD j Zd1) then Sp.L_44_0 m l ((j + 1 : Nat) : Int) else some .e0
    rw [Sp.L_44_0, cond_dtt (by omega), gd_inB (by omega) (by omega), Int.toNat_natCast, (rcfg_pv _).1, (rcfg_pv _).2, gd_tt, wi64 (by omega) (by omega)]
    push_cast
    cases Sp.cfg (l.getD j Zd1) <;> rfl) (fun m => by
    show Sp.L_44_0 (m + 1) l l.length = _
    rw [Sp.L_44_0, cond_dff (by omega)])
  rw [ha]
  have ec : (List.range l.length).all (fun j => Sp.cfg (l.getD j Zd1)) = Sp.cfgs l := rfl
  rw [ec]
  cases Sp.cfgs l
  · rfl
  simp only [cond_t, Sp.B_44_0]
  have hin : ∀ i, i < l.length → Sp.L_44_2 4611686018427387904 l (i : Int) 0 = bif (List.range i).all (fun k => !((l.getD k Zd1).1 == (l.getD i Zd1).1)) then some (.e1 l i) else some .e0 := by
    intro i hi
    exact all0 (fun m k => Sp.L_44_2 m l (i : Int) k) (n := i) (fun k => !((l.getD k Zd1).1 == (l.getD i Zd1).1)) (e0 := some .e0) (e1 := some (.e1 l i)) (by omega) (fun m k hk => by
      show Sp.L_44_2 (m + 1) l (i : Int) (k : Int) = bif !((l.getD k Zd1).1 == (l.getD i Zd1).1) then Sp.L_44_2 m l (i : Int) ((k + 1 : Nat) : Int) else some .e0
      rw [Sp.L_44_2, cond_dtt (by omega), gd_inB (by omega) (by omega), gd_inB (by omega) (by omega), Int.toNat_natCast, Int.toNat_natCast, wi64 (by omega) (by omega)]
      push_cast
      cases (l.getD k Zd1).1 == (l.getD i Zd1).1 <;> rfl) (fun m => by
      show Sp.L_44_2 (m + 1) l (i : Int) (i : Int) = _
      rw [Sp.L_44_2, cond_dff (by omega)])
  have ho := all0 (fun m i => Sp.L_44_1 m l i) (n := l.length) (fun i => (List.range i).all (fun k => !((l.getD k Zd1).1 == (l.getD i Zd1).1))) (e0 := some .e0) (e1 := some .e1) (by omega) (fun m i hi => by
    show Sp.L_44_1 (m + 1) l i = bif (List.range i).all (fun k => !((l.getD k Zd1).1 == (l.getD i Zd1).1)) then Sp.L_44_1 m l ((i + 1 : Nat) : Int) else some .e0
    rw [Sp.L_44_1, cond_dtt (by omega), hin i hi]
    cases (List.range i).all (fun k => !((l.getD k Zd1).1 == (l.getD i Zd1).1))
    · rfl
    · simp only [cond_t, Sp.B_44_2]
      rw [wi64 (by omega) (by omega)]
      push_cast
      rfl) (fun m => by
    show Sp.L_44_1 (m + 1) l l.length = _
    rw [Sp.L_44_1, cond_dff (by omega)])
  rw [ho]
  have ed : (List.range l.length).all (fun i => (List.range i).all (fun k => !((l.getD k Zd1).1 == (l.getD i Zd1).1))) = Sp.dst (Sp.codesL l) := by
    rw [dst_all, show (Sp.codesL l).length = l.length by simp [Sp.codesL], Bool.eq_iff_iff]
    simp only [List.all_eq_true, List.mem_range]
    constructor
    · intro h i hi k hk
      rw [codesL_at l hi, codesL_at l (show k < l.length by omega)]
      exact h i hi k hk
    · intro h i hi k hk
      have := h i hi k hk
      rwa [codesL_at l hi, codesL_at l (show k < l.length by omega)] at this
  rw [ed]
  cases Sp.dst (Sp.codesL l) <;> rfl
theorem rcs_pv (l : List CfT) : Sp.p_44 l = true ∧ Sp.v_44 l = (Sp.rcs l, ()) := pv_44 l (rcs_ok l)
theorem rvf_ok {F : FsT} (hs : Sm F) : F_24 F = some (Sp.vf F, ()) := by
  unfold F_24 Sp.vf
  rw [(rcs_pv _).1, (rcs_pv _).2, gd_tt]
  unfold Sp.rcs
  dsimp only
  by_cases h1 : F.1.length ≤ 64
  rotate_left
  · rw [decide_eq_false h1]; rfl
  rw [decide_eq_true h1, cond_t, Bool.true_and]
  cases hc : Sp.cfgs F.1
  · rfl
  rw [cond_t, Bool.true_and]
  have em : (F.1.map fun c => c.1) = Sp.codesL F.1 := rfl
  rw [em]
  cases Sp.dst (Sp.codesL F.1)
  · rfl
  rw [cond_t, cond_nff rfl, Bool.true_and]
  by_cases hl : (F.2.1.length : Int) = (F.1.length : Int)
  rotate_left
  · rw [cond_ntt hl, beq_eq_false_iff_ne.2 hl]; rfl
  rw [cond_nff hl, beq_iff_eq.2 hl, Bool.true_and, (rin_pv _ _ _).1, (rin_pv _ _ _).2, gd_tt]
  cases Sp.inr F.2.2.1 0 1073741824
  · rfl
  have hJ : Sp.J_24_0 F = some (bif Sp.rgts F then .e1 else .e0) := by
    have := all0 (fun m i => Sp.L_24_1 m i F) (n := F.2.1.length) (fun j => Sp.rgt (F.1.getD j Zd1) (F.2.1.getD j Zd2) F.2.2.1) (e0 := some .e0) (e1 := some .e1) hs.l (fun m j hj => by
      show Sp.L_24_1 (m + 1) j F = bif Sp.rgt (F.1.getD j Zd1) (F.2.1.getD j Zd2) F.2.2.1 then Sp.L_24_1 m ((j + 1 : Nat) : Int) F else some .e0
      have hr := pv_46 _ _ _ (rfault_ok (cyc := F.2.2.1) (cfgs_at hc (j := j) (by omega)) (hs.f j hj))
      rw [Sp.L_24_1, cond_dtt (by omega), gd_inB (by omega) (by omega), gd_inB (by omega) (by omega), Int.toNat_natCast, hr.1, hr.2, gd_tt, wi64 (by have := hs.l; omega) (by have := hs.l; omega)]
      push_cast
      cases Sp.rgt (F.1.getD j Zd1) (F.2.1.getD j Zd2) F.2.2.1 <;> rfl) (fun m => by
      show Sp.L_24_1 (m + 1) F.2.1.length F = _
      rw [Sp.L_24_1, cond_dff (by omega)])
    unfold Sp.J_24_0
    rw [this]
    unfold Sp.rgts
    cases (List.range F.2.1.length).all fun j => Sp.rgt (F.1.getD j Zd1) (F.2.1.getD j Zd2) F.2.2.1 <;> rfl
  simp only [Bool.not_true, cond_f, Bool.true_and, hJ]
  cases F.2.2.2.1
  · cases Sp.rgts F <;> rfl
  · by_cases hy : F.2.2.1 < 1
    · rw [cond_t, cond_dtt hy, decide_eq_false (by omega)]
      rfl
    · rw [cond_t, cond_dff hy, decide_eq_true (p := F.2.2.1 ≥ 1) (by omega)]
      cases Sp.rgts F <;> rfl
theorem rvf_pv {F : FsT} (hs : Sm F) : Sp.p_24 F = true ∧ Sp.v_24 F = (Sp.vf F, ()) := pv_24 F (rvf_ok hs)
end Go.Ev
namespace Go.Ev
open Go
set_option maxRecDepth 100000
set_option maxHeartbeats 4000000
set_option linter.unusedVariables false
noncomputable section
abbrev Zy23_0 : Ty := (.pair (.slice (.pair (.int .i64) (.pair (.int .i64) (.pair (.int .i64) (.pair (.int .i64) (.pair (.int .i64) (.pair (.int .i64) (.pair .bool (.pair (.int .i64) .unit))))))))) (.pair (.slice (.pair (.int .i64) (.pair (.int .i64) (.pair (.int .i64) (.pair (.int .i64) (.pair (.int .i64) (.pair (.slice (.int .i64)) (.pair (.int .i64) .unit)))))))) (.pair (.int .i64) (.pair .bool .unit))))
abbrev Zt23_1 : Type := List (Int × Int × Int × Int × Int × Int × Bool × Int × Unit) × List (Int × Int × Int × Int × Int × List Int × Int × Unit) × Int × Bool × Unit
abbrev Zy23_2 : Ty := (.pair (.int .i64) (.pair (.int .i64) (.pair (.slice (.int .i64)) (.pair (.int .i64) .unit))))
abbrev Zt23_3 : Type := List Int × Int × Int × List Int × Int × Unit

noncomputable def sm_23 : Nat → Option Summ := fun f => none
noncomputable def T_23_0 (p0 : Int) (p1 : Zt23_3) (p2 : Zt23_1) (p3 : List Int) : St := St.mk ([jk, jk, CV.ptr (0 : Nat) [], CV.ptr (1 : Nat) [], jk, CV.whole (2 : Nat), CV.int IntKind.i64 p0] ++ (jl 28)) [Blk.mem (CV.pure (Ty.pair Ty.str (Ty.pair (Ty.int IntKind.i64) (Ty.pair (Ty.int IntKind.i64) (Ty.pair (Ty.slice (Ty.int IntKind.i64)) (Ty.pair (Ty.int IntKind.i64) Ty.unit))))) p1), Blk.mem (CV.pure (Ty.pair (Ty.slice (Ty.pair (Ty.int IntKind.i64) (Ty.pair (Ty.int IntKind.i64) (Ty.pair (Ty.int IntKind.i64) (Ty.pair (Ty.int IntKind.i64) (Ty.pair (Ty.int IntKind.i64) (Ty.pair (Ty.int IntKind.i64) (Ty.pair Ty.bool (Ty.pair (Ty.int IntKind.i64) Ty.unit))))))))) (Ty.pair (Ty.slice (Ty.pair (Ty.int IntKind.i64) (Ty.pair (Ty.int IntKind.i64) (Ty.pair (Ty.int IntKind.i64) (Ty.pair (Ty.int IntKind.i64) (Ty.pair (Ty.int IntKind.i64) (Ty.pair (Ty.slice (Ty.int IntKind.i64)) (Ty.pair (Ty.int IntKind.i64) Ty.unit)))))))) (Ty.pair (Ty.int IntKind.i64) (Ty.pair Ty.bool Ty.unit)))) p2), Blk.vec (3 : Nat) (Ty.int IntKind.i64) p3] (0 : Nat)
noncomputable def X_23_0_0 (p3 : List Int) : St := St.mk ([jk, jk, jk, jk, jk, CV.whole (0 : Nat)] ++ (jl 29)) [Blk.vec (3 : Nat) (Ty.int IntKind.i64) p3] (0 : Nat)
inductive Sp.E_23_0 where
  | e0 (p3 : List Int)
noncomputable def Sp.B_23_0 {R : Type} (r : Option Sp.E_23_0) (k0 : (List Int) → Option R) : Option R := match r with
  | none => none
  | some (.e0 p3) => k0 p3
noncomputable def Sp.L_23_0 : Nat → (Int) → (List Int × Int × Int × List Int × Int × Unit) → (List (Int × Int × Int × Int × Int × Int × Bool × Int × Unit) × List (Int × Int × Int × Int × Int × List Int × Int × Unit) × Int × Bool × Unit) → (List Int) → Option Sp.E_23_0
  | 0, _, _, _, _ => none
  | m + 1, p0, p1, p2, p3 => bif decide (p0 < (↑(List.length (p1.2.2.2.1)) : Int)) then gd (inB p0 (List.length (p1.2.2.2.1))) (gd (inB (List.getD (p1.2.2.2.1) (Int.toNat p0) (0 : Int)) (List.length (p2.2.1))) (bif Sp.andI IntKind.i64 ((List.getD (p2.2.1) (Int.toNat (List.getD (p1.2.2.2.1) (Int.toNat p0) (0 : Int))) Zd2).1) (5 : Int) != (0 : Int) then gd (inB p0 (List.length (p1.2.2.2.1))) (gd (room (List.length p3 + (1 : Nat)) (8 : Nat)) (Sp.L_23_0 m (IntKind.wrap IntKind.i64 (p0 + (1 : Int))) p1 p2 (p3 ++ [List.getD (p1.2.2.2.1) (Int.toNat p0) (0 : Int)]))) else Sp.L_23_0 m (IntKind.wrap IntKind.i64 (p0 + (1 : Int))) p1 p2 p3)) else some (Sp.E_23_0.e0 p3)
noncomputable def G_23_0 {R : Type} (p0 : Int) (p1 : Zt23_3) (p2 : Zt23_1) (p3 : List Int) (k : Ex → St → Option R) : Option R := Sp.B_23_0 (Sp.L_23_0 FU p0 p1 p2 p3) (fun p3 => k (Ex.exit (0 : Nat)) (X_23_0_0 p3))
noncomputable def o_23_0 {R : Type} (G : (Int) → (Zt23_3) → (Zt23_1) → (List Int) → (Ex → St → Option R) → Option R) : St → (Ex → St → Option R) → Option R := fun T k => match T.sl.getD 2 .junk, T.sl.getD 3 .junk, T.sl.getD 5 .junk, T.sl.getD 6 .junk, T.hp with
  | CV.ptr (0 : Nat) [], CV.ptr (1 : Nat) [], CV.whole (2 : Nat), CV.int IntKind.i64 p0, ((Blk.mem (CV.pure (Ty.pair Ty.str (Ty.pair (Ty.int IntKind.i64) (Ty.pair (Ty.int IntKind.i64) (Ty.pair (Ty.slice (Ty.int IntKind.i64)) (Ty.pair (Ty.int IntKind.i64) Ty.unit))))) p1)) :: (Blk.mem (CV.pure (Ty.pair (Ty.slice (Ty.pair (Ty.int IntKind.i64) (Ty.pair (Ty.int IntKind.i64) (Ty.pair (Ty.int IntKind.i64) (Ty.pair (Ty.int IntKind.i64) (Ty.pair (Ty.int IntKind.i64) (Ty.pair (Ty.int IntKind.i64) (Ty.pair Ty.bool (Ty.pair (Ty.int IntKind.i64) Ty.unit))))))))) (Ty.pair (Ty.slice (Ty.pair (Ty.int IntKind.i64) (Ty.pair (Ty.int IntKind.i64) (Ty.pair (Ty.int IntKind.i64) (Ty.pair (Ty.int IntKind.i64) (Ty.pair (Ty.int IntKind.i64) (Ty.pair (Ty.slice (Ty.int IntKind.i64)) (Ty.pair (Ty.int IntKind.i64) Ty.unit)))))))) (Ty.pair (Ty.int IntKind.i64) (Ty.pair Ty.bool Ty.unit)))) p2)) :: (Blk.vec (3 : Nat) (Ty.int IntKind.i64) p3) :: []) => gd (shapeOK T 35 [2, 3, 5, 6] (0 : Nat)) (G p0 p1 p2 p3 k)
  | _, _, _, _, _ => none
noncomputable def O_23_23_0 {R : Type} : St → (Ex → St → Option R) → Option R := fun T k => o_23_0 G_23_0 T k
noncomputable def F_23 (a0 : ((List Int) × (Int × (Int × ((List Int) × (Int × Unit)))))) (a1 : ((List (Int × (Int × (Int × (Int × (Int × (Int × (Bool × (Int × Unit))))))))) × ((List (Int × (Int × (Int × (Int × (Int × ((List Int) × (Int × Unit)))))))) × (Int × (Bool × Unit))))) : Option ((List Int) × Unit) :=
  Sp.B_23_0 (Sp.L_23_0 (4611686018427387904 : Nat) (0 : Int) a0 a1 []) fun y1 => some (y1, PUnit.unit)
noncomputable def Sp.p_23 (a0 : ((List Int) × (Int × (Int × ((List Int) × (Int × Unit)))))) (a1 : ((List (Int × (Int × (Int × (Int × (Int × (Int × (Bool × (Int × Unit))))))))) × ((List (Int × (Int × (Int × (Int × (Int × ((List Int) × (Int × Unit)))))))) × (Int × (Bool × Unit))))) : Bool := (F_23 a0 a1).isSome
noncomputable def Sp.v_23 (a0 : ((List Int) × (Int × (Int × ((List Int) × (Int × Unit)))))) (a1 : ((List (Int × (Int × (Int × (Int × (Int × (Int × (Bool × (Int × Unit))))))))) × ((List (Int × (Int × (Int × (Int × (Int × ((List Int) × (Int × Unit)))))))) × (Int × (Bool × Unit))))) : (List Int) × Unit := (F_23 a0 a1).getD (dfH [(.slice (.int .i64))])
noncomputable def s_23 : Summ := shS [(.pair .str Zy23_2), Zy23_0] [(.slice (.int .i64))] (fun x => Sp.p_23 x.1 x.2.1) (fun x => Sp.v_23 x.1 x.2.1)
end
end Go.Ev
set_option linter.unusedSimpArgs false
set_option linter.unusedVariables false
namespace Go.Ev
open Go
set_option maxRecDepth 100000
set_option maxHeartbeats 4000000
namespace Sp
/-- A cause is active, but for one of them. -/
noncomputable def act (F : FsT) (but c : Int) : Bool := (c != but) && (andI .i64 (F.2.1.getD c.toNat Zd2).1 5 != 0)
noncomputable def cs (F : FsT) (but : Int) (l : List Int) : List Int := l.filter (act F but)
noncomputable def cau (l : List RxT) (i : Nat) : List Int := (l.getD i (Ty.dflt (.pair .str (.pair (.int .i64) (.pair (.int .i64) (.pair (.slice (.int .i64)) (.pair (.int .i64) .unit))))))).2.2.2.1
/-- What is in force among the first reactions. -/
noncomputable def ifs (F : FsT) (but : Int) (l : List RxT) : Nat → List AcT
  | 0 => []
  | n + 1 => if 0 < (cs F but (cau l n)).length then ifs F but l n ++ [((n : Int), cs F but (cau l n), ())] else ifs F but l n
end Sp
/-- What valid lists are like. -/
structure Vl (l : List RxT) (n : Nat) : Prop where
  ll : l.length ≤ 64
  nn : n ≤ 64
  c : ∀ i, i < l.length → (Sp.cau l i).length ≤ 16
  r : ∀ i, i < l.length → ∀ j, j < (Sp.cau l i).length → 0 ≤ (Sp.cau l i).getD j 0 ∧ (Sp.cau l i).getD j 0 < n
  s : ∀ i, i < l.length → ∀ j, j + 1 < (Sp.cau l i).length → (Sp.cau l i).getD j 0 < (Sp.cau l i).getD (j + 1) 0
theorem rv_vl {l : List RxT} {n : Nat} (h : Sp.rv l (n : Int) = true) : Vl l n := by
  unfold Sp.rv at h
  simp only [Bool.and_eq_true, rin_iff, decide_eq_true_eq, List.all_eq_true, List.mem_range] at h
  obtain ⟨h1, h2, h3⟩ := h
  have hc : ∀ i, i < l.length → ∀ j, j < (Sp.cau l i).length → Sp.cbad (Sp.cau l i) n j = false := by
    intro i hi j hj
    have := (h3 i hi).1
    unfold Sp.rt at this
    rw [Bool.and_eq_true] at this
    have := this.2
    unfold Sp.cz at this
    rw [Option.isNone_iff_eq_none, fnd_none] at this
    have hj' : j < (l.getD i (Ty.dflt (.pair .str (.pair (.int .i64) (.pair (.int .i64) (.pair (.slice (.int .i64)) (.pair (.int .i64) .unit))))))).2.2.2.1.length := hj
    exact this j (by omega) (by omega)
  refine ⟨h2, by omega, fun i hi => ?_, fun i hi j hj => ?_, fun i hi j hj => ?_⟩
  · have := (h3 i hi).1
    unfold Sp.rt at this
    rw [Bool.and_eq_true] at this
    exact (rt0_len this.1).2
  · have := hc i hi j hj
    unfold Sp.cbad at this
    simp only [Bool.or_eq_false_iff, decide_eq_false_iff_not] at this
    omega
  · have := hc i hi (j + 1) hj
    unfold Sp.cbad at this
    simp only [Bool.or_eq_false_iff, decide_eq_false_iff_not, Bool.and_eq_false_iff] at this
    have h4 := this.2.2
    rcases h4 with h4 | h4
    · omega
    · rw [Nat.add_sub_cancel] at h4; omega
theorem cs_take {F : FsT} {but : Int} {l : List Int} {j : Nat} (hj : j < l.length) : Sp.cs F but (l.take (j + 1)) = if Sp.act F but (l.getD j 0) = true then Sp.cs F but (l.take j) ++ [l.getD j 0] else Sp.cs F but (l.take j) := by
  unfold Sp.cs
  rw [List.take_succ_eq_append_getElem hj, List.filter_append, getD_at 0 hj]
  split
  · rename_i h; simp [h]
  · rename_i h; simp [h]
theorem cs_len (F : FsT) (but : Int) (l : List Int) : (Sp.cs F but l).length ≤ l.length := List.length_filter_le _ _
theorem ifs_len (F : FsT) (but : Int) (l : List RxT) : ∀ n, (Sp.ifs F but l n).length ≤ n
  | 0 => Nat.le_refl _
  | n + 1 => by
    have := ifs_len F but l n
    rw [Sp.ifs]
    split
    · rw [List.length_append]; simp; omega
    · omega
section
variable {l : List RxT} {F : FsT} {but : Int} {x : List Int} {a : List AcT} {r : RxT}

theorem ex_run (hl : x.length ≤ 16) (hr : ∀ j, j < x.length → 0 ≤ x.getD j 0 ∧ x.getD j 0 < F.2.1.length) : Sp.L_17_41_0_0 4611686018427387904 but F x x.length 0 F [] = some (.e0 F (Sp.cs F but x)) := by
  have hr0 := run0 (fun m i (s : List Int) => Sp.L_17_41_0_0 m but F x x.length i F s) (n := x.length) (fun j => Sp.cs F but (x.take j)) (r := some (.e0 F (Sp.cs F but x))) (by omega) (fun m j hj => by
    show Sp.L_17_41_0_0 (m + 1) but F x x.length (j : Int) F (Sp.cs F but (x.take j)) = Sp.L_17_41_0_0 m but F x x.length ((j + 1 : Nat) : Int) F (Sp.cs F but (x.take (j + 1)))
    have hb := hr j hj
    have hlen := cs_len F but (x.take j)
    have ht : (x.take j).length ≤ 16 := by rw [List.length_take]; omega
    rw [Sp.L_17_41_0_0, cond_dtt (by omega), gd_inB (by omega) (by omega), Int.toNat_natCast, gd_inB hb.1 hb.2, gd_room (by omega) (by omega), wi64 (by omega) (by omega), cs_take hj]
    unfold Sp.act
    push_cast
    by_cases c1 : x.getD j 0 = but
    · rw [cond_nff c1, if_neg (by rw [c1]; simp)]
    have e1 : (x.getD j 0 != but) = true := bne_iff_ne.2 c1
    rw [cond_ntt c1, e1, Bool.true_and]
    cases Sp.andI .i64 (F.2.1.getD (x.getD j 0).toNat Zd2).1 5 != 0 <;> rfl) (fun m => by
    show Sp.L_17_41_0_0 (m + 1) but F x x.length x.length F (Sp.cs F but (x.take x.length)) = _
    rw [Sp.L_17_41_0_0, cond_dff (by omega), List.take_length])
  exact hr0
theorem ac_in (hl : x.length ≤ 16) (hr : ∀ j, j < x.length → 0 ≤ x.getD j 0 ∧ x.getD j 0 < F.2.1.length) : Sp.L_19_41_0_0 4611686018427387904 but F x x.length 0 F a r [] = some (.e0 F a r (Sp.cs F but x)) := by
  have hr0 := run0 (fun m i (s : List Int) => Sp.L_19_41_0_0 m but F x x.length i F a r s) (n := x.length) (fun j => Sp.cs F but (x.take j)) (r := some (.e0 F a r (Sp.cs F but x))) (by omega) (fun m j hj => by
    show Sp.L_19_41_0_0 (m + 1) but F x x.length (j : Int) F a r (Sp.cs F but (x.take j)) = Sp.L_19_41_0_0 m but F x x.length ((j + 1 : Nat) : Int) F a r (Sp.cs F but (x.take (j + 1)))
    have hb := hr j hj
    have hlen := cs_len F but (x.take j)
    have ht : (x.take j).length ≤ 16 := by rw [List.length_take]; omega
    rw [Sp.L_19_41_0_0, cond_dtt (by omega), gd_inB (by omega) (by omega), Int.toNat_natCast, gd_inB hb.1 hb.2, gd_room (by omega) (by omega), wi64 (by omega) (by omega), cs_take hj]
    unfold Sp.act
    push_cast
    by_cases c1 : x.getD j 0 = but
    · rw [cond_nff c1, if_neg (by rw [c1]; simp)]
    have e1 : (x.getD j 0 != but) = true := bne_iff_ne.2 c1
    rw [cond_ntt c1, e1, Bool.true_and]
    cases Sp.andI .i64 (F.2.1.getD (x.getD j 0).toNat Zd2).1 5 != 0 <;> rfl) (fun m => by
    show Sp.L_19_41_0_0 (m + 1) but F x x.length x.length F a r (Sp.cs F but (x.take x.length)) = _
    rw [Sp.L_19_41_0_0, cond_dff (by omega), List.take_length])
  exact hr0
theorem ac_run (v : Vl l F.2.1.length) : Sp.L_19_43_0_0 4611686018427387904 but F l l.length 0 F [] = some (.e0 F (Sp.ifs F but l l.length)) := by
  have hv := v.ll
  have hr0 := run0 (fun m i (s : List AcT) => Sp.L_19_43_0_0 m but F l l.length i F s) (n := l.length) (fun j => Sp.ifs F but l j) (r := some (.e0 F (Sp.ifs F but l l.length))) (by omega) (fun m j hj => by
    show Sp.L_19_43_0_0 (m + 1) but F l l.length (j : Int) F (Sp.ifs F but l j) = Sp.L_19_43_0_0 m but F l l.length ((j + 1 : Nat) : Int) F (Sp.ifs F but l (j + 1))
    have hlen := ifs_len F but l j
    have h2 := ac_in (F := F) (but := but) (a := Sp.ifs F but l j) (r := l.getD j (Ty.dflt (.pair .str (.pair (.int .i64) (.pair (.int .i64) (.pair (.slice (.int .i64)) (.pair (.int .i64) .unit))))))) (v.c j hj) (v.r j hj)
    unfold Sp.cau at h2
    rw [Sp.L_19_43_0_0, cond_dtt (by omega), gd_inB (by omega) (by omega), Int.toNat_natCast, h2]
    simp only [Sp.B_19_41_0_0]
    rw [gd_room (by omega) (by omega), wi64 (by omega) (by omega), Sp.ifs]
    push_cast
    by_cases c1 : ((Sp.cs F but (Sp.cau l j)).length : Int) > 0
    · have c1' : 0 < (Sp.cs F but (Sp.cau l j)).length := by omega
      rw [if_pos c1']
      exact cond_dtt c1
    · have c1' : ¬ 0 < (Sp.cs F but (Sp.cau l j)).length := by omega
      rw [if_neg c1']
      exact cond_dff c1) (fun m => by
    show Sp.L_19_43_0_0 (m + 1) but F l l.length l.length F (Sp.ifs F but l l.length) = _
    rw [Sp.L_19_43_0_0, cond_dff (by omega)])
  exact hr0
theorem wo_in (hl : x.length ≤ 16) (hr : ∀ j, j < x.length → 0 ≤ x.getD j 0 ∧ x.getD j 0 < F.2.1.length) : Sp.L_25_41_0_0 4611686018427387904 but F x x.length 0 F a r [] = some (.e0 F a r (Sp.cs F but x)) := by
  have hr0 := run0 (fun m i (s : List Int) => Sp.L_25_41_0_0 m but F x x.length i F a r s) (n := x.length) (fun j => Sp.cs F but (x.take j)) (r := some (.e0 F a r (Sp.cs F but x))) (by omega) (fun m j hj => by
    show Sp.L_25_41_0_0 (m + 1) but F x x.length (j : Int) F a r (Sp.cs F but (x.take j)) = Sp.L_25_41_0_0 m but F x x.length ((j + 1 : Nat) : Int) F a r (Sp.cs F but (x.take (j + 1)))
    have hb := hr j hj
    have hlen := cs_len F but (x.take j)
    have ht : (x.take j).length ≤ 16 := by rw [List.length_take]; omega
    rw [Sp.L_25_41_0_0, cond_dtt (by omega), gd_inB (by omega) (by omega), Int.toNat_natCast, gd_inB hb.1 hb.2, gd_room (by omega) (by omega), wi64 (by omega) (by omega), cs_take hj]
    unfold Sp.act
    push_cast
    by_cases c1 : x.getD j 0 = but
    · rw [cond_nff c1, if_neg (by rw [c1]; simp)]
    have e1 : (x.getD j 0 != but) = true := bne_iff_ne.2 c1
    rw [cond_ntt c1, e1, Bool.true_and]
    cases Sp.andI .i64 (F.2.1.getD (x.getD j 0).toNat Zd2).1 5 != 0 <;> rfl) (fun m => by
    show Sp.L_25_41_0_0 (m + 1) but F x x.length x.length F a r (Sp.cs F but (x.take x.length)) = _
    rw [Sp.L_25_41_0_0, cond_dff (by omega), List.take_length])
  exact hr0
theorem wo_run (v : Vl l F.2.1.length) : Sp.L_25_43_0_0 4611686018427387904 but F l l.length 0 F [] = some (.e0 F (Sp.ifs F but l l.length)) := by
  have hv := v.ll
  have hr0 := run0 (fun m i (s : List AcT) => Sp.L_25_43_0_0 m but F l l.length i F s) (n := l.length) (fun j => Sp.ifs F but l j) (r := some (.e0 F (Sp.ifs F but l l.length))) (by omega) (fun m j hj => by
    show Sp.L_25_43_0_0 (m + 1) but F l l.length (j : Int) F (Sp.ifs F but l j) = Sp.L_25_43_0_0 m but F l l.length ((j + 1 : Nat) : Int) F (Sp.ifs F but l (j + 1))
    have hlen := ifs_len F but l j
    have h2 := wo_in (F := F) (but := but) (a := Sp.ifs F but l j) (r := l.getD j (Ty.dflt (.pair .str (.pair (.int .i64) (.pair (.int .i64) (.pair (.slice (.int .i64)) (.pair (.int .i64) .unit))))))) (v.c j hj) (v.r j hj)
    unfold Sp.cau at h2
    rw [Sp.L_25_43_0_0, cond_dtt (by omega), gd_inB (by omega) (by omega), Int.toNat_natCast, h2]
    simp only [Sp.B_25_41_0_0]
    rw [gd_room (by omega) (by omega), wi64 (by omega) (by omega), Sp.ifs]
    push_cast
    by_cases c1 : ((Sp.cs F but (Sp.cau l j)).length : Int) > 0
    · have c1' : 0 < (Sp.cs F but (Sp.cau l j)).length := by omega
      rw [if_pos c1']
      exact cond_dtt c1
    · have c1' : ¬ 0 < (Sp.cs F but (Sp.cau l j)).length := by omega
      rw [if_neg c1']
      exact cond_dff c1) (fun m => by
    show Sp.L_25_43_0_0 (m + 1) but F l l.length l.length F (Sp.ifs F but l l.length) = _
    rw [Sp.L_25_43_0_0, cond_dff (by omega)])
  exact hr0
theorem gv_pv (hs : Sm F) : Sp.p_40 l F = true ∧ Sp.v_40 l F = (Sp.vf F && Sp.rv l F.2.1.length, ()) := by
  refine pv_40 l F ?_
  unfold F_40
  rw [(vf_pv hs).1, (vf_pv hs).2, gd_tt, (rv_pv _ _).1, (rv_pv _ _).2, gd_tt]
  cases Sp.vf F <;> rfl
theorem ck_pv (hs : Sm F) : Sp.p_18 l F = true ∧ Sp.v_18 l F = (Sp.vf F && Sp.rv l F.2.1.length, ()) := by
  refine pv_18 l F ?_
  unfold F_18
  rw [(rvf_pv hs).1, (rvf_pv hs).2, gd_tt, (rrv_pv _ _).1, (rrv_pv _ _).2, gd_tt]
  cases Sp.vf F <;> rfl
theorem ac_pv (hs : Sm F) (h : (Sp.vf F && Sp.rv l F.2.1.length) = true) : Sp.p_19 l F = true ∧ Sp.v_19 l F = (Sp.ifs F (-1) l l.length, 0, ()) := by
  refine pv_19 l F ?_
  unfold F_19
  rw [(gv_pv hs).1, (gv_pv hs).2, gd_tt, h, Bool.not_true, cond_f, ac_run (rv_vl (by simpa using (Bool.and_eq_true _ _ ▸ h).2))]
  rfl
theorem ex_pv (hs : Sm F) {i : Nat} (h : (Sp.vf F && Sp.rv l F.2.1.length) = true) (hi : i < l.length) : Sp.p_17 l F (i : Int) = true ∧ Sp.v_17 l F (i : Int) = (Sp.cs F (-1) (Sp.cau l i), 0, ()) := by
  refine pv_17 l F (i : Int) ?_
  have v : Vl l F.2.1.length := rv_vl (by simpa using (Bool.and_eq_true _ _ ▸ h).2)
  have h2 := ex_run (F := F) (but := -1) (v.c i hi) (v.r i hi)
  unfold Sp.cau at h2
  unfold F_17
  rw [(gv_pv hs).1, (gv_pv hs).2, gd_tt, h, Bool.not_true, cond_f, cond_dff (by omega), cond_dff (by omega), gd_inB (by omega) (by omega), Int.toNat_natCast, h2]
  rfl
theorem wo_pv (hs : Sm F) {i : Int} (h : (Sp.vf F && Sp.rv l F.2.1.length) = true) (h0 : 0 ≤ i) (h1 : i < F.2.1.length) : Sp.p_25 l F i = true ∧ Sp.v_25 l F i = (Sp.ifs F i l l.length, 0, ()) := by
  refine pv_25 l F i ?_
  unfold F_25
  rw [(gv_pv hs).1, (gv_pv hs).2, gd_tt, h, Bool.not_true, cond_f, cond_dff (by omega), cond_dff (by omega), wo_run (rv_vl (by simpa using (Bool.and_eq_true _ _ ▸ h).2))]
  rfl
/-- What is in force: each reaction with its active causes. -/
theorem ifs_mem {x : AcT} : ∀ n, x ∈ Sp.ifs F but l n ↔ ∃ i, i < n ∧ x = ((i : Int), Sp.cs F but (Sp.cau l i), ()) ∧ 0 < (Sp.cs F but (Sp.cau l i)).length
  | 0 => by simp [Sp.ifs]
  | n + 1 => by
    rw [Sp.ifs]
    split
    · rename_i h
      rw [List.mem_append, ifs_mem n, List.mem_singleton]
      constructor
      · rintro (⟨i, hi, k⟩ | rfl)
        · exact ⟨i, by omega, k⟩
        · exact ⟨n, by omega, rfl, h⟩
      · rintro ⟨i, hi, k1, k2⟩
        by_cases e : i = n
        · subst e; exact Or.inr k1
        · exact Or.inl ⟨i, by omega, k1, k2⟩
    · rename_i h
      rw [ifs_mem n]
      constructor
      · rintro ⟨i, hi, k⟩
        exact ⟨i, by omega, k⟩
      · rintro ⟨i, hi, k1, k2⟩
        by_cases e : i = n
        · subst e; exact absurd k2 h
        · exact ⟨i, by omega, k1, k2⟩
/-- The place of a reaction in what is in force. -/
theorem ifs_find {i n : Nat} (hi : i < n) : (match fnd (fun k => ((Sp.ifs F but l n).getD k Zd0).1 == (i : Int)) (Sp.ifs F but l n).length 0 with
    | some k => k < (Sp.ifs F but l n).length ∧ ((Sp.ifs F but l n).getD k Zd0).2.1 = Sp.cs F but (Sp.cau l i) ∧ 0 < (Sp.cs F but (Sp.cau l i)).length
    | none => ¬ 0 < (Sp.cs F but (Sp.cau l i)).length) := by
  cases e : fnd (fun k => ((Sp.ifs F but l n).getD k Zd0).1 == (i : Int)) (Sp.ifs F but l n).length 0 with
  | some k =>
    obtain ⟨_, k1, k2, _⟩ := fnd_some e
    have hk : k < (Sp.ifs F but l n).length := by omega
    have hm : (Sp.ifs F but l n).getD k Zd0 ∈ Sp.ifs F but l n := by rw [getD_at _ hk]; exact List.getElem_mem hk
    obtain ⟨i', hi', e1, e2⟩ := (ifs_mem n).1 hm
    have k2 : ((Sp.ifs F but l n).getD k Zd0).1 = (i : Int) := by simpa using k2
    rw [e1] at k2
    have : i' = i := by have : (i' : Int) = i := k2; omega
    subst this
    refine ⟨hk, ?_, e2⟩
    rw [e1]
  | none =>
    intro h
    have hm : ((i : Int), Sp.cs F but (Sp.cau l i), ()) ∈ Sp.ifs F but l n := (ifs_mem n).2 ⟨i, hi, rfl, h⟩
    obtain ⟨k, hk, ek⟩ := List.getElem_of_mem hm
    have := (fnd_none.1 e) k (by omega) (by omega)
    rw [getD_at _ hk, ek] at this
    simp at this
theorem eqi_pv (a : List Int) (h : a.length ≤ 100000) : Sp.p_22 a a = true ∧ Sp.v_22 a a = (true, ()) := by
  refine pv_22 a a ?_
  unfold F_22
  rw [cond_nff rfl]
  have h1 := run0 (fun m i (_ : Unit) => Sp.L_22_0 m a a a.length i) (n := a.length) (fun _ => ()) (r := some .e1) (by omega) (fun m j hj => by
    show Sp.L_22_0 (m + 1) a a a.length (j : Int) = Sp.L_22_0 m a a a.length ((j + 1 : Nat) : Int)
    rw [Sp.L_22_0, cond_dtt (by omega), gd_inB (by omega) (by omega), gd_inB (by omega) (by omega), cond_nff rfl, wi64 (by omega) (by omega)]
    push_cast
    rfl) (fun m => by
    show Sp.L_22_0 (m + 1) a a a.length a.length = _
    rw [Sp.L_22_0, cond_dff (by omega)])
  have e1 : Sp.L_22_0 4611686018427387904 a a a.length 0 = _ := h1
  rw [e1]
  rfl
end
end Go.Ev
set_option linter.unusedSimpArgs false
set_option linter.unusedVariables false
namespace Go.Ev
open Go
set_option maxRecDepth 100000
set_option maxHeartbeats 4000000
namespace Sp
noncomputable def clF (F : FsT) : FsT := (F.1, List.replicate F.2.1.length Zd2, F.2.2)
end Sp
theorem rgt_dF {c : CfT} {cyc : Int} (h : Sp.cfg c = true) (hc : 0 ≤ cyc) : Sp.rgt c Zd2 cyc = true := by
  unfold Sp.cfg at h
  simp only [Bool.and_eq_true, inr_iff] at h
  have h1 : Sp.rngs c Zd2 cyc = true := by
    show (Sp.inr 0 0 31 && (Sp.inr 0 (0 - c.2.2.1) c.2.1 && (Sp.inr 0 0 2 && (Sp.inr 0 0 (c.2.2.2.2.1 - 1) && (Sp.inr 0 0 255 && Sp.inr 0 0 cyc))))) = true
    simp only [Bool.and_eq_true, inr_iff]
    omega
  have h2 : Sp.frq c Zd2 = true := rfl
  have h3 : Sp.q0 cyc Zd2 = true := by kernel_rfl
  have h4 : Sp.q1 c Zd2 = true := by kernel_rfl
  have h5 : Sp.q2 Zd2 = true := by kernel_rfl
  have h6 : Sp.fin c Zd2 = true := by kernel_rfl
  unfold Sp.rgt
  rw [h1, h2, h3, h4, h5, h6]
  rfl
theorem clF_vf {F : FsT} (h : Sp.vf F = true) : Sp.vf (Sp.clF F) = true := by
  unfold Sp.vf at h ⊢
  simp only [Bool.and_eq_true, decide_eq_true_eq, beq_iff_eq] at h ⊢
  obtain ⟨h1, h2, h3, h4, h5, h6, h7⟩ := h
  refine ⟨h1, h2, h3, by simpa [Sp.clF] using h4, h5, h6, ?_⟩
  unfold Sp.rgts
  rw [List.all_eq_true]
  intro j hj
  rw [List.mem_range] at hj
  have hj' : j < F.2.1.length := by simpa [Sp.clF] using hj
  have e : (Sp.clF F).2.1.getD j Zd2 = Zd2 := by
    unfold Sp.clF
    simp [List.getD_eq_getElem?_getD, hj']
  rw [e]
  exact rgt_dF (cfgs_at h2 (by omega)) (inr_iff.1 h5).1
theorem clF_sm {F : FsT} (h : Sm F) : Sm (Sp.clF F) := by
  refine ⟨by simpa [Sp.clF] using h.l, fun j hj => ?_⟩
  have hj' : j < F.2.1.length := by simpa [Sp.clF] using hj
  have e : (Sp.clF F).2.1.getD j Zd2 = Zd2 := by
    unfold Sp.clF
    simp [List.getD_eq_getElem?_getD, hj']
  rw [e]
  decide
theorem act_clF {F : FsT} {but c : Int} : Sp.act (Sp.clF F) but c = false := by
  unfold Sp.act
  have e : ((Sp.clF F).2.1.getD c.toNat Zd2).1 = 0 := by
    show ((List.replicate F.2.1.length Zd2).getD c.toNat Zd2).1 = 0
    rw [List.getD_eq_getElem?_getD, List.getElem?_replicate]
    split <;> rfl
  rw [e, show (Sp.andI .i64 0 5 != 0) = false by kernel_rfl, Bool.and_false]
theorem ifs_clF {F : FsT} {but : Int} {l : List RxT} : ∀ n, Sp.ifs (Sp.clF F) but l n = []
  | 0 => rfl
  | n + 1 => by
    have : Sp.cs (Sp.clF F) but (Sp.cau l n) = [] := by
      unfold Sp.cs
      rw [List.filter_eq_nil_iff]
      intro a _
      rw [act_clF]; decide
    rw [Sp.ifs, this, ifs_clF n, if_neg (by simp)]
theorem con_pv {x : List Int} {k : Int} (h : x.length ≤ 100) : Sp.p_27 x k = true ∧ Sp.v_27 x k = (x.contains k, ()) := by
  have hi : ∃ z : Int, F_47 x k = some (z, ()) ∧ decide (z ≥ 0) = x.contains k := by
    unfold F_47
    have hf := find0 (fun m j => Sp.L_47_0 m x k x.length j) (n := x.length) (fun j => k == x.getD j 0) (ex := fun j => some (.e0 (j : Int))) (e1 := some .e1) (by omega) (fun m j hj => by
      show Sp.L_47_0 (m + 1) x k x.length j = bif k == x.getD j 0 then some (.e0 (j : Int)) else Sp.L_47_0 m x k x.length ((j + 1 : Nat) : Int)
      rw [Sp.L_47_0, cond_dtt (by omega), gd_inB (by omega) (by omega), Int.toNat_natCast, wi64 (by omega) (by omega)]
      push_cast
      rfl) (fun m => by
      show Sp.L_47_0 (m + 1) x k x.length x.length = _
      rw [Sp.L_47_0, cond_dff (by omega)])
    rw [hf]
    cases e : fnd (fun j => k == x.getD j 0) x.length 0 with
    | some j =>
      obtain ⟨_, k1, k2, _⟩ := fnd_some e
      refine ⟨(j : Int), rfl, ?_⟩
      rw [decide_eq_true (by omega)]
      have k2 : k = x.getD j 0 := by simpa using k2
      rw [getD_at 0 (show j < x.length by omega)] at k2
      rw [eq_comm, List.contains_iff_mem, k2]
      exact List.getElem_mem _
    | none =>
      refine ⟨-1, rfl, ?_⟩
      rw [decide_eq_false (by decide), eq_comm]
      cases hc : x.contains k
      · rfl
      · rw [List.contains_iff_mem] at hc
        obtain ⟨j, hj, ej⟩ := List.getElem_of_mem hc
        have := (fnd_none.1 e) j (by omega) (by omega)
        rw [getD_at 0 hj, ej] at this
        simp at this
  obtain ⟨z, h1, h2⟩ := hi
  have hq := pv_47 x k h1
  refine pv_27 x k ?_
  unfold F_27
  rw [hq.1, hq.2, gd_tt]
  dsimp only
  rw [h2]
theorem act_but {F : FsT} {k c : Int} (h : 0 ≤ c) : Sp.act F k c = (Sp.act F (-1) c && !(c == k)) := by
  unfold Sp.act
  have e : (c != -1) = true := bne_iff_ne.2 (by omega)
  rw [e, Bool.true_and]
  by_cases hk : c = k
  · subst hk; simp
  · rw [bne_iff_ne.2 hk, beq_eq_false_iff_ne.2 hk]; simp
theorem cs_but {F : FsT} {k : Int} {x : List Int} (h : ∀ c ∈ x, 0 ≤ c) : Sp.cs F k x = (Sp.cs F (-1) x).filter (fun c => !(c == k)) := by
  unfold Sp.cs
  rw [List.filter_filter]
  apply List.filter_congr
  intro c hc
  rw [act_but (h c hc), Bool.and_comm]
theorem inc_nodup {x : List Int} (h : ∀ j, j + 1 < x.length → x.getD j 0 < x.getD (j + 1) 0) : x.Nodup := by
  have hlt : ∀ d j, j + d + 1 < x.length → x.getD j 0 < x.getD (j + d + 1) 0 := by
    intro d
    induction d with
    | zero => intro j hj; exact h j hj
    | succ d ih =>
      intro j hj
      have h1 := ih j (by omega)
      have h2 := h (j + d + 1) (by omega)
      have e : j + (d + 1) + 1 = j + d + 1 + 1 := by omega
      rw [e]; omega
  rw [List.Nodup, List.pairwise_iff_getElem]
  intro a b ha hb hab
  have := hlt (b - a - 1) a (by omega)
  rw [show a + (b - a - 1) + 1 = b by omega, getD_at 0 ha, getD_at 0 hb] at this
  omega
theorem plain_6 (l : List RxT) (F : FsT) (w f : Int) (_ : wfD (.slice (.pair .str (.pair (.int .i64) (.pair (.int .i64) (.pair (.slice (.int .i64)) (.pair (.int .i64) .unit)))))) l) (_ : wfD (.pair (.slice (.pair (.int .i64) (.pair (.int .i64) (.pair (.int .i64) (.pair (.int .i64) (.pair (.int .i64) (.pair (.int .i64) (.pair .bool (.pair (.int .i64) .unit))))))))) (.pair (.slice (.pair (.int .i64) (.pair (.int .i64) (.pair (.int .i64) (.pair (.int .i64) (.pair (.int .i64) (.pair (.slice (.int .i64)) (.pair (.int .i64) .unit)))))))) (.pair (.int .i64) (.pair .bool .unit)))) F) (ww : wfD (.int .u8) w) (wf : wfD (.int .u8) f) : F_6 l F w f = some true := by
  simp [wfD, Lit.wf, IntKind.min, IntKind.max, IntKind.signed, IntKind.bits] at ww wf
  unfold F_6
  obtain ⟨f1, f2⟩ := few_pv l F
  rw [aw_pv.1, aw_pv.2, gd_tt, Bool.not_true, cond_f, f1, gd_tt]
  cases hfe : (Sp.v_9 l F).1
  · rfl
  obtain ⟨n1, n2, n3, n4⟩ := f2 hfe
  have hs : Sm F := ⟨by omega, fun j hj => by have := n4 j hj; omega⟩
  rw [Bool.not_true, cond_f]
  rw [(ck_pv hs).1, (ck_pv hs).2, gd_tt]
  cases hok : (Sp.vf F && Sp.rv l F.2.1.length)
  · rfl
  obtain ⟨hvf, hrv⟩ := (Bool.and_eq_true _ _ ▸ hok : Sp.vf F = true ∧ Sp.rv l F.2.1.length = true)
  have v : Vl l F.2.1.length := rv_vl (by simpa using hrv)
  have vl := v.ll
  rw [Bool.not_true, cond_f]
  by_cases h1 : (l.length : Int) = 0
  · rw [cond_ett h1]; rfl
  rw [cond_eff h1]
  by_cases h2 : (F.2.1.length : Int) = 0
  · rw [cond_ett h2]; rfl
  rw [cond_eff h2]
  have ecl : (F.1, List.replicate (Int.toNat ((F.2.1.length : Nat) : Int)) Zd2, F.2.2) = Sp.clF F := by rw [Int.toNat_natCast]; rfl
  have hscl := clF_sm hs
  have hvcl := clF_vf hvf
  have hokc : (Sp.vf (Sp.clF F) && Sp.rv l (Sp.clF F).2.1.length) = true := by
    rw [hvcl, Bool.true_and, show (Sp.clF F).2.1.length = F.2.1.length by simp [Sp.clF]]; exact hrv
  rw [ecl, beq_self_eq_true, Bool.true_and, Int.toNat_natCast, gd_room (by omega) (by omega), (rvf_pv hscl).1, (rvf_pv hscl).2, gd_tt, hvcl, Bool.not_true, cond_f, (ac_pv hscl hokc).1, (ac_pv hscl hokc).2, gd_tt, cond_nff rfl]
  dsimp only
  rw [ifs_clF, cond_nff (show ((List.length ([] : List AcT) : Nat) : Int) = 0 from rfl)]
  have g1 : (!((l.length : Nat) : Int) == 0) = true := by rw [beq_eq_false_iff_ne.2 h1]; rfl
  have g2 : (!((F.2.1.length : Nat) : Int) == 0) = true := by rw [beq_eq_false_iff_ne.2 h2]; rfl
  rw [g1, gd_tt, g2, gd_tt, wi64 (n := w) (by omega) (by omega), wi64 (n := f) (by omega) (by omega)]
  have a0 := Int.tmod_nonneg (a := w) (l.length : Int) (by omega)
  have a1 := Int.tmod_lt_of_pos w (b := (l.length : Int)) (by omega)
  have b0 := Int.tmod_nonneg (a := f) (F.2.1.length : Int) (by omega)
  have b1 := Int.tmod_lt_of_pos f (b := (F.2.1.length : Int)) (by omega)
  generalize Int.tmod f (F.2.1.length : Int) = k at b0 b1 ⊢
  obtain ⟨i, ei⟩ := Int.eq_ofNat_of_zero_le a0
  rw [ei] at a1 ⊢
  have hi : i < l.length := by omega
  rw [(wo_pv hs hok b0 b1).1, (wo_pv hs hok b0 b1).2, gd_tt, (ex_pv hs hok hi).1, (ex_pv hs hok hi).2, gd_tt, cond_nff rfl, cond_nff rfl]
  dsimp only
  have hil := ifs_len F k l l.length
  have hf := find0 (fun m j => Sp.L_6_20_0_0 m (Sp.ifs F k l l.length) (Sp.ifs F k l l.length).length j F F.1 F.2.2 (List.replicate F.2.1.length Zd2) i) (n := (Sp.ifs F k l l.length).length) (fun q => ((Sp.ifs F k l l.length).getD q Zd0).1 == (i : Int)) (ex := fun q => some (.e0 (q : Int) F F.1 F.2.2 (List.replicate F.2.1.length Zd2) i)) (e1 := some (.e1 F F.1 F.2.2 (List.replicate F.2.1.length Zd2) i)) (by omega) (fun m j hj => by
    show Sp.L_6_20_0_0 (m + 1) (Sp.ifs F k l l.length) (Sp.ifs F k l l.length).length j F F.1 F.2.2 (List.replicate F.2.1.length Zd2) i = bif ((Sp.ifs F k l l.length).getD j Zd0).1 == (i : Int) then some (.e0 (j : Int) F F.1 F.2.2 (List.replicate F.2.1.length Zd2) i) else Sp.L_6_20_0_0 m (Sp.ifs F k l l.length) (Sp.ifs F k l l.length).length ((j + 1 : Nat) : Int) F F.1 F.2.2 (List.replicate F.2.1.length Zd2) i
    rw [Sp.L_6_20_0_0, cond_dtt (by omega), gd_inB (by omega) (by omega), Int.toNat_natCast, wi64 (by omega) (by omega)]
    push_cast
    rfl) (fun m => by
    show Sp.L_6_20_0_0 (m + 1) (Sp.ifs F k l l.length) (Sp.ifs F k l l.length).length (Sp.ifs F k l l.length).length F F.1 F.2.2 (List.replicate F.2.1.length Zd2) i = _
    rw [Sp.L_6_20_0_0, cond_dff (by omega)])
  rw [hf]
  have hplace := ifs_find (l := l) (F := F) (but := k) hi
  have hc16 := v.c i hi
  have hnn : ∀ c ∈ Sp.cau l i, 0 ≤ c := fun c hc => by
    obtain ⟨j, hj, ej⟩ := List.getElem_of_mem hc
    have := (v.r i hi j hj).1
    rwa [getD_at 0 hj, ej] at this
  have hcb := cs_but (F := F) (k := k) hnn
  have hnd : (Sp.cau l i).Nodup := inc_nodup (v.s i hi)
  have hc1 := cs_len F (-1) (Sp.cau l i)
  have hc2 := cs_len F k (Sp.cau l i)
  have ecau : (l.getD i (Ty.dflt (.pair .str (.pair (.int .i64) (.pair (.int .i64) (.pair (.slice (.int .i64)) (.pair (.int .i64) .unit))))))).2.2.2.1 = Sp.cau l i := rfl
  have hnone : Sp.cs F k (Sp.cau l i) = Sp.cs F (-1) (Sp.cau l i) ∨ (Sp.cau l i).contains k = true := by
    cases hk : (Sp.cau l i).contains k
    · left
      rw [hcb, List.filter_eq_self]
      intro c hc
      have hc' : c ∈ Sp.cau l i := (List.mem_filter.1 hc).1
      have : ¬ c = k := by
        intro e; subst e
        have := List.contains_iff_mem.2 hc'
        rw [hk] at this; cases this
      simp [this]
    · exact Or.inr rfl
  -- what is left of the causes
  have honly : (Sp.cau l i).contains k = true → (0 < (Sp.cs F k (Sp.cau l i)).length ↔ 0 < (Sp.cs F (-1) (Sp.cau l i)).length ∧ ¬ (Sp.cs F (-1) (Sp.cau l i) = [k])) := by
    intro _
    rw [hcb]
    have hnd2 : (Sp.cs F (-1) (Sp.cau l i)).Nodup := List.Sublist.nodup List.filter_sublist hnd
    generalize Sp.cs F (-1) (Sp.cau l i) = y at hnd2
    match y, hnd2 with
    | [], _ => simp
    | [c], _ =>
      by_cases e : c = k
      · subst e; simp
      · simp [e]
    | c :: d :: y, h =>
      have hcd : c ≠ d := by
        rw [List.nodup_cons] at h
        intro e; exact h.1 (by simp [e])
      constructor
      · intro _; exact ⟨by simp, by simp⟩
      · intro _
        by_cases e : c = k
        · have : ¬ d = k := fun e2 => hcd (e.trans e2.symm)
          simp [e, this]
        · simp [e]
  cases e : fnd (fun q => ((Sp.ifs F k l l.length).getD q Zd0).1 == (i : Int)) (Sp.ifs F k l l.length).length 0 with
  | some q =>
    rw [e] at hplace
    obtain ⟨p1, p2, p3⟩ := hplace
    dsimp only [Sp.B_6_20_0_0]
    rw [gd_inB (by omega) (by omega), Int.toNat_natCast, ecau, (con_pv (by omega)).1, (con_pv (by omega)).2, gd_tt]
    cases hk : (Sp.cau l i).contains k
    · have h3 : Sp.cs F k (Sp.cau l i) = Sp.cs F (-1) (Sp.cau l i) := hnone.resolve_right (by rw [hk]; decide)
      rw [h3] at p2 p3 hc2
      rw [Bool.not_false, cond_t, decide_eq_true (p := ((q : Nat) : Int) ≥ 0) (by omega), decide_eq_true (p := ((Sp.cs F (-1) (Sp.cau l i)).length : Int) > 0) (by omega), show (true == true) = true from rfl, cond_t, cond_dff (by omega), gd_inB (by omega) (by omega), Int.toNat_natCast, p2, (eqi_pv _ (by omega)).1, (eqi_pv _ (by omega)).2, gd_tt]
    · obtain ⟨o1, o2⟩ := (honly hk).1 p3
      rw [Bool.not_true, cond_f, decide_eq_true (p := ((q : Nat) : Int) ≥ 0) (by omega)]
      by_cases hl1 : ((Sp.cs F (-1) (Sp.cau l i)).length : Int) = 1
      · rw [cond_ett hl1, gd_inB (by omega) (by omega), cond_dtt (by omega)]
        have : ((Sp.cs F (-1) (Sp.cau l i)).getD 0 0 == k) = false := by
          rw [beq_eq_false_iff_ne]
          intro e3
          apply o2
          match hcs : Sp.cs F (-1) (Sp.cau l i), hl1 with
          | [c], _ => rw [hcs] at e3; simpa using e3
        rw [this]; rfl
      · rw [cond_eff hl1]
        rw [cond_dtt (by omega)]; rfl
  | none =>
    rw [e] at hplace
    have hplace : ¬ 0 < (Sp.cs F k (Sp.cau l i)).length := hplace
    dsimp only [Sp.B_6_20_0_0]
    rw [gd_inB (by omega) (by omega), Int.toNat_natCast, ecau, (con_pv (by omega)).1, (con_pv (by omega)).2, gd_tt]
    cases hk : (Sp.cau l i).contains k
    · have h3 : Sp.cs F k (Sp.cau l i) = Sp.cs F (-1) (Sp.cau l i) := hnone.resolve_right (by rw [hk]; decide)
      rw [h3] at hplace
      rw [Bool.not_false, cond_t, decide_eq_false (p := ((Sp.cs F (-1) (Sp.cau l i)).length : Int) > 0) (by omega)]
      rfl
    · have o := fun h => hplace ((honly hk).2 h)
      rw [Bool.not_true, cond_f]
      by_cases hl1 : ((Sp.cs F (-1) (Sp.cau l i)).length : Int) = 1
      · rw [cond_ett hl1, gd_inB (by omega) (by omega), cond_dtt (by omega)]
        have : ((Sp.cs F (-1) (Sp.cau l i)).getD 0 0 == k) = true := by
          rw [beq_iff_eq]
          have ec : Sp.cs F (-1) (Sp.cau l i) = [k] := Classical.byContradiction fun h => o ⟨by omega, h⟩
          rw [ec]; rfl
        rw [this]; rfl
      · rw [cond_eff hl1]
        by_cases hl0 : ((Sp.cs F (-1) (Sp.cau l i)).length : Int) > 0
        · exfalso
          exact o ⟨by omega, fun ec => hl1 (by rw [ec]; rfl)⟩
        · rw [cond_dff hl0]
end Go.Ev
