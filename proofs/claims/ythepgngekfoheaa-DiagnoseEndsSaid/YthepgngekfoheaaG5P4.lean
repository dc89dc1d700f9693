/- Helpers: functions of the program as Lean functions, and what they compute. No condition. -/
import Derived.Test.YthepgngekfoheaaE5P2
import Derived.Test.YthepgngekfoheaaG5P0
import Derived.Test.YthepgngekfoheaaE5P3
import Derived.Test.YthepgngekfoheaaG5P3
set_option maxRecDepth 10000
set_option linter.unusedVariables false
set_option linter.unusedSimpArgs false
namespace Go.Ev
open Go
set_option maxRecDepth 100000
set_option maxHeartbeats 4000000
set_option linter.unusedVariables false
noncomputable section

noncomputable def sm_25 : Nat → Option Summ := fun f => bif Nat.beq f 38 then some s_38 else none


noncomputable def F_25 (a0 : (Int × (Int × (Int × (Int × (Int × (Int × (Bool × (Int × Unit))))))))) : Option (Bool × Unit) :=
  gd (Sp.p_38 a0) (some (!(Sp.v_38 a0).1, PUnit.unit))
noncomputable def Sp.p_25 (a0 : (Int × (Int × (Int × (Int × (Int × (Int × (Bool × (Int × Unit))))))))) : Bool := (F_25 a0).isSome
noncomputable def Sp.v_25 (a0 : (Int × (Int × (Int × (Int × (Int × (Int × (Bool × (Int × Unit))))))))) : Bool × Unit := (F_25 a0).getD (dfH [.bool])
noncomputable def s_25 : Summ := shN [(.pair (.int .i64) (.pair (.int .i64) (.pair (.int .i64) (.pair (.int .i64) (.pair (.int .i64) (.pair (.int .i64) (.pair .bool (.pair (.int .i64) .unit))))))))] [.bool] (fun x => Sp.p_25 x.1) (fun x => Sp.v_25 x.1)
end
end Go.Ev
set_option linter.unusedSimpArgs false
set_option linter.unusedVariables false
namespace Go.Ev
open Go
set_option maxRecDepth 100000
set_option maxHeartbeats 4000000
abbrev CfT := Int × Int × Int × Int × Int × Int × Bool × Int × Unit
abbrev FaT := Int × Int × Int × Int × Int × List Int × Int × Unit
abbrev FsT := List CfT × List FaT × Int × Bool × Unit
namespace Sp
noncomputable def inr (x l h : Int) : Bool := decide (x ≥ l) && decide (x ≤ h)
noncomputable def cfg (c : CfT) : Bool := inr c.1 1 16777215 && (inr c.2.1 1 100 && (inr c.2.2.1 1 100 && (inr c.2.2.2.1 1 100 && (inr c.2.2.2.2.1 c.2.2.2.1 255 && (inr c.2.2.2.2.2.1 0 255 && inr c.2.2.2.2.2.2.2.1 0 8)))))
noncomputable def val (x : Int) : Bool := inr x (-1099511627776) 1099511627776
noncomputable def vals (l : List Int) : Bool := (List.range l.length).all fun j => val (l.getD j 0)
/-- A bit of a status. -/
noncomputable def bt (f : FaT) (k : Int) : Bool := andI .i64 f.1 k == k
noncomputable def kno (f : FaT) : Bool := decide (f.2.2.2.2.1 ≥ 1) && (decide (f.2.2.1 ≥ 1) && decide (f.2.2.2.2.2.2.1 ≥ 1))
noncomputable def unk (f : FaT) : Bool := (f.2.2.1 == 0) && ((f.2.2.2.1 == 0) && ((f.2.2.2.2.1 == 0) && (f.2.2.2.2.2.2.1 == 0)))
noncomputable def q2 (f : FaT) : Bool := !(bt f 2 && (f.2.2.2.1 != 0))
noncomputable def q1 (c : CfT) (f : FaT) : Bool := (bt f 4 == (f.2.2.1 == 2)) && (!bt f 16 || (bt f 4 && c.2.2.2.2.2.2.1))
noncomputable def q0 (cyc : Int) (f : FaT) : Bool := !bt f 1 || ((bt f 2 && bt f 8) && (f.2.2.2.2.2.2.1 == cyc))
noncomputable def rngs (c : CfT) (f : FaT) (cyc : Int) : Bool := inr f.1 0 31 && (inr f.2.1 (0 - c.2.2.1) c.2.1 && (inr f.2.2.1 0 2 && (inr f.2.2.2.1 0 (c.2.2.2.2.1 - 1) && (inr f.2.2.2.2.1 0 255 && inr f.2.2.2.2.2.2.1 0 cyc))))
noncomputable def frq (c : CfT) (f : FaT) : Bool := (((f.2.2.2.2.2.1.length : Int) == 0) || ((f.2.2.2.2.2.1.length : Int) == c.2.2.2.2.2.2.2.1)) && vals f.2.2.2.2.2.1
noncomputable def fin (c : CfT) (f : FaT) : Bool := bif bt f 2 || bt f 4 then kno f && ((f.2.2.2.2.2.1.length : Int) == c.2.2.2.2.2.2.2.1) else unk f && ((f.2.2.2.2.2.1.length : Int) == 0)
/-- The state of a fault is valid. -/
noncomputable def rgt (c : CfT) (f : FaT) (cyc : Int) : Bool := rngs c f cyc && (frq c f && ((q0 cyc f && (q1 c f && q2 f)) && fin c f))
end Sp
theorem inr_iff {x l h : Int} : Sp.inr x l h = true ↔ l ≤ x ∧ x ≤ h := by simp [Sp.inr]
theorem wit_ok (x l h : Int) : F_27 x l h = some (Sp.inr x l h, ()) := by
  unfold F_27 Sp.inr
  cases decide (x ≥ l) <;> rfl
theorem wit_pv (x l h : Int) : Sp.p_27 x l h = true ∧ Sp.v_27 x l h = (Sp.inr x l h, ()) := pv_27 x l h (wit_ok x l h)
theorem cfg_ok (c : CfT) : F_38 c = some (Sp.cfg c, ()) := by
  unfold F_38 Sp.cfg
  simp only [wit_pv, gd_tt]
  cases Sp.inr c.1 1 16777215 <;> try rfl
  cases Sp.inr c.2.1 1 100 <;> try rfl
  cases Sp.inr c.2.2.1 1 100 <;> try rfl
  cases Sp.inr c.2.2.2.1 1 100 <;> try rfl
  cases Sp.inr c.2.2.2.2.1 c.2.2.2.1 255 <;> try rfl
  cases Sp.inr c.2.2.2.2.2.1 0 255 <;> rfl
theorem cfg_pv (c : CfT) : Sp.p_38 c = true ∧ Sp.v_38 c = (Sp.cfg c, ()) := pv_38 c (cfg_ok c)
theorem has_pv (f : FaT) (k : Int) : Sp.p_40 f k = true ∧ Sp.v_40 f k = (Sp.bt f k, ()) := pv_40 f k rfl
/-- Bits of small numbers. -/
theorem tab (P : Int → Bool) (h : (List.range 32).all (fun n => P (n : Int)) = true) {s : Int} (h0 : 0 ≤ s) (h1 : s ≤ 31) : P s = true := by
  obtain ⟨n, rfl⟩ := Int.eq_ofNat_of_zero_le h0
  rw [List.all_eq_true] at h
  exact h n (by rw [List.mem_range]; omega)
theorem bt_ne {s : Int} (h0 : 0 ≤ s) (h1 : s ≤ 31) : ((Sp.andI .i64 s 1 != 0) = (Sp.andI .i64 s 1 == 1) ∧ (Sp.andI .i64 s 2 != 0) = (Sp.andI .i64 s 2 == 2) ∧ (Sp.andI .i64 s 4 != 0) = (Sp.andI .i64 s 4 == 4)) ∧ ((Sp.andI .i64 s 8 != 0) = (Sp.andI .i64 s 8 == 8) ∧ (Sp.andI .i64 s 16 != 0) = (Sp.andI .i64 s 16 == 16)) ∧ (Sp.andI .i64 s 10 == 10) = ((Sp.andI .i64 s 2 == 2) && (Sp.andI .i64 s 8 == 8)) ∧ (Sp.andI .i64 s 6 != 0) = ((Sp.andI .i64 s 2 == 2) || (Sp.andI .i64 s 4 == 4)) := by
  have := tab (fun s => ((((Sp.andI .i64 s 1 != 0) == (Sp.andI .i64 s 1 == 1)) && ((Sp.andI .i64 s 2 != 0) == (Sp.andI .i64 s 2 == 2)) && ((Sp.andI .i64 s 4 != 0) == (Sp.andI .i64 s 4 == 4)))) && ((((Sp.andI .i64 s 8 != 0) == (Sp.andI .i64 s 8 == 8)) && ((Sp.andI .i64 s 16 != 0) == (Sp.andI .i64 s 16 == 16)))) && ((Sp.andI .i64 s 10 == 10) == ((Sp.andI .i64 s 2 == 2) && (Sp.andI .i64 s 8 == 8))) && ((Sp.andI .i64 s 6 != 0) == ((Sp.andI .i64 s 2 == 2) || (Sp.andI .i64 s 4 == 4)))) (by decide +kernel) h0 h1
  simp only [Bool.and_eq_true, beq_iff_eq] at this
  exact ⟨⟨this.1.1.1.1.1, this.1.1.1.1.2, this.1.1.1.2⟩, this.1.1.2, this.1.2, this.2⟩
end Go.Ev
set_option linter.unusedSimpArgs false
set_option linter.unusedVariables false
namespace Go.Ev
open Go
set_option maxRecDepth 100000
set_option maxHeartbeats 4000000
theorem fnd_all (P : Nat → Bool) (n : Nat) : (fnd (fun j => !P j) n 0 = none) ↔ (List.range n).all P = true := by
  rw [fnd_none, List.all_eq_true]
  constructor
  · intro h x hx
    have := h x (by omega) (by rw [List.mem_range] at hx; omega)
    simpa using this
  · intro h i _ hi
    rw [h i (by rw [List.mem_range]; omega)]
    rfl
namespace Sp
noncomputable def frm (c : CfT) (l : List Int) : Bool := ((l.length : Int) == c.2.2.2.2.2.2.2.1) && vals l
noncomputable def cfgs (l : List CfT) : Bool := (List.range l.length).all fun j => cfg (l.getD j Zd0)
noncomputable def rgts (F : FsT) : Bool := (List.range F.2.1.length).all fun j => rgt (F.1.getD j Zd0) (F.2.1.getD j Zd1) F.2.2.1
/-- A state is valid. -/
noncomputable def vf (F : FsT) : Bool := decide (F.1.length ≤ 64) && (cfgs F.1 && (dst (F.1.map fun c => c.1) && (((F.2.1.length : Int) == F.1.length) && (inr F.2.2.1 0 1073741824 && ((!F.2.2.2.1 || decide (F.2.2.1 ≥ 1)) && rgts F)))))
end Sp
theorem val_pv (x : Int) : Sp.p_55 x = true ∧ Sp.v_55 x = (Sp.val x, ()) := by
  refine pv_55 x ?_
  unfold F_55
  rw [(wit_pv _ _ _).1, (wit_pv _ _ _).2, gd_tt]
  rfl
theorem frm_ok (c : CfT) (l : List Int) (h : l.length < 4611686018427387904) : F_39 c l = some (Sp.frm c l, ()) := by
  unfold F_39 Sp.frm
  cases (l.length : Int) == c.2.2.2.2.2.2.2.1
  · rfl
  have hf := find0 (fun m i => Sp.L_39_57_0_0 m l l.length i c) (n := l.length) (fun j => !Sp.val (l.getD j 0)) (ex := fun j => some (.e0 (j : Int) c)) (e1 := some (.e1 c)) h (fun m j hj => by
    show Sp.L_39_57_0_0 (m + 1) l l.length j c = bif !Sp.val (l.getD j 0) then some (.e0 (j : Int) c) else Sp.L_39_57_0_0 m l l.length ((j + 1 : Nat) : Int) c
    rw [Sp.L_39_57_0_0, cond_dtt (by omega), gd_inB (by omega) (by omega), Int.toNat_natCast, (val_pv _).1, (val_pv _).2, gd_tt, wi64 (by omega) (by omega)]
    push_cast
    rfl) (fun m => by
    show Sp.L_39_57_0_0 (m + 1) l l.length l.length c = _
    rw [Sp.L_39_57_0_0, cond_dff (by omega)])
  rw [hf, cond_t]
  cases hk : fnd (fun j => !Sp.val (l.getD j 0)) l.length 0 with
  | none =>
    have : Sp.vals l = true := (fnd_all (fun j => Sp.val (l.getD j 0)) l.length).1 hk
    rw [this]
    rfl
  | some k =>
    have : Sp.vals l = false := by
      cases hv : Sp.vals l
      · rfl
      · have := (fnd_all (fun j => Sp.val (l.getD j 0)) l.length).2 hv
        rw [this] at hk; cases hk
    rw [this]
    simp only [Sp.B_39_57_0_0]
    rw [decide_eq_true (by omega)]
    rfl
theorem frm_pv (c : CfT) (l : List Int) (h : l.length < 4611686018427387904) : Sp.p_39 c l = true ∧ Sp.v_39 c l = (Sp.frm c l, ()) := pv_39 c l (frm_ok c l h)
section
variable {c : CfT} {f : FaT} {cyc : Int}
theorem kn_pv (h0 : 0 ≤ f.1) (h1 : f.1 ≤ 31) : Sp.p_41 f = true ∧ Sp.v_41 f = (Sp.bt f 2 || Sp.bt f 4, ()) := by
  refine pv_41 f ?_
  unfold F_41 Sp.bt
  rw [(bt_ne h0 h1).2.2.2]
theorem bt10 (h0 : 0 ≤ f.1) (h1 : f.1 ≤ 31) : Sp.bt f 10 = (Sp.bt f 2 && Sp.bt f 8) := (bt_ne h0 h1).2.2.1
theorem gJ3 (h0 : 0 ≤ f.1) (h1 : f.1 ≤ 31) : Sp.J_28_3 c f = some (bif Sp.bt f 2 || Sp.bt f 4 then (bif Sp.kno f then .e0 c f else .e1) else .e2 c f) := by
  unfold Sp.J_28_3 Sp.kno
  rw [(kn_pv h0 h1).1, (kn_pv h0 h1).2, gd_tt]
  cases Sp.bt f 2 || Sp.bt f 4 <;> try rfl
  cases decide (f.2.2.2.2.1 ≥ 1) <;> try rfl
  cases decide (f.2.2.1 ≥ 1) <;> try rfl
  cases decide (f.2.2.2.2.2.2.1 ≥ 1) <;> rfl
theorem gJ2 (h0 : 0 ≤ f.1) (h1 : f.1 ≤ 31) : Sp.J_28_2 c f = some (bif Sp.q2 f then (bif Sp.bt f 2 || Sp.bt f 4 then (bif Sp.kno f then .e1 c f else .e0) else .e2 c f) else .e0) := by
  unfold Sp.J_28_2 Sp.q2
  simp only [has_pv, gd_tt, gJ3 h0 h1]
  cases Sp.bt f 2 <;> cases f.2.2.2.1 != 0 <;> cases Sp.bt f 4 <;> cases Sp.kno f <;> rfl
theorem gJ1 (h0 : 0 ≤ f.1) (h1 : f.1 ≤ 31) : Sp.J_28_1 c f = some (bif Sp.q1 c f && Sp.q2 f then (bif Sp.bt f 2 || Sp.bt f 4 then (bif Sp.kno f then .e1 c f else .e0) else .e2 c f) else .e0) := by
  unfold Sp.J_28_1 Sp.q1
  simp only [has_pv, gd_tt, gJ2 h0 h1]
  cases Sp.bt f 4 <;> cases f.2.2.1 == 2 <;> cases Sp.bt f 16 <;> cases c.2.2.2.2.2.2.1 <;> cases Sp.q2 f <;> cases Sp.bt f 2 <;> cases Sp.kno f <;> rfl
theorem gJ0 (h0 : 0 ≤ f.1) (h1 : f.1 ≤ 31) : Sp.J_28_0 cyc c f = some (bif Sp.q0 cyc f && (Sp.q1 c f && Sp.q2 f) then (bif Sp.bt f 2 || Sp.bt f 4 then (bif Sp.kno f then .e1 c f else .e0) else bif Sp.unk f then .e2 f else .e0) else .e0) := by
  unfold Sp.J_28_0 Sp.q0 Sp.unk
  simp only [has_pv, gd_tt, gJ1 h0 h1, bt10 h0 h1]
  have hz : ∀ x y : Int, (bif !(x == y) then (some (Sp.E_28_0.e0) : Option Sp.E_28_0) else none) = (bif x != y then some (Sp.E_28_0.e0) else none) := fun _ _ => rfl
  cases e1 : f.2.2.1 == 0 <;> cases e2 : f.2.2.2.1 == 0 <;> cases e3 : f.2.2.2.2.1 == 0 <;> cases e4 : f.2.2.2.2.2.2.1 == 0 <;> cases e5 : f.2.2.2.2.2.2.1 == cyc <;> cases Sp.q1 c f && Sp.q2 f <;> cases Sp.bt f 1 <;> cases Sp.bt f 2 <;> cases Sp.bt f 8 <;> cases Sp.bt f 4 <;> cases Sp.kno f <;> simp only [bne, e1, e2, e3, e4, e5, Sp.B_28_1, Bool.not_true, Bool.not_false, cond_true, cond_false, Bool.and_true, Bool.and_false, Bool.true_and, Bool.false_and, Bool.or_true, Bool.or_false, Bool.true_or, Bool.false_or]
theorem right_ok (hc : Sp.cfg c = true) (hfr : f.2.2.2.2.2.1.length < 4611686018427387904) : F_28 c f cyc = some (Sp.rgt c f cyc, ()) := by
  simp only [Sp.cfg, Bool.and_eq_true, inr_iff] at hc
  unfold F_28 Sp.rgt Sp.rngs
  simp only [wit_pv, gd_tt]
  rw [wi64 (n := 0 - c.2.2.1) (by omega) (by omega), wi64 (n := c.2.2.2.2.1 - 1) (by omega) (by omega)]
  cases h1 : Sp.inr f.1 0 31
  · rfl
  have hb := inr_iff.1 h1
  cases Sp.inr f.2.1 (0 - c.2.2.1) c.2.1
  · rfl
  cases Sp.inr f.2.2.1 0 2
  · rfl
  cases Sp.inr f.2.2.2.1 0 (c.2.2.2.2.1 - 1)
  · rfl
  cases Sp.inr f.2.2.2.2.1 0 255
  · rfl
  cases Sp.inr f.2.2.2.2.2.2.1 0 cyc
  · rfl
  simp only [Bool.not_true, cond_f, Bool.and_true, Bool.true_and]
  simp only [frm_pv _ _ hfr, gd_tt, gJ0 hb.1 hb.2]
  unfold Sp.frq Sp.fin Sp.frm
  by_cases hl : f.2.2.2.2.2.1 = []
  · have hv : Sp.vals f.2.2.2.2.2.1 = true := by rw [hl]; rfl
    have hz : ((f.2.2.2.2.2.1.length : Int) == 0) = true := by rw [hl]; rfl
    rw [cond_dff (by rw [hl]; decide), hv, hz]
    cases e1 : ((f.2.2.2.2.2.1.length : Int) == c.2.2.2.2.2.2.2.1) <;> cases Sp.bt f 2 <;> cases Sp.bt f 4 <;> cases Sp.q0 cyc f && (Sp.q1 c f && Sp.q2 f) <;> cases Sp.kno f <;> cases Sp.unk f <;> simp only [bne, hz, e1, Sp.B_28_0, Bool.not_true, Bool.not_false, cond_true, cond_false, Bool.and_true, Bool.and_false, Bool.true_and, Bool.false_and, Bool.or_true, Bool.or_false, Bool.true_or, Bool.false_or]
  · have hp : 0 < f.2.2.2.2.2.1.length := List.length_pos_iff.2 hl
    have hz : ((f.2.2.2.2.2.1.length : Int) == 0) = false := beq_eq_false_iff_ne.2 (by omega)
    rw [cond_dtt (by omega), hz]
    cases e1 : ((f.2.2.2.2.2.1.length : Int) == c.2.2.2.2.2.2.2.1) <;> cases Sp.vals f.2.2.2.2.2.1 <;> cases Sp.bt f 2 <;> cases Sp.bt f 4 <;> cases Sp.q0 cyc f && (Sp.q1 c f && Sp.q2 f) <;> cases Sp.kno f <;> cases Sp.unk f <;> simp only [bne, hz, e1, Sp.B_28_0, Bool.not_true, Bool.not_false, cond_true, cond_false, Bool.and_true, Bool.and_false, Bool.true_and, Bool.false_and, Bool.or_true, Bool.or_false, Bool.true_or, Bool.false_or]
theorem right_pv (hc : Sp.cfg c = true) (hfr : f.2.2.2.2.2.1.length < 4611686018427387904) : Sp.p_28 c f cyc = true ∧ Sp.v_28 c f cyc = (Sp.rgt c f cyc, ()) := pv_28 c f cyc (right_ok hc hfr)
end
/-- Memory is not great. -/
structure Sm (F : FsT) : Prop where
  l : F.2.1.length < 4611686018427387904
  f : ∀ j, j < F.2.1.length → (F.2.1.getD j Zd1).2.2.2.2.2.1.length < 4611686018427387904
theorem cfgs_at {l : List CfT} (h : Sp.cfgs l = true) {j : Nat} (hj : j < l.length) : Sp.cfg (l.getD j Zd0) = true := by
  unfold Sp.cfgs at h
  rw [List.all_eq_true] at h
  exact h j (by rw [List.mem_range]; exact hj)
theorem vJ0 {F : FsT} (hs : Sm F) (hc : Sp.cfgs F.1 = true) (hl : F.2.1.length = F.1.length) : Sp.J_10_0 F = some (bif Sp.rgts F then .e1 else .e0) := by
  have := all0 (fun m i => Sp.L_10_1 m F.2.1 F.2.1.length i F) (n := F.2.1.length) (fun j => Sp.rgt (F.1.getD j Zd0) (F.2.1.getD j Zd1) F.2.2.1) (e0 := some .e0) (e1 := some .e1) hs.l (fun m j hj => by
    show Sp.L_10_1 (m + 1) F.2.1 F.2.1.length j F = bif Sp.rgt (F.1.getD j Zd0) (F.2.1.getD j Zd1) F.2.2.1 then Sp.L_10_1 m F.2.1 F.2.1.length ((j + 1 : Nat) : Int) F else some .e0
    have hr := right_pv (cyc := F.2.2.1) (cfgs_at hc (j := j) (by omega)) (hs.f j hj)
    rw [Sp.L_10_1, cond_dtt (by omega), gd_inB (by omega) (by omega), gd_inB (by omega) (by omega), Int.toNat_natCast, hr.1, hr.2, gd_tt, wi64 (by have := hs.l; omega) (by have := hs.l; omega)]
    push_cast
    cases Sp.rgt (F.1.getD j Zd0) (F.2.1.getD j Zd1) F.2.2.1 <;> rfl) (fun m => by
    show Sp.L_10_1 (m + 1) F.2.1 F.2.1.length F.2.1.length F = _
    rw [Sp.L_10_1, cond_dff (by omega)])
  unfold Sp.J_10_0
  rw [this]
  unfold Sp.rgts
  cases (List.range F.2.1.length).all fun j => Sp.rgt (F.1.getD j Zd0) (F.2.1.getD j Zd1) F.2.2.1 <;> rfl
theorem vf_ok {F : FsT} (hs : Sm F) : F_10 F = some (Sp.vf F, ()) := by
  unfold F_10 Sp.vf
  by_cases h1 : (F.1.length : Int) > 64
  · rw [cond_dtt h1, decide_eq_false (by omega)]; rfl
  rw [cond_dff h1, decide_eq_true (p := F.1.length ≤ 64) (by omega), Bool.true_and]
  have hf := find0 (fun m i => Sp.L_10_35_0_0 m F.1 F.1.length i F) (n := F.1.length) (fun j => !Sp.cfg (F.1.getD j Zd0)) (ex := fun j => some (.e0 (j : Int) F)) (e1 := some (.e1 F)) (by omega) (fun m j hj => by
    show Sp.L_10_35_0_0 (m + 1) F.1 F.1.length j F = bif !Sp.cfg (F.1.getD j Zd0) then some (.e0 (j : Int) F) else Sp.L_10_35_0_0 m F.1 F.1.length ((j + 1 : Nat) : Int) F
    rw [Sp.L_10_35_0_0, cond_dtt (by omega), gd_inB (by omega) (by omega), Int.toNat_natCast, (cfg_pv _).1, (cfg_pv _).2, gd_tt, wi64 (by omega) (by omega)]
    push_cast
    rfl) (fun m => by
    show Sp.L_10_35_0_0 (m + 1) F.1 F.1.length F.1.length F = _
    rw [Sp.L_10_35_0_0, cond_dff (by omega)])
  rw [hf]
  cases hk : fnd (fun j => !Sp.cfg (F.1.getD j Zd0)) F.1.length 0 with
  | some k =>
    have : Sp.cfgs F.1 = false := by
      cases hv : Sp.cfgs F.1
      · rfl
      · have := (fnd_all (fun j => Sp.cfg (F.1.getD j Zd0)) F.1.length).2 hv
        rw [this] at hk; cases hk
    rw [this]
    simp only [Sp.B_10_35_0_0]
    rw [cond_dtt (by omega)]
    rfl
  | none =>
    have hc : Sp.cfgs F.1 = true := (fnd_all (fun j => Sp.cfg (F.1.getD j Zd0)) F.1.length).1 hk
    rw [hc]
    simp only [Sp.B_10_35_0_0, Bool.true_and]
    have em : (List.map (fun (y : Ty.den CfgTy) => Prod.fst y) F.1) = (F.1.map fun c => c.1) := rfl
    rw [em]
    cases Sp.dst (F.1.map fun c => c.1)
    · rfl
    simp only [Bool.not_true, cond_f, Bool.true_and]
    by_cases hl : (F.2.1.length : Int) = (F.1.length : Int)
    rotate_left
    · rw [cond_ntt hl, beq_eq_false_iff_ne.2 hl]; rfl
    rw [cond_nff hl, beq_iff_eq.2 hl, Bool.true_and, (wit_pv _ _ _).1, (wit_pv _ _ _).2, gd_tt]
    cases Sp.inr F.2.2.1 0 1073741824
    · rfl
    simp only [Bool.not_true, cond_f, Bool.true_and]
    rw [vJ0 hs hc (by omega)]
    cases F.2.2.2.1
    · cases Sp.rgts F <;> rfl
    · by_cases hy : F.2.2.1 < 1
      · rw [cond_t, cond_dtt hy, decide_eq_false (by omega)]
        rfl
      · rw [cond_t, cond_dff hy, decide_eq_true (p := F.2.2.1 ≥ 1) (by omega)]
        cases Sp.rgts F <;> rfl
theorem vf_pv {F : FsT} (hs : Sm F) : Sp.p_10 F = true ∧ Sp.v_10 F = (Sp.vf F, ()) := pv_10 F (vf_ok hs)
end Go.Ev
namespace Go.Ev
open Go
set_option maxRecDepth 100000
set_option maxHeartbeats 4000000
set_option linter.unusedVariables false
noncomputable section
abbrev Zt9_0 : Type := List (Int × Int × Int × Int × Int × Int × Bool × Int × Unit) × List (Int × Int × Int × Int × Int × List Int × Int × Unit) × Int × Bool × Unit
abbrev Zy9_1 : Ty := (Ty.pair (Ty.slice (Ty.pair (Ty.int IntKind.i64) (Ty.pair (Ty.int IntKind.i64) (Ty.pair (Ty.int IntKind.i64) (Ty.pair (Ty.int IntKind.i64) (Ty.pair (Ty.int IntKind.i64) (Ty.pair (Ty.int IntKind.i64) (Ty.pair Ty.bool (Ty.pair (Ty.int IntKind.i64) Ty.unit))))))))) (Ty.pair (Ty.slice (Ty.pair (Ty.int IntKind.i64) (Ty.pair (Ty.int IntKind.i64) (Ty.pair (Ty.int IntKind.i64) (Ty.pair (Ty.int IntKind.i64) (Ty.pair (Ty.int IntKind.i64) (Ty.pair (Ty.slice (Ty.int IntKind.i64)) (Ty.pair (Ty.int IntKind.i64) Ty.unit)))))))) (Ty.pair (Ty.int IntKind.i64) (Ty.pair Ty.bool Ty.unit))))
abbrev Zy9_2 : Ty := (.pair (.slice (.pair (.int .i64) (.pair (.int .i64) (.pair (.int .i64) (.pair (.int .i64) (.pair (.int .i64) (.pair (.int .i64) (.pair .bool (.pair (.int .i64) .unit))))))))) (.pair (.slice (.pair (.int .i64) (.pair (.int .i64) (.pair (.int .i64) (.pair (.int .i64) (.pair (.int .i64) (.pair (.slice (.int .i64)) (.pair (.int .i64) .unit)))))))) (.pair (.int .i64) (.pair .bool .unit))))
abbrev Zt9_3 : Type := List (Int × Int × Int × Int × Int × List Int × Int × Unit)

noncomputable def sm_9 : Nat → Option Summ := fun f => none
noncomputable def T_9_37_0_0 (p0 : Zt9_3) (p1 : Int) (p2 : Int) (p3 : Zt9_0) : St := St.mk ([CV.pure (Ty.slice (Ty.pair (Ty.int IntKind.i64) (Ty.pair (Ty.int IntKind.i64) (Ty.pair (Ty.int IntKind.i64) (Ty.pair (Ty.int IntKind.i64) (Ty.pair (Ty.int IntKind.i64) (Ty.pair (Ty.slice (Ty.int IntKind.i64)) (Ty.pair (Ty.int IntKind.i64) Ty.unit)))))))) p0, CV.clo (23 : Nat) (CV.pure Ty.unit PUnit.unit), jk, jk, jk, jk, jk, CV.int IntKind.i64 p1, CV.int IntKind.i64 p2] ++ (jl 10)) [Blk.mem (CV.pure Zy9_1 p3)] (1 : Nat)
noncomputable def X_9_37_0_0_0 (p2 : Int) (p3 : Zt9_0) : St := St.mk ([jk, jk, jk, jk, CV.int IntKind.i64 p2] ++ (jl 14)) [Blk.mem (CV.pure Zy9_1 p3)] (1 : Nat)
noncomputable def X_9_37_0_0_1 (p3 : Zt9_0) : St := St.mk (jl 19) [Blk.mem (CV.pure Zy9_1 p3)] (1 : Nat)
inductive Sp.E_9_37_0_0 where
  | e0 (p2 : Int) (p3 : Zt9_0)
  | e1 (p3 : Zt9_0)
noncomputable def Sp.B_9_37_0_0 {R : Type} (r : Option Sp.E_9_37_0_0) (k0 : (Int) → (Zt9_0) → Option R) (k1 : (Zt9_0) → Option R) : Option R := match r with
  | none => none
  | some (.e0 p2 p3) => k0 p2 p3
  | some (.e1 p3) => k1 p3
noncomputable def Sp.L_9_37_0_0 : Nat → (List (Int × Int × Int × Int × Int × List Int × Int × Unit)) → (Int) → (Int) → (List (Int × Int × Int × Int × Int × Int × Bool × Int × Unit) × List (Int × Int × Int × Int × Int × List Int × Int × Unit) × Int × Bool × Unit) → Option Sp.E_9_37_0_0
  | 0, _, _, _, _ => none
  | m + 1, p0, p1, p2, p3 => bif decide (p2 < p1) then gd (inB p2 (List.length p0)) (bif decide ((↑(List.length ((List.getD p0 (Int.toNat p2) Zd1).2.2.2.2.2.1)) : Int) > (20 : Int)) then some (Sp.E_9_37_0_0.e0 p2 p3) else Sp.L_9_37_0_0 m p0 p1 (IntKind.wrap IntKind.i64 (p2 + (1 : Int))) p3) else some (Sp.E_9_37_0_0.e1 p3)
noncomputable def G_9_37_0_0 {R : Type} (p0 : Zt9_3) (p1 : Int) (p2 : Int) (p3 : Zt9_0) (k : Ex → St → Option R) : Option R := Sp.B_9_37_0_0 (Sp.L_9_37_0_0 FU p0 p1 p2 p3) (fun p2 p3 => k Ex.ret (X_9_37_0_0_0 p2 p3)) (fun p3 => k (Ex.exit (0 : Nat)) (X_9_37_0_0_1 p3))
noncomputable def o_9_37_0_0 {R : Type} (G : (Zt9_3) → (Int) → (Int) → (Zt9_0) → (Ex → St → Option R) → Option R) : St → (Ex → St → Option R) → Option R := fun T k => match T.sl.getD 0 .junk, T.sl.getD 1 .junk, T.sl.getD 7 .junk, T.sl.getD 8 .junk, T.hp with
  | CV.pure (Ty.slice (Ty.pair (Ty.int IntKind.i64) (Ty.pair (Ty.int IntKind.i64) (Ty.pair (Ty.int IntKind.i64) (Ty.pair (Ty.int IntKind.i64) (Ty.pair (Ty.int IntKind.i64) (Ty.pair (Ty.slice (Ty.int IntKind.i64)) (Ty.pair (Ty.int IntKind.i64) Ty.unit)))))))) p0, CV.clo (23 : Nat) (CV.pure Ty.unit PUnit.unit), CV.int IntKind.i64 p1, CV.int IntKind.i64 p2, ((Blk.mem (CV.pure (Ty.pair (Ty.slice (Ty.pair (Ty.int IntKind.i64) (Ty.pair (Ty.int IntKind.i64) (Ty.pair (Ty.int IntKind.i64) (Ty.pair (Ty.int IntKind.i64) (Ty.pair (Ty.int IntKind.i64) (Ty.pair (Ty.int IntKind.i64) (Ty.pair Ty.bool (Ty.pair (Ty.int IntKind.i64) Ty.unit))))))))) (Ty.pair (Ty.slice (Ty.pair (Ty.int IntKind.i64) (Ty.pair (Ty.int IntKind.i64) (Ty.pair (Ty.int IntKind.i64) (Ty.pair (Ty.int IntKind.i64) (Ty.pair (Ty.int IntKind.i64) (Ty.pair (Ty.slice (Ty.int IntKind.i64)) (Ty.pair (Ty.int IntKind.i64) Ty.unit)))))))) (Ty.pair (Ty.int IntKind.i64) (Ty.pair Ty.bool Ty.unit)))) p3)) :: []) => gd (shapeOK T 19 [0, 1, 7, 8] (1 : Nat)) (G p0 p1 p2 p3 k)
  | _, _, _, _, _ => none
noncomputable def O_9_37_0 {R : Type} : St → (Ex → St → Option R) → Option R := fun T k => o_9_37_0_0 G_9_37_0_0 T k
noncomputable def g_9_37 {R : Type} : List CV → List Blk → (CV → List Blk → Option R) → Option R := evFnL sm_9 FU (ovr noO (evFn sm_9 fns FU 1)) (ir37_t O_9_37_0) ir37
noncomputable def g_9_22 {R : Type} : List CV → List Blk → (CV → List Blk → Option R) → Option R := evFnL sm_9 FU (ovr (fun f' => bif Nat.beq f' 37 then some (g_9_37) else none) (evFn sm_9 fns FU 2)) .nil ir22
noncomputable def F_9 (a0 : ((List (Int × (Int × (Int × (Int × (Int × (Int × (Bool × (Int × Unit))))))))) × ((List (Int × (Int × (Int × (Int × (Int × ((List Int) × (Int × Unit)))))))) × (Int × (Bool × Unit))))) : Option (Bool × Unit) :=
  bif decide ((↑(List.length (a0.1)) : Int) ≤ (70 : Int)) then bif decide ((↑(List.length (a0.2.1)) : Int) ≤ (70 : Int)) then Sp.B_9_37_0_0 (Sp.L_9_37_0_0 (4611686018427387904 : Nat) (a0.2.1) (↑(List.length (a0.2.1)) : Int) (0 : Int) a0) (fun (y19 : Int) (y20 : List (Int × Int × Int × Int × Int × Int × Bool × Int × Unit) × List (Int × Int × Int × Int × Int × List Int × Int × Unit) × Int × Bool × Unit) => some (!decide (y19 ≥ (0 : Int)), PUnit.unit)) fun (y21 : List (Int × Int × Int × Int × Int × Int × Bool × Int × Unit) × List (Int × Int × Int × Int × Int × List Int × Int × Unit) × Int × Bool × Unit) => some (true, PUnit.unit) else some (false, PUnit.unit) else some (false, PUnit.unit)
noncomputable def Sp.p_9 (a0 : ((List (Int × (Int × (Int × (Int × (Int × (Int × (Bool × (Int × Unit))))))))) × ((List (Int × (Int × (Int × (Int × (Int × ((List Int) × (Int × Unit)))))))) × (Int × (Bool × Unit))))) : Bool := (F_9 a0).isSome
noncomputable def Sp.v_9 (a0 : ((List (Int × (Int × (Int × (Int × (Int × (Int × (Bool × (Int × Unit))))))))) × ((List (Int × (Int × (Int × (Int × (Int × ((List Int) × (Int × Unit)))))))) × (Int × (Bool × Unit))))) : Bool × Unit := (F_9 a0).getD (dfH [.bool])
noncomputable def s_9 : Summ := shN [Zy9_2] [.bool] (fun x => Sp.p_9 x.1) (fun x => Sp.v_9 x.1)
end
end Go.Ev
set_option linter.unusedSimpArgs false
set_option linter.unusedVariables false
namespace Go.Ev
open Go
set_option maxRecDepth 100000
set_option maxHeartbeats 4000000
abbrev SvT := Int × Int × Int × Int × Int × Int × Unit
namespace Sp
noncomputable def sv (s : SvT) : Bool := inr s.1 1 3 && (inr s.2.1 0 65535 && (inr s.2.2.1 0 1 && (inr s.2.2.2.1 0 2 && (inr s.2.2.2.2.1 0 1099521627776 && (inr s.2.2.2.2.2.1 0 1099521627776 && ((s.1 != 1) || ((s.2.1 == 0) && ((s.2.2.1 == 0) && (s.2.2.2.2.2.1 == 0)))))))))
noncomputable def ent (s : SvT) (n : Int) : SvT := if n = 1 then (n, 0, 0, s.2.2.2.1, s.2.2.2.2.1, 0, ()) else (n, 0, 0, s.2.2.2.1, s.2.2.2.2.1, s.2.2.2.2.2.1, ())
noncomputable def tck (s : SvT) (now : Int) : SvT := if sv s = true ∧ inr now 0 1099511627776 = true ∧ ¬ s.1 = 1 ∧ ¬ now < s.2.2.2.2.2.1 then ent s 1 else s
noncomputable def fill : Nat → Int → List Int → List Int
  | 0, _, l => l
  | j + 1, n, l => fill j (Int.fdiv n 256) (l.set j (IntKind.wrap .u8 n))
end Sp
theorem din_pv (x l h : Int) : Sp.p_31 x l h = true ∧ Sp.v_31 x l h = (Sp.inr x l h, ()) := by
  refine pv_31 x l h ?_
  unfold F_31 Sp.inr
  cases decide (x ≥ l) <;> rfl
theorem sv_ok (s : SvT) : F_15 s = some (Sp.sv s, ()) := by
  unfold F_15 Sp.sv
  simp only [din_pv, gd_tt]
  cases Sp.inr s.1 1 3 <;> try rfl
  cases Sp.inr s.2.1 0 65535 <;> try rfl
  cases Sp.inr s.2.2.1 0 1 <;> try rfl
  cases Sp.inr s.2.2.2.1 0 2 <;> try rfl
  cases Sp.inr s.2.2.2.2.1 0 1099521627776 <;> try rfl
  cases Sp.inr s.2.2.2.2.2.1 0 1099521627776 <;> try rfl
  cases s.1 != 1 <;> cases s.2.1 == 0 <;> cases s.2.2.1 == 0 <;> rfl
theorem sv_pv (s : SvT) : Sp.p_15 s = true ∧ Sp.v_15 s = (Sp.sv s, ()) := pv_15 s (sv_ok s)
theorem ent_pv (s : SvT) (n : Int) : Sp.p_32 s n = true ∧ Sp.v_32 s n = (Sp.ent s n, ()) := by
  refine pv_32 s n ?_
  unfold F_32 Sp.ent
  by_cases h : n = 1
  · rw [cond_ett h, if_pos h]
  · rw [cond_eff h, if_neg h]
theorem tck_pv (s : SvT) (now : Int) : Sp.p_13 s now = true ∧ Sp.v_13 s now = (Sp.tck s now, ()) := by
  refine pv_13 s now ?_
  unfold F_13 Sp.tck
  rw [(sv_pv s).1, (sv_pv s).2, gd_tt, (din_pv _ _ _).1, (din_pv _ _ _).2, gd_tt, (ent_pv s 1).1, (ent_pv s 1).2, gd_tt]
  cases h1 : Sp.sv s
  · rw [if_neg (by rintro ⟨h, _⟩; cases h)]; rfl
  cases h2 : Sp.inr now 0 1099511627776
  · rw [if_neg (by rintro ⟨_, h, _⟩; cases h)]; rfl
  simp only [Bool.not_true, cond_f]
  by_cases h3 : s.1 = 1
  · rw [cond_ett h3, if_neg (by rintro ⟨_, _, h, _⟩; exact h h3)]
  rw [cond_eff h3]
  by_cases h4 : now < s.2.2.2.2.2.1
  · rw [cond_dtt h4, if_neg (by rintro ⟨_, _, _, h⟩; exact h h4)]
  · rw [cond_dff h4, if_pos (by simp [h3, h4])]
theorem eqb_pv (a : List Int) (h : a.length ≤ 100000) : Sp.p_18 a a = true ∧ Sp.v_18 a a = (true, ()) := by
  refine pv_18 a a ?_
  unfold F_18
  rw [cond_nff rfl]
  have h1 := run0 (fun m i (_ : Unit) => Sp.L_18_0 m a a a.length i) (n := a.length) (fun _ => ()) (r := some .e1) (by omega) (fun m j hj => by
    show Sp.L_18_0 (m + 1) a a a.length (j : Int) = Sp.L_18_0 m a a a.length ((j + 1 : Nat) : Int)
    rw [Sp.L_18_0, cond_dtt (by omega), gd_inB (by omega) (by omega), gd_inB (by omega) (by omega), cond_nff rfl, wi64 (by omega) (by omega)]
    push_cast
    rfl) (fun m => by
    show Sp.L_18_0 (m + 1) a a a.length a.length = _
    rw [Sp.L_18_0, cond_dff (by omega)])
  have e1 : Sp.L_18_0 4611686018427387904 a a a.length 0 = _ := h1
  rw [e1]
  rfl
end Go.Ev
set_option linter.unusedSimpArgs false
set_option linter.unusedVariables false
namespace Go.Ev
open Go
set_option maxRecDepth 100000
set_option maxHeartbeats 4000000
namespace Sp
noncomputable def smf (F : FsT) : Bool := (fnd (fun j => decide (((F.2.1.getD j Zd1).2.2.2.2.2.1.length : Int) > 20)) F.2.1.length 0).isNone
noncomputable def fw (F : FsT) : Bool := decide ((F.1.length : Int) ≤ 70) && (decide ((F.2.1.length : Int) ≤ 70) && smf F)
end Sp
/-- A valid state of the server. -/
structure Sv (s : SvT) : Prop where
  s0 : 1 ≤ s.1
  s1 : s.1 ≤ 3
  e0 : 0 ≤ s.2.1
  e1 : s.2.1 ≤ 65535
  l0 : 0 ≤ s.2.2.1
  l1 : s.2.2.1 ≤ 1
  t0 : 0 ≤ s.2.2.2.1
  t1 : s.2.2.2.1 ≤ 2
  u0 : 0 ≤ s.2.2.2.2.1
  u1 : s.2.2.2.2.1 ≤ 1099521627776
  d0 : 0 ≤ s.2.2.2.2.2.1
  d1 : s.2.2.2.2.2.1 ≤ 1099521627776
  z : s.1 = 1 → s.2.1 = 0 ∧ s.2.2.1 = 0 ∧ s.2.2.2.2.2.1 = 0
theorem sv_iff {s : SvT} : Sp.sv s = true ↔ Sv s := by
  unfold Sp.sv
  simp only [Bool.and_eq_true, inr_iff, Bool.or_eq_true, bne_iff_ne, ne_eq, beq_iff_eq]
  constructor
  · rintro ⟨a, b, c, d, e, f, g⟩
    refine ⟨a.1, a.2, b.1, b.2, c.1, c.2, d.1, d.2, e.1, e.2, f.1, f.2, fun h => ?_⟩
    rcases g with g | g
    · exact absurd h g
    · exact g
  · intro h
    refine ⟨⟨h.s0, h.s1⟩, ⟨h.e0, h.e1⟩, ⟨h.l0, h.l1⟩, ⟨h.t0, h.t1⟩, ⟨h.u0, h.u1⟩, ⟨h.d0, h.d1⟩, ?_⟩
    by_cases e : s.1 = 1
    · exact Or.inr (h.z e)
    · exact Or.inl e
theorem ent_sv {s : SvT} {n : Int} (h : Sv s) (h0 : 1 ≤ n) (h1 : n ≤ 3) : Sv (Sp.ent s n) := by
  unfold Sp.ent
  split
  · refine ⟨?_, ?_, ?_, ?_, ?_, ?_, h.t0, h.t1, h.u0, h.u1, ?_, ?_, ?_⟩ <;> dsimp only <;> first | omega | (intro _; exact ⟨rfl, rfl, rfl⟩)
  · refine ⟨?_, ?_, ?_, ?_, ?_, ?_, h.t0, h.t1, h.u0, h.u1, h.d0, h.d1, ?_⟩ <;> dsimp only <;> first | omega | (intro e; omega)
theorem tck_now {s : SvT} {now : Int} (h : Sv s) (h0 : 0 ≤ now) (h1 : now ≤ 1099511627776) : Sp.tck s now = if s.1 = 1 ∨ now < s.2.2.2.2.2.1 then s else Sp.ent s 1 := by
  unfold Sp.tck
  by_cases e : s.1 = 1 ∨ now < s.2.2.2.2.2.1
  · rw [if_pos e, if_neg]
    rintro ⟨_, _, h3, h4⟩
    rcases e with e | e
    · exact h3 e
    · exact h4 e
  · rw [if_neg e, if_pos]
    exact ⟨sv_iff.2 h, inr_iff.2 ⟨h0, h1⟩, fun h => e (Or.inl h), fun h => e (Or.inr h)⟩
end Go.Ev
set_option linter.unusedSimpArgs false
set_option linter.unusedVariables false
namespace Go.Ev
open Go
set_option maxRecDepth 100000
set_option maxHeartbeats 4000000
abbrev IbT := Int × Bool × Unit
abbrev VvT := SvT × FsT × Int × Unit
namespace Sp
noncomputable def ded (s : SvT) (now : Int) : SvT := (s.1, s.2.1, s.2.2.1, s.2.2.2.1, s.2.2.2.2.1, (if s.1 = 1 then 0 else IntKind.wrap .i64 (now + 5000000)), s.2.2.2.2.2.2)
noncomputable def ln (b : List Int) : Int := bif b.getD 0 0 == 16 then 2 else bif b.getD 0 0 == 17 then 2 else bif b.getD 0 0 == 62 then 2 else bif b.getD 0 0 == 20 then 4 else bif b.getD 0 0 == 25 then 3 else bif b.getD 0 0 == 34 then 3 else bif b.getD 0 0 == 39 then (bif decide ((b.length : Int) > 1) then (bif b.getD 1 0 == 2 then 4 else 2) else 2) else 0
noncomputable def fnc (b : List Int) : Bool := bif b.getD 0 0 == 16 then (bif decide (b.getD 1 0 ≥ 1) then decide (b.getD 1 0 ≤ 3) else false) else bif b.getD 0 0 == 17 then b.getD 1 0 == 1 else bif b.getD 0 0 == 25 then b.getD 1 0 == 2 else bif b.getD 0 0 == 39 then (bif b.getD 1 0 == 1 then true else b.getD 1 0 == 2) else bif b.getD 0 0 == 62 then (bif b.getD 1 0 == 0 then true else b.getD 1 0 == 128) else true
end Sp
theorem rp_pv (b : List Int) : Sp.p_46 b = true ∧ Sp.v_46 b = (b, 0, ()) := pv_46 b rfl
theorem ln_pv (b : List Int) (h : 0 < b.length) : Sp.p_43 b = true ∧ Sp.v_43 b = (Sp.ln b, ()) := by
  refine pv_43 b ?_
  unfold F_43 Sp.ln
  rw [gd_inB (by omega) (by omega)]
  by_cases h1 : (b.length : Int) > 1
  · rw [gd_inB (by omega) (by omega), decide_eq_true h1]
    cases b.getD 0 0 == 16 <;> cases b.getD 0 0 == 17 <;> cases b.getD 0 0 == 62 <;> cases b.getD 0 0 == 20 <;> cases b.getD 0 0 == 25 <;> cases b.getD 0 0 == 34 <;> cases b.getD 0 0 == 39 <;> cases b.getD 1 0 == 2 <;> rfl
  · rw [decide_eq_false h1]
    cases b.getD 0 0 == 16 <;> cases b.getD 0 0 == 17 <;> cases b.getD 0 0 == 62 <;> cases b.getD 0 0 == 20 <;> cases b.getD 0 0 == 25 <;> cases b.getD 0 0 == 34 <;> cases b.getD 0 0 == 39 <;> rfl
theorem fnc_pv (b : List Int) (h : 1 < b.length) : Sp.p_44 b = true ∧ Sp.v_44 b = (Sp.fnc b, ()) := by
  refine pv_44 b ?_
  unfold F_44 Sp.fnc
  simp only [gd_inB (i := (0 : Int)) (n := b.length) (by omega) (by omega), gd_inB (i := (1 : Int)) (n := b.length) (by omega) (by omega)]
  cases b.getD 0 0 == 16 <;> cases b.getD 0 0 == 17 <;> cases b.getD 0 0 == 25 <;> cases b.getD 0 0 == 39 <;> cases b.getD 0 0 == 62 <;> cases decide (b.getD 1 0 ≥ 1) <;> cases b.getD 1 0 == 1 <;> cases b.getD 1 0 == 0 <;> rfl
section
variable {now : Int} {q1 : SvT} {q2 : IbT} {q3 : List CfT} {q4 : List FaT} {v : VvT} {o b : List Int}
theorem j31 : Sp.J_14_3_1 now o q1 q2 q3 q4 v = some (.e0 o (Sp.ded v.1 now, v.2)) := by
  unfold Sp.J_14_3_1 Sp.ded
  by_cases h : v.1.1 = 1
  · rw [cond_nff h, if_pos h]; rfl
  · rw [cond_ntt h, if_neg h]; rfl
theorem j21 : Sp.J_14_2_1 b now o 0 q1 q2 q3 q4 v = some (.e1 o (Sp.ded v.1 now, v.2)) := by
  unfold Sp.J_14_2_1
  rw [cond_nff rfl, j31]; rfl
theorem j330 {F : FsT} {s : SvT} {n : Int} (h : (b.length : Int) = n) (h1 : 1 < b.length) (hf : Sp.fnc b = true) : Sp.J_14_33_0_0 b n false s F q1 q2 q3 q4 v = some (.e3 b n s F q1 q2 q3 q4 v) := by
  unfold Sp.J_14_33_0_0
  rw [cond_f, cond_nff h, (fnc_pv b h1).1, (fnc_pv b h1).2, gd_tt, hf]; rfl
end
/-- What a request is given. -/
structure Rq (s : SvT) (F : FsT) (now : Int) : Prop where
  s : Sv s
  f : Sp.p_10 F = true
  g : Sp.v_10 F = (true, ())
  n0 : 0 ≤ now
  n1 : now ≤ 1099511627776
theorem rq0 {s : SvT} {F : FsT} {now : Int} {b : List Int} (h : Rq s F now) (hb0 : 1 ≤ b.length) (hb1 : b.length ≤ 1023) :
    F_14 s F b now = Sp.B_14_1 (Sp.J_14_1 b now s F (0, 0, 0, 0, 0, 0, ()) (0, false, ()) [] []) (fun v o => some (v.1, v.2.1, o, ())) (fun o v => some (v.1, v.2.1, o, ())) := by
  unfold F_14
  rw [(sv_pv s).1, (sv_pv s).2, gd_tt, sv_iff.2 h.s, Bool.not_true, cond_f, h.f, h.g, gd_tt, Bool.not_true, cond_f, (din_pv now _ _).1, (din_pv now _ _).2, gd_tt, inr_iff.2 ⟨h.n0, h.n1⟩, Bool.not_true, cond_f,
    (din_pv _ 1 1023).1, (din_pv _ 1 1023).2, gd_tt, inr_iff.2 ⟨by omega, by omega⟩, Bool.not_true]
  rfl
end Go.Ev
set_option linter.unusedSimpArgs false
set_option linter.unusedVariables false
namespace Go.Ev
open Go
set_option maxRecDepth 100000
set_option maxHeartbeats 4000000
theorem tck_v (s : SvT) (now : Int) : (Sp.v_13 s now).1 = Sp.tck s now := by rw [(tck_pv s now).2]
theorem ln_v (b : List Int) (h : 0 < b.length) : (Sp.v_43 b).1 = Sp.ln b := by rw [(ln_pv b h).2]
section
variable {s : SvT} {F : FsT} {now x y : Int} {q1 : SvT} {q2 : IbT} {q3 : List CfT} {q4 : List FaT} {v : VvT}
theorem s_tp0 : Sp.J_14_33_4_0 [62, 0] s F q1 q2 q3 q4 v = some (.e1 s F q1 q2 q3 q4 v) := by
  unfold Sp.J_14_33_4_0
  rw [show inB (1 : Int) (List.length ([62, 0] : List Int)) = true from rfl, gd_tt, show (List.getD ([62, 0] : List Int) (1 : Nat) (0 : Int) == (128 : Int)) = false from rfl, cond_f, (rp_pv _).1, gd_tt]
theorem s_tp  : Sp.J_14_33_1_0 [62, 0] s F q1 q2 q3 q4 v = some (.e19 s F q1 q2 q3 q4 v) := by
  unfold Sp.J_14_33_1_0
  rw [show inB (0 : Int) (List.length ([62, 0] : List Int)) = true from rfl, gd_tt, show (List.getD ([62, 0] : List Int) (0 : Nat) (0 : Int) == (16 : Int)) = false from rfl, cond_f, show (List.getD ([62, 0] : List Int) (0 : Nat) (0 : Int) == (17 : Int)) = false from rfl, cond_f, show (List.getD ([62, 0] : List Int) (0 : Nat) (0 : Int) == (20 : Int)) = false from rfl, cond_f, show (List.getD ([62, 0] : List Int) (0 : Nat) (0 : Int) == (25 : Int)) = false from rfl, cond_f, show (List.getD ([62, 0] : List Int) (0 : Nat) (0 : Int) == (34 : Int)) = false from rfl, cond_f, show (List.getD ([62, 0] : List Int) (0 : Nat) (0 : Int) == (39 : Int)) = false from rfl, cond_f, s_tp0, Sp.B_14_33_4_0]
theorem rq_tp (h : Rq s F now)  : F_14 s F [62, 0] now = some (Sp.ded (Sp.tck s now) now, F, [126, 0], ()) := by
  rw [rq0 h (by simp) (by simp)]
  unfold Sp.J_14_1
  rw [(tck_pv s now).1, gd_tt, (ln_pv [62, 0] (by simp)).1, gd_tt, ln_v [62, 0] (by simp), show Sp.ln [62, 0] = 2 from rfl, show ((2 : Int) == (0 : Int)) = false from rfl, cond_f, show inB (0 : Int) (List.length ([62, 0] : List Int)) = true from rfl, gd_tt, show (List.getD ([62, 0] : List Int) (0 : Nat) (0 : Int) == (20 : Int)) = false from rfl, cond_f, gd_tt, show (List.getD ([62, 0] : List Int) (0 : Nat) (0 : Int) == (39 : Int)) = false from rfl, cond_f]
  rw [j330 (b := [62, 0]) (n := 2) rfl (by simp) rfl, Sp.B_14_33_0_0]
  rw [s_tp, Sp.B_14_33_1_0]
  rw [(rp_pv _).2, j21, tck_v]
  rfl
theorem s_en2 : Sp.J_14_45_0_0 2 s F q1 q2 q3 q4 v = some (.e0 2 s F q1 q2 q3 q4 v) := by
  unfold Sp.J_14_45_0_0
  rw [(ent_pv _ _).1, gd_tt, (rp_pv _).1, gd_tt]
theorem s_se2 (h1 : ¬ v.1.1 = 1) : Sp.J_14_33_1_0 [16, 2] s F q1 q2 q3 q4 v = some (.e1 2 s F q1 q2 q3 q4 v) := by
  unfold Sp.J_14_33_1_0
  rw [show inB (0 : Int) (List.length ([16, 2] : List Int)) = true from rfl, gd_tt, show (List.getD ([16, 2] : List Int) (0 : Nat) (0 : Int) == (16 : Int)) = true from rfl, cond_t, show inB (1 : Int) (List.length ([16, 2] : List Int)) = true from rfl, gd_tt, show IntKind.wrap .i64 (List.getD ([16, 2] : List Int) (1 : Nat) (0 : Int)) = 2 from rfl, show ((2 : Int) == (2 : Int)) = true from rfl, cond_t, cond_eff h1, s_en2, Sp.B_14_45_0_0]
theorem rq_se2 (h : Rq s F now) (h1 : ¬ (Sp.tck s now).1 = 1) : F_14 s F [16, 2] now = some (Sp.ded (Sp.ent (Sp.tck s now) 2) now, F, [80, 2], ()) := by
  rw [rq0 h (by simp) (by simp)]
  unfold Sp.J_14_1
  rw [(tck_pv s now).1, gd_tt, (ln_pv [16, 2] (by simp)).1, gd_tt, ln_v [16, 2] (by simp), show Sp.ln [16, 2] = 2 from rfl, show ((2 : Int) == (0 : Int)) = false from rfl, cond_f, show inB (0 : Int) (List.length ([16, 2] : List Int)) = true from rfl, gd_tt, show (List.getD ([16, 2] : List Int) (0 : Nat) (0 : Int) == (20 : Int)) = false from rfl, cond_f, gd_tt, show (List.getD ([16, 2] : List Int) (0 : Nat) (0 : Int) == (39 : Int)) = false from rfl, cond_f]
  rw [j330 (b := [16, 2]) (n := 2) rfl (by simp) rfl, Sp.B_14_33_0_0]
  rw [s_se2 (v := ((Sp.v_13 s now).1, F, now, ())) (by rw [tck_v]; exact h1), Sp.B_14_33_1_0]
  rw [(rp_pv _).2, (ent_pv _ _).2, j21, tck_v]
  rfl
theorem s_en3 : Sp.J_14_45_0_0 3 s F q1 q2 q3 q4 v = some (.e0 3 s F q1 q2 q3 q4 v) := by
  unfold Sp.J_14_45_0_0
  rw [(ent_pv _ _).1, gd_tt, (rp_pv _).1, gd_tt]
theorem s_se3  : Sp.J_14_33_1_0 [16, 3] s F q1 q2 q3 q4 v = some (.e1 3 s F q1 q2 q3 q4 v) := by
  unfold Sp.J_14_33_1_0
  rw [show inB (0 : Int) (List.length ([16, 3] : List Int)) = true from rfl, gd_tt, show (List.getD ([16, 3] : List Int) (0 : Nat) (0 : Int) == (16 : Int)) = true from rfl, cond_t, show inB (1 : Int) (List.length ([16, 3] : List Int)) = true from rfl, gd_tt, show IntKind.wrap .i64 (List.getD ([16, 3] : List Int) (1 : Nat) (0 : Int)) = 3 from rfl, show ((3 : Int) == (2 : Int)) = false from rfl, cond_f, s_en3, Sp.B_14_45_0_0]
theorem rq_se3 (h : Rq s F now)  : F_14 s F [16, 3] now = some (Sp.ded (Sp.ent (Sp.tck s now) 3) now, F, [80, 3], ()) := by
  rw [rq0 h (by simp) (by simp)]
  unfold Sp.J_14_1
  rw [(tck_pv s now).1, gd_tt, (ln_pv [16, 3] (by simp)).1, gd_tt, ln_v [16, 3] (by simp), show Sp.ln [16, 3] = 2 from rfl, show ((2 : Int) == (0 : Int)) = false from rfl, cond_f, show inB (0 : Int) (List.length ([16, 3] : List Int)) = true from rfl, gd_tt, show (List.getD ([16, 3] : List Int) (0 : Nat) (0 : Int) == (20 : Int)) = false from rfl, cond_f, gd_tt, show (List.getD ([16, 3] : List Int) (0 : Nat) (0 : Int) == (39 : Int)) = false from rfl, cond_f]
  rw [j330 (b := [16, 3]) (n := 2) rfl (by simp) rfl, Sp.B_14_33_0_0]
  rw [s_se3, Sp.B_14_33_1_0]
  rw [(rp_pv _).2, (ent_pv _ _).2, j21, tck_v]
  rfl
end
end Go.Ev
set_option linter.unusedSimpArgs false
set_option linter.unusedVariables false
namespace Go.Ev
open Go
set_option maxRecDepth 100000
set_option maxHeartbeats 4000000
theorem aw : F_8 = some (true, ()) := by kernel_rfl
theorem aw_pv : Sp.p_8 = true ∧ Sp.v_8 = (true, ()) := pv_8 aw
end Go.Ev
set_option linter.unusedSimpArgs false
set_option linter.unusedVariables false
namespace Go.Ev
open Go
set_option maxRecDepth 100000
set_option maxHeartbeats 4000000
abbrev Fz : FsT := ([], [], (0 : Int), false, ())
theorem fz_sm : Sm Fz := ⟨by simp, fun j hj => by simp at hj⟩
theorem fz_v : Sp.p_10 Fz = true ∧ Sp.v_10 Fz = (true, ()) := by
  refine ⟨(vf_pv fz_sm).1, ?_⟩
  rw [(vf_pv fz_sm).2]
  exact congrArg (fun x => (x, ())) (show Sp.vf Fz = true by kernel_rfl)
theorem rqz {s : SvT} {now : Int} (h : Sv s) (h0 : 0 ≤ now) (h1 : now ≤ 1099511627776) : Rq s Fz now := ⟨h, fz_v.1, fz_v.2, h0, h1⟩
theorem new_pv : Sp.p_12 = true ∧ Sp.v_12 = ((1, 0, 0, 0, 0, 0, ()), ()) := pv_12 rfl
/-- In session n since the request at time t. -/
structure Es (n t : Int) (s : SvT) : Prop where
  v : Sv s
  n2 : 2 ≤ n
  e : s.1 = n
  t0 : 0 ≤ t
  t1 : t ≤ 1000000000
  d : s.2.2.2.2.2.1 = t + 5000000
theorem ded_sv {s : SvT} {now : Int} (h : Sv s) (h0 : 0 ≤ now) (h1 : now ≤ 1099511627776 - 5000000) : Sv (Sp.ded s now) := by
  unfold Sp.ded
  refine ⟨h.s0, h.s1, h.e0, h.e1, h.l0, h.l1, h.t0, h.t1, h.u0, h.u1, ?_, ?_, ?_⟩ <;> dsimp only
  · split
    · omega
    · rw [wi64 (by omega) (by omega)]; omega
  · split
    · omega
    · rw [wi64 (by omega) (by omega)]; omega
  · intro e
    rw [if_pos e]
    exact ⟨(h.z e).1, (h.z e).2.1, rfl⟩
theorem ded_es {s : SvT} {n now : Int} (h : Sv s) (hn : 2 ≤ n) (e : s.1 = n) (h0 : 0 ≤ now) (h1 : now ≤ 1000000000) : Es n now (Sp.ded s now) := by
  refine ⟨ded_sv h h0 (by omega), hn, e, h0, h1, ?_⟩
  unfold Sp.ded
  dsimp only
  rw [if_neg (by omega), wi64 (by omega) (by omega)]
theorem es_lo {n t u : Int} {s : SvT} (h : Es n t s) (h0 : 0 ≤ u) (h1 : u < t + 5000000) : Sp.tck s u = s := by
  have := h.t1; have := h.d
  rw [tck_now h.v h0 (by omega), if_pos (by right; omega)]
theorem es_hi {n t u : Int} {s : SvT} (h : Es n t s) (h0 : t + 5000000 ≤ u) (h1 : u ≤ 1099511627776) : Sp.tck s u = Sp.ent s 1 := by
  have := h.t0; have := h.d; have := h.n2; have := h.e
  rw [tck_now h.v (by omega) h1, if_neg (by omega)]
theorem es_tp {n t u : Int} {s : SvT} (h : Es n t s) (h0 : 0 ≤ u) (h1 : u < t + 5000000) (h2 : u ≤ 1000000000) : (Sp.p_14 s Fz [62, 0] u = true ∧ Sp.v_14 s Fz [62, 0] u = (Sp.ded s u, Fz, [126, 0], ())) ∧ Es n u (Sp.ded s u) := by
  have e := es_lo h h0 h1
  have hq := pv_14 _ _ _ _ (rq_tp (rqz h.v h0 (by omega)))
  rw [e] at hq
  exact ⟨hq, ded_es h.v h.n2 h.e h0 h2⟩
namespace Sp
noncomputable def dw (l : List Int) (j : Int) : Int := Int.tmod (IntKind.wrap .i64 (List.getD l (Int.toNat j) 0)) 6000000
end Sp
theorem dw_b {l : List Int} (w : ∀ y ∈ l, 0 ≤ y ∧ y < 4294967296) {j : Int} : 0 ≤ Sp.dw l j ∧ Sp.dw l j < 6000000 := by
  unfold Sp.dw
  have hb : 0 ≤ List.getD l (Int.toNat j) 0 ∧ List.getD l (Int.toNat j) 0 < 4294967296 := by
    rw [List.getD_eq_getElem?_getD]
    cases h : l[Int.toNat j]? with
    | none => simp
    | some x => exact w x (List.mem_of_getElem? h)
  rw [wi64 (by omega) (by omega)]
  constructor
  · exact Int.tmod_nonneg _ hb.1
  · exact Int.tmod_lt_of_pos _ (by decide)
theorem svt_beq' (s : SvT) : Ty.beq (Ty.pair (.int .i64) (.pair (.int .i64) (.pair (.int .i64) (.pair (.int .i64) (.pair (.int .i64) (.pair (.int .i64) .unit)))))) s s = true := by simp [Ty.beq]
/-- How the loop ends. -/
noncomputable def okR (n : Int) (l : List Int) (r : Option Sp.E_5_1_1) : Prop := (∃ t j s, r = some (.e1 t l j s) ∧ Es n t s ∧ 5000000 ≤ Sp.dw l j) ∨ (∃ t s, r = some (.e2 n t s) ∧ Es n t s)
theorem en_loop {n : Int} {l : List Int} (w : ∀ y ∈ l, 0 ≤ y ∧ y < 4294967296) (hl : l.length ≤ 40) : ∀ (d m j : Nat) (t : Int) (s : SvT), j + d = l.length → d < m → Es n t s → t ≤ j * 6000000 →
    okR n l (Sp.L_5_1_1 m n t l l.length (j : Int) (0, false, ()) [] [] s) := by
  intro d
  induction d with
  | zero =>
    intro m j t s hj hm hs ht
    obtain ⟨m, rfl⟩ : ∃ k, m = k + 1 := ⟨m - 1, by omega⟩
    right
    refine ⟨t, s, ?_, hs⟩
    rw [Sp.L_5_1_1, cond_dff (by omega)]
  | succ d ih =>
    intro m j t s hj hm hs ht
    obtain ⟨m, rfl⟩ : ∃ k, m = k + 1 := ⟨m - 1, by omega⟩
    have hb := dw_b w (j := (j : Int))
    have := hs.t0; have := hs.t1
    rw [Sp.L_5_1_1, cond_dtt (by omega), gd_inB (by omega) (by omega)]
    change okR n l (gd (Sp.p_13 s (IntKind.wrap .i64 (t + Sp.dw l j))) (bif decide (Sp.dw l j < 5000000) then bif !Ty.beq (Ty.pair (.int .i64) (.pair (.int .i64) (.pair (.int .i64) (.pair (.int .i64) (.pair (.int .i64) (.pair (.int .i64) .unit)))))) (Prod.fst (Sp.v_13 s (IntKind.wrap .i64 (t + Sp.dw l j)))) s then some (.e0) else bif Prod.fst s != n then some (.e0) else gd (Sp.p_14 s Fz [62, 0] (IntKind.wrap .i64 (t + Sp.dw l j))) (gd (Sp.p_18 (Prod.fst (Prod.snd (Prod.snd (Sp.v_14 s Fz [62, 0] (IntKind.wrap .i64 (t + Sp.dw l j)))))) [126, 0]) (bif !Prod.fst (Sp.v_18 (Prod.fst (Prod.snd (Prod.snd (Sp.v_14 s Fz [62, 0] (IntKind.wrap .i64 (t + Sp.dw l j)))))) [126, 0]) then some .e0 else Sp.L_5_1_1 m n (IntKind.wrap .i64 (t + Sp.dw l j)) l l.length (IntKind.wrap .i64 ((j : Int) + 1)) (0, false, ()) [] [] (Prod.fst (Sp.v_14 s Fz [62, 0] (IntKind.wrap .i64 (t + Sp.dw l j)))))) else bif Prod.fst (Prod.fst (Sp.v_13 s (IntKind.wrap .i64 (t + Sp.dw l j)))) == (1 : Int) then bif Prod.fst (Prod.snd (Prod.snd (Prod.fst (Sp.v_13 s (IntKind.wrap .i64 (t + Sp.dw l j)))))) == (0 : Int) then some (.e1 t l j s) else some (.e0) else some (.e0)))
    rw [wi64 (n := t + Sp.dw l j) (by omega) (by omega), (tck_pv s _).1, (tck_pv s _).2, gd_tt]
    by_cases hd : Sp.dw l j < 5000000
    · rw [cond_dtt hd, es_lo hs (by omega) (by omega), svt_beq' s, Bool.not_true, cond_f, cond_nff hs.e]
      obtain ⟨hq, hs'⟩ := es_tp (u := t + Sp.dw l j) hs (by omega) (by omega) (by omega)
      rw [hq.1, hq.2, gd_tt, (eqb_pv [126, 0] (by simp)).1, (eqb_pv [126, 0] (by simp)).2, gd_tt, Bool.not_true, cond_f, wi64 (by omega) (by omega)]
      exact ih m (j + 1) _ _ (by omega) (by omega) hs' (by push_cast; omega)
    · rw [cond_dff hd, es_hi hs (by omega) (by omega)]
      left
      exact ⟨t, j, s, rfl, hs, by omega⟩
noncomputable def okB {R : Type} (n : Int) (l : List Int) (k1 : Int → List Int → Int → SvT → Option R) (k2 : Int → Int → SvT → Option R) (r : Option R) : Prop := (∃ t j s, r = k1 t l j s ∧ Es n t s ∧ 5000000 ≤ Sp.dw l j) ∨ (∃ t s, r = k2 n t s ∧ Es n t s)
theorem en_loop0 {n : Int} {l : List Int} (w : ∀ y ∈ l, 0 ≤ y ∧ y < 4294967296) (hl : l.length ≤ 40) {s : SvT} (hs : Es n 0 s) {R : Type} (k0 : Option R) (k1 : Int → List Int → Int → SvT → Option R) (k2 : Int → Int → SvT → Option R) :
    okB n l k1 k2 (Sp.B_5_1 (Sp.L_5_1 4611686018427387904 n 0 l l.length 0 (0, false, ()) [] [] s) k0 k1 k2 k0 k1 k2) := by
  have ht := hs.t0
  rcases Nat.eq_zero_or_pos l.length with h0 | h0
  · show okB n l k1 k2 (Sp.B_5_1 (Sp.L_5_1 (4611686018427387903 + 1) n 0 l l.length 0 (0, false, ()) [] [] s) k0 k1 k2 k0 k1 k2)
    rw [Sp.L_5_1, cond_dff (by omega)]
    exact .inr ⟨_, _, rfl, hs⟩
  have hb := dw_b w (j := 0)
  show okB n l k1 k2 (Sp.B_5_1 (Sp.L_5_1 (4611686018427387903 + 1) n 0 l l.length 0 (0, false, ()) [] [] s) k0 k1 k2 k0 k1 k2)
  rw [Sp.L_5_1, cond_dtt (by omega), gd_inB (by omega) (by omega)]
  change okB n l k1 k2 (Sp.B_5_1 (gd (Sp.p_13 s (IntKind.wrap .i64 (0 + Sp.dw l 0))) (bif decide (Sp.dw l 0 < 5000000) then bif !Ty.beq (Ty.pair (.int .i64) (.pair (.int .i64) (.pair (.int .i64) (.pair (.int .i64) (.pair (.int .i64) (.pair (.int .i64) .unit)))))) (Prod.fst (Sp.v_13 s (IntKind.wrap .i64 (0 + Sp.dw l 0)))) s then some (.e0) else bif Prod.fst s != n then some (.e0) else gd (Sp.p_14 s Fz [62, 0] (IntKind.wrap .i64 (0 + Sp.dw l 0))) (gd (Sp.p_18 (Prod.fst (Prod.snd (Prod.snd (Sp.v_14 s Fz [62, 0] (IntKind.wrap .i64 (0 + Sp.dw l 0)))))) [126, 0]) (bif !Prod.fst (Sp.v_18 (Prod.fst (Prod.snd (Prod.snd (Sp.v_14 s Fz [62, 0] (IntKind.wrap .i64 (0 + Sp.dw l 0)))))) [126, 0]) then some .e0 else Sp.B_5_1_1 (Sp.L_5_1_1 4611686018427387903 n (IntKind.wrap .i64 (0 + Sp.dw l 0)) l l.length (IntKind.wrap .i64 ((0 : Int) + 1)) (0, false, ()) [] [] (Prod.fst (Sp.v_14 s Fz [62, 0] (IntKind.wrap .i64 (0 + Sp.dw l 0))))) (some .e3) (fun a b c d => some (.e4 a b c d)) (fun a b c => some (.e5 a b c)))) else bif Prod.fst (Prod.fst (Sp.v_13 s (IntKind.wrap .i64 (0 + Sp.dw l 0)))) == (1 : Int) then bif Prod.fst (Prod.snd (Prod.snd (Prod.fst (Sp.v_13 s (IntKind.wrap .i64 (0 + Sp.dw l 0)))))) == (0 : Int) then some (.e1 0 l 0 s) else some (.e0) else some (.e0))) k0 k1 k2 k0 k1 k2)
  rw [wi64 (n := 0 + Sp.dw l 0) (by omega) (by omega), (tck_pv s _).1, (tck_pv s _).2, gd_tt]
  by_cases hd : Sp.dw l 0 < 5000000
  · rw [cond_dtt hd, es_lo hs (by omega) (by omega), svt_beq' s, Bool.not_true, cond_f, cond_nff hs.e]
    obtain ⟨hq, hs'⟩ := es_tp (u := 0 + Sp.dw l 0) hs (by omega) (by omega) (by omega)
    rw [hq.1, hq.2, gd_tt, (eqb_pv [126, 0] (by simp)).1, (eqb_pv [126, 0] (by simp)).2, gd_tt, Bool.not_true, cond_f, wi64 (by omega) (by omega)]
    rcases en_loop w hl (l.length - 1) 4611686018427387903 1 _ _ (by omega) (by omega) hs' (by omega) with ⟨t, j, s', e, hs2, h3⟩ | ⟨t, s', e, hs2⟩
    · have e' : Sp.L_5_1_1 4611686018427387903 n (0 + Sp.dw l 0) l l.length (0 + 1) (0, false, ()) [] [] (Prod.fst (Sp.ded s (0 + Sp.dw l 0), Fz, ([126, 0] : List Int), ())) = _ := e
      rw [e']
      exact .inl ⟨_, _, _, rfl, hs2, h3⟩
    · have e' : Sp.L_5_1_1 4611686018427387903 n (0 + Sp.dw l 0) l l.length (0 + 1) (0, false, ()) [] [] (Prod.fst (Sp.ded s (0 + Sp.dw l 0), Fz, ([126, 0] : List Int), ())) = _ := e
      rw [e']
      exact .inr ⟨_, _, rfl, hs2⟩
  · rw [cond_dff hd, es_hi hs (by omega) (by omega)]
    exact .inl ⟨_, _, _, rfl, hs, by omega⟩
theorem en_all {n : Int} {l : List Int} (w : ∀ y ∈ l, 0 ≤ y ∧ y < 4294967296) (hl : l.length ≤ 40) {s : SvT} (hs : Es n 0 s) :
    Sp.B_5_0 (Sp.J_5_0 l n (0, false, ()) [] [] s) (some false) (fun t l j s => some (Prod.fst (Prod.snd (Prod.fst (Sp.v_13 s (IntKind.wrap .i64 (t + Int.tmod (IntKind.wrap .i64 (List.getD l (Int.toNat j) 0)) 6000000))))) == (0 : Int))) (fun t s => some (Prod.fst (Prod.fst (Sp.v_13 s (IntKind.wrap .i64 (t + 5000000)))) == (1 : Int))) = some true := by
  unfold Sp.J_5_0
  have h := en_loop0 w hl hs (some Sp.E_5_0.e0) (fun t l j s => some (.e1 t l j s)) (fun n t s => bif Prod.fst s == n then gd (Sp.p_13 s (IntKind.wrap .i64 (t + 5000000))) (some (.e2 t s)) else some .e0)
  have key : ∀ r, okB n l (fun t l j s => some (Sp.E_5_0.e1 t l j s)) (fun n t s => bif Prod.fst s == n then gd (Sp.p_13 s (IntKind.wrap .i64 (t + 5000000))) (some (.e2 t s)) else some .e0) r → Sp.B_5_0 r (some false) (fun t l j s => some (Prod.fst (Prod.snd (Prod.fst (Sp.v_13 s (IntKind.wrap .i64 (t + Int.tmod (IntKind.wrap .i64 (List.getD l (Int.toNat j) 0)) 6000000))))) == (0 : Int))) (fun t s => some (Prod.fst (Prod.fst (Sp.v_13 s (IntKind.wrap .i64 (t + 5000000)))) == (1 : Int))) = some true := by
    rintro r (⟨t, j, s', rfl, hs, hd⟩ | ⟨t, s', rfl, hs⟩)
    · have hb := dw_b w (j := j)
      have := hs.t0; have := hs.t1
      show some (Prod.fst (Prod.snd (Prod.fst (Sp.v_13 s' (IntKind.wrap .i64 (t + Sp.dw l j))))) == (0 : Int)) = some true
      rw [wi64 (by omega) (by omega), (tck_pv s' _).2, es_hi hs (by omega) (by omega)]
      rfl
    · have := hs.t0; have := hs.t1
      dsimp only
      rw [cond_ett hs.e, (tck_pv s' _).1, gd_tt]
      show some (Prod.fst (Prod.fst (Sp.v_13 s' (IntKind.wrap .i64 (t + 5000000)))) == (1 : Int)) = some true
      rw [wi64 (by omega) (by omega), (tck_pv s' _).2, es_hi hs (by omega) (by omega)]
      rfl
  exact key _ h
theorem z_st : Sp.tck (1, 0, 0, 0, 0, 0, ()) 0 = (1, 0, 0, 0, 0, 0, ()) := by decide
theorem plain_5 (a0 : Int) (l : List Int) (_ : wfD (.int .u8) a0) (w : wfD (.slice (.int .u32)) l) : F_5 a0 l = some true := by
  have w' : ∀ y ∈ l, 0 ≤ y ∧ y < 4294967296 := fun y hy => by
    have := w y hy
    simp [wfD, Lit.wf, IntKind.min, IntKind.max, IntKind.signed, IntKind.bits] at this
    omega
  unfold F_5
  rw [aw_pv.1, aw_pv.2, gd_tt, Bool.not_true, cond_f]
  by_cases hl : (l.length : Int) > 40
  · rw [cond_dtt hl]
  rw [cond_dff hl, new_pv.1, new_pv.2, gd_tt]
  have v1 : Sv (1, 0, 0, 0, 0, 0, ()) := sv_iff.1 (by decide)
  have q1 := pv_14 _ _ _ _ (rq_se3 (rqz v1 (now := 0) (by decide) (by decide)))
  rw [z_st] at q1
  have s2 := ded_es (ent_sv v1 (n := 3) (by decide) (by decide)) (n := 3) (now := 0) (by decide) rfl (by decide) (by decide)
  rw [q1.1, q1.2, gd_tt]
  generalize Sp.ded (Sp.ent (1, 0, 0, 0, 0, 0, ()) 3) 0 = s at s2 ⊢
  by_cases hm : Int.tmod a0 2 = 1
  · have q2 := pv_14 _ _ _ _ (rq_se2 (rqz s2.v (now := 0) (by decide) (by decide)) (by rw [es_lo s2 (by decide) (by decide), s2.e]; decide))
    rw [es_lo s2 (by decide) (by decide)] at q2
    rw [cond_ett hm, q2.1, q2.2, gd_tt]
    have e2 : (Sp.ent s 2).1 = 2 := by unfold Sp.ent; rw [if_neg (by decide)]
    exact en_all w' (by omega) (ded_es (ent_sv s2.v (n := 2) (by decide) (by decide)) (by decide) e2 (by decide) (by decide))
  · rw [cond_eff hm]
    exact en_all w' (by omega) s2
end Go.Ev
