/- Helpers: functions of the program as Lean functions, and what they compute. No condition. -/
import Derived.Test.YthepgngekfoheaaE7P2
import Derived.Test.YthepgngekfoheaaG7P0
import Derived.Test.YthepgngekfoheaaE7P3
import Derived.Test.YthepgngekfoheaaG7P2
set_option maxRecDepth 10000
set_option linter.unusedVariables false
set_option linter.unusedSimpArgs false
namespace Go.Ev
open Go
set_option maxRecDepth 100000
set_option maxHeartbeats 4000000
set_option linter.unusedVariables false
noncomputable section

noncomputable def sm_25 : Nat → Option Summ := fun f => bif Nat.beq f 38 then some s_38 else none


noncomputable def F_25 (a0 : (Int × (Int × (Int × (Int × (Int × (Int × (Bool × (Int × Unit))))))))) : Option (Bool × Unit) :=
  gd (Sp.p_38 a0) (some (!(Sp.v_38 a0).1, PUnit.unit))
noncomputable def Sp.p_25 (a0 : (Int × (Int × (Int × (Int × (Int × (Int × (Bool × (Int × Unit))))))))) : Bool := (F_25 a0).isSome
noncomputable def Sp.v_25 (a0 : (Int × (Int × (Int × (Int × (Int × (Int × (Bool × (Int × Unit))))))))) : Bool × Unit := (F_25 a0).getD (dfH [.bool])
noncomputable def s_25 : Summ := shN [(.pair (.int .i64) (.pair (.int .i64) (.pair (.int .i64) (.pair (.int .i64) (.pair (.int .i64) (.pair (.int .i64) (.pair .bool (.pair (.int .i64) .unit))))))))] [.bool] (fun x => Sp.p_25 x.1) (fun x => Sp.v_25 x.1)
end
end Go.Ev
set_option linter.unusedSimpArgs false
set_option linter.unusedVariables false
namespace Go.Ev
open Go
set_option maxRecDepth 100000
set_option maxHeartbeats 4000000
abbrev CfT := Int × Int × Int × Int × Int × Int × Bool × Int × Unit
abbrev FaT := Int × Int × Int × Int × Int × List Int × Int × Unit
abbrev FsT := List CfT × List FaT × Int × Bool × Unit
namespace Sp
noncomputable def inr (x l h : Int) : Bool := decide (x ≥ l) && decide (x ≤ h)
noncomputable def cfg (c : CfT) : Bool := inr c.1 1 16777215 && (inr c.2.1 1 100 && (inr c.2.2.1 1 100 && (inr c.2.2.2.1 1 100 && (inr c.2.2.2.2.1 c.2.2.2.1 255 && (inr c.2.2.2.2.2.1 0 255 && inr c.2.2.2.2.2.2.2.1 0 8)))))
noncomputable def val (x : Int) : Bool := inr x (-1099511627776) 1099511627776
noncomputable def vals (l : List Int) : Bool := (List.range l.length).all fun j => val (l.getD j 0)
/-- A bit of a status. -/
noncomputable def bt (f : FaT) (k : Int) : Bool := andI .i64 f.1 k == k
noncomputable def kno (f : FaT) : Bool := decide (f.2.2.2.2.1 ≥ 1) && (decide (f.2.2.1 ≥ 1) && decide (f.2.2.2.2.2.2.1 ≥ 1))
noncomputable def unk (f : FaT) : Bool := (f.2.2.1 == 0) && ((f.2.2.2.1 == 0) && ((f.2.2.2.2.1 == 0) && (f.2.2.2.2.2.2.1 == 0)))
noncomputable def q2 (f : FaT) : Bool := !(bt f 2 && (f.2.2.2.1 != 0))
noncomputable def q1 (c : CfT) (f : FaT) : Bool := (bt f 4 == (f.2.2.1 == 2)) && (!bt f 16 || (bt f 4 && c.2.2.2.2.2.2.1))
noncomputable def q0 (cyc : Int) (f : FaT) : Bool := !bt f 1 || ((bt f 2 && bt f 8) && (f.2.2.2.2.2.2.1 == cyc))
noncomputable def rngs (c : CfT) (f : FaT) (cyc : Int) : Bool := inr f.1 0 31 && (inr f.2.1 (0 - c.2.2.1) c.2.1 && (inr f.2.2.1 0 2 && (inr f.2.2.2.1 0 (c.2.2.2.2.1 - 1) && (inr f.2.2.2.2.1 0 255 && inr f.2.2.2.2.2.2.1 0 cyc))))
noncomputable def frq (c : CfT) (f : FaT) : Bool := (((f.2.2.2.2.2.1.length : Int) == 0) || ((f.2.2.2.2.2.1.length : Int) == c.2.2.2.2.2.2.2.1)) && vals f.2.2.2.2.2.1
noncomputable def fin (c : CfT) (f : FaT) : Bool := bif bt f 2 || bt f 4 then kno f && ((f.2.2.2.2.2.1.length : Int) == c.2.2.2.2.2.2.2.1) else unk f && ((f.2.2.2.2.2.1.length : Int) == 0)
/-- The state of a fault is valid. -/
noncomputable def rgt (c : CfT) (f : FaT) (cyc : Int) : Bool := rngs c f cyc && (frq c f && ((q0 cyc f && (q1 c f && q2 f)) && fin c f))
end Sp
theorem inr_iff {x l h : Int} : Sp.inr x l h = true ↔ l ≤ x ∧ x ≤ h := by simp [Sp.inr]
theorem wit_ok (x l h : Int) : F_27 x l h = some (Sp.inr x l h, ()) := by
  unfold F_27 Sp.inr
  cases decide (x ≥ l) <;> rfl
theorem wit_pv (x l h : Int) : Sp.p_27 x l h = true ∧ Sp.v_27 x l h = (Sp.inr x l h, ()) := pv_27 x l h (wit_ok x l h)
theorem cfg_ok (c : CfT) : F_38 c = some (Sp.cfg c, ()) := by
  unfold F_38 Sp.cfg
  simp only [wit_pv, gd_tt]
  cases Sp.inr c.1 1 16777215 <;> try rfl
  cases Sp.inr c.2.1 1 100 <;> try rfl
  cases Sp.inr c.2.2.1 1 100 <;> try rfl
  cases Sp.inr c.2.2.2.1 1 100 <;> try rfl
  cases Sp.inr c.2.2.2.2.1 c.2.2.2.1 255 <;> try rfl
  cases Sp.inr c.2.2.2.2.2.1 0 255 <;> rfl
theorem cfg_pv (c : CfT) : Sp.p_38 c = true ∧ Sp.v_38 c = (Sp.cfg c, ()) := pv_38 c (cfg_ok c)
theorem has_pv (f : FaT) (k : Int) : Sp.p_40 f k = true ∧ Sp.v_40 f k = (Sp.bt f k, ()) := pv_40 f k rfl
/-- Bits of small numbers. -/
theorem tab (P : Int → Bool) (h : (List.range 32).all (fun n => P (n : Int)) = true) {s : Int} (h0 : 0 ≤ s) (h1 : s ≤ 31) : P s = true := by
  obtain ⟨n, rfl⟩ := Int.eq_ofNat_of_zero_le h0
  rw [List.all_eq_true] at h
  exact h n (by rw [List.mem_range]; omega)
theorem bt_ne {s : Int} (h0 : 0 ≤ s) (h1 : s ≤ 31) : ((Sp.andI .i64 s 1 != 0) = (Sp.andI .i64 s 1 == 1) ∧ (Sp.andI .i64 s 2 != 0) = (Sp.andI .i64 s 2 == 2) ∧ (Sp.andI .i64 s 4 != 0) = (Sp.andI .i64 s 4 == 4)) ∧ ((Sp.andI .i64 s 8 != 0) = (Sp.andI .i64 s 8 == 8) ∧ (Sp.andI .i64 s 16 != 0) = (Sp.andI .i64 s 16 == 16)) ∧ (Sp.andI .i64 s 10 == 10) = ((Sp.andI .i64 s 2 == 2) && (Sp.andI .i64 s 8 == 8)) ∧ (Sp.andI .i64 s 6 != 0) = ((Sp.andI .i64 s 2 == 2) || (Sp.andI .i64 s 4 == 4)) := by
  have := tab (fun s => ((((Sp.andI .i64 s 1 != 0) == (Sp.andI .i64 s 1 == 1)) && ((Sp.andI .i64 s 2 != 0) == (Sp.andI .i64 s 2 == 2)) && ((Sp.andI .i64 s 4 != 0) == (Sp.andI .i64 s 4 == 4)))) && ((((Sp.andI .i64 s 8 != 0) == (Sp.andI .i64 s 8 == 8)) && ((Sp.andI .i64 s 16 != 0) == (Sp.andI .i64 s 16 == 16)))) && ((Sp.andI .i64 s 10 == 10) == ((Sp.andI .i64 s 2 == 2) && (Sp.andI .i64 s 8 == 8))) && ((Sp.andI .i64 s 6 != 0) == ((Sp.andI .i64 s 2 == 2) || (Sp.andI .i64 s 4 == 4)))) (by decide +kernel) h0 h1
  simp only [Bool.and_eq_true, beq_iff_eq] at this
  exact ⟨⟨this.1.1.1.1.1, this.1.1.1.1.2, this.1.1.1.2⟩, this.1.1.2, this.1.2, this.2⟩
end Go.Ev
set_option linter.unusedSimpArgs false
set_option linter.unusedVariables false
namespace Go.Ev
open Go
set_option maxRecDepth 100000
set_option maxHeartbeats 4000000
theorem fnd_all (P : Nat → Bool) (n : Nat) : (fnd (fun j => !P j) n 0 = none) ↔ (List.range n).all P = true := by
  rw [fnd_none, List.all_eq_true]
  constructor
  · intro h x hx
    have := h x (by omega) (by rw [List.mem_range] at hx; omega)
    simpa using this
  · intro h i _ hi
    rw [h i (by rw [List.mem_range]; omega)]
    rfl
namespace Sp
noncomputable def frm (c : CfT) (l : List Int) : Bool := ((l.length : Int) == c.2.2.2.2.2.2.2.1) && vals l
noncomputable def cfgs (l : List CfT) : Bool := (List.range l.length).all fun j => cfg (l.getD j Zd0)
noncomputable def rgts (F : FsT) : Bool := (List.range F.2.1.length).all fun j => rgt (F.1.getD j Zd0) (F.2.1.getD j Zd1) F.2.2.1
/-- A state is valid. -/
noncomputable def vf (F : FsT) : Bool := decide (F.1.length ≤ 64) && (cfgs F.1 && (dst (F.1.map fun c => c.1) && (((F.2.1.length : Int) == F.1.length) && (inr F.2.2.1 0 1073741824 && ((!F.2.2.2.1 || decide (F.2.2.1 ≥ 1)) && rgts F)))))
end Sp
theorem val_pv (x : Int) : Sp.p_55 x = true ∧ Sp.v_55 x = (Sp.val x, ()) := by
  refine pv_55 x ?_
  unfold F_55
  rw [(wit_pv _ _ _).1, (wit_pv _ _ _).2, gd_tt]
  rfl
theorem frm_ok (c : CfT) (l : List Int) (h : l.length < 4611686018427387904) : F_39 c l = some (Sp.frm c l, ()) := by
  unfold F_39 Sp.frm
  cases (l.length : Int) == c.2.2.2.2.2.2.2.1
  · rfl
  have hf := find0 (fun m i => Sp.L_39_57_0_0 m l l.length i c) (n := l.length) (fun j => !Sp.val (l.getD j 0)) (ex := fun j => some (.e0 (j : Int) c)) (e1 := some (.e1 c)) h (fun m j hj => by
    show Sp.L_39_57_0_0 (m + 1) l l.length j c = bif !Sp.val (l.getD j 0) then some (.e0 (j : Int) c) else Sp.L_39_57_0_0 m l l.length ((j + 1 : Nat) : Int) c
    rw [Sp.L_39_57_0_0, cond_dtt (by omega), gd_inB (by omega) (by omega), Int.toNat_natCast, (val_pv _).1, (val_pv _).2, gd_tt, wi64 (by omega) (by omega)]
    push_cast
    rfl) (fun m => by
    show Sp.L_39_57_0_0 (m + 1) l l.length l.length c = _
    rw [Sp.L_39_57_0_0, cond_dff (by omega)])
  rw [hf, cond_t]
  cases hk : fnd (fun j => !Sp.val (l.getD j 0)) l.length 0 with
  | none =>
    have : Sp.vals l = true := (fnd_all (fun j => Sp.val (l.getD j 0)) l.length).1 hk
    rw [this]
    rfl
  | some k =>
    have : Sp.vals l = false := by
      cases hv : Sp.vals l
      · rfl
      · have := (fnd_all (fun j => Sp.val (l.getD j 0)) l.length).2 hv
        rw [this] at hk; cases hk
    rw [this]
    simp only [Sp.B_39_57_0_0]
    rw [decide_eq_true (by omega)]
    rfl
theorem frm_pv (c : CfT) (l : List Int) (h : l.length < 4611686018427387904) : Sp.p_39 c l = true ∧ Sp.v_39 c l = (Sp.frm c l, ()) := pv_39 c l (frm_ok c l h)
section
variable {c : CfT} {f : FaT} {cyc : Int}
theorem kn_pv (h0 : 0 ≤ f.1) (h1 : f.1 ≤ 31) : Sp.p_41 f = true ∧ Sp.v_41 f = (Sp.bt f 2 || Sp.bt f 4, ()) := by
  refine pv_41 f ?_
  unfold F_41 Sp.bt
  rw [(bt_ne h0 h1).2.2.2]
theorem bt10 (h0 : 0 ≤ f.1) (h1 : f.1 ≤ 31) : Sp.bt f 10 = (Sp.bt f 2 && Sp.bt f 8) := (bt_ne h0 h1).2.2.1
theorem gJ3 (h0 : 0 ≤ f.1) (h1 : f.1 ≤ 31) : Sp.J_28_3 c f = some (bif Sp.bt f 2 || Sp.bt f 4 then (bif Sp.kno f then .e0 c f else .e1) else .e2 c f) := by
  unfold Sp.J_28_3 Sp.kno
  rw [(kn_pv h0 h1).1, (kn_pv h0 h1).2, gd_tt]
  cases Sp.bt f 2 || Sp.bt f 4 <;> try rfl
  cases decide (f.2.2.2.2.1 ≥ 1) <;> try rfl
  cases decide (f.2.2.1 ≥ 1) <;> try rfl
  cases decide (f.2.2.2.2.2.2.1 ≥ 1) <;> rfl
theorem gJ2 (h0 : 0 ≤ f.1) (h1 : f.1 ≤ 31) : Sp.J_28_2 c f = some (bif Sp.q2 f then (bif Sp.bt f 2 || Sp.bt f 4 then (bif Sp.kno f then .e1 c f else .e0) else .e2 c f) else .e0) := by
  unfold Sp.J_28_2 Sp.q2
  simp only [has_pv, gd_tt, gJ3 h0 h1]
  cases Sp.bt f 2 <;> cases f.2.2.2.1 != 0 <;> cases Sp.bt f 4 <;> cases Sp.kno f <;> rfl
theorem gJ1 (h0 : 0 ≤ f.1) (h1 : f.1 ≤ 31) : Sp.J_28_1 c f = some (bif Sp.q1 c f && Sp.q2 f then (bif Sp.bt f 2 || Sp.bt f 4 then (bif Sp.kno f then .e1 c f else .e0) else .e2 c f) else .e0) := by
  unfold Sp.J_28_1 Sp.q1
  simp only [has_pv, gd_tt, gJ2 h0 h1]
  cases Sp.bt f 4 <;> cases f.2.2.1 == 2 <;> cases Sp.bt f 16 <;> cases c.2.2.2.2.2.2.1 <;> cases Sp.q2 f <;> cases Sp.bt f 2 <;> cases Sp.kno f <;> rfl
theorem gJ0 (h0 : 0 ≤ f.1) (h1 : f.1 ≤ 31) : Sp.J_28_0 cyc c f = some (bif Sp.q0 cyc f && (Sp.q1 c f && Sp.q2 f) then (bif Sp.bt f 2 || Sp.bt f 4 then (bif Sp.kno f then .e1 c f else .e0) else bif Sp.unk f then .e2 f else .e0) else .e0) := by
  unfold Sp.J_28_0 Sp.q0 Sp.unk
  simp only [has_pv, gd_tt, gJ1 h0 h1, bt10 h0 h1]
  have hz : ∀ x y : Int, (bif !(x == y) then (some (Sp.E_28_0.e0) : Option Sp.E_28_0) else none) = (bif x != y then some (Sp.E_28_0.e0) else none) := fun _ _ => rfl
  cases e1 : f.2.2.1 == 0 <;> cases e2 : f.2.2.2.1 == 0 <;> cases e3 : f.2.2.2.2.1 == 0 <;> cases e4 : f.2.2.2.2.2.2.1 == 0 <;> cases e5 : f.2.2.2.2.2.2.1 == cyc <;> cases Sp.q1 c f && Sp.q2 f <;> cases Sp.bt f 1 <;> cases Sp.bt f 2 <;> cases Sp.bt f 8 <;> cases Sp.bt f 4 <;> cases Sp.kno f <;> simp only [bne, e1, e2, e3, e4, e5, Sp.B_28_1, Bool.not_true, Bool.not_false, cond_true, cond_false, Bool.and_true, Bool.and_false, Bool.true_and, Bool.false_and, Bool.or_true, Bool.or_false, Bool.true_or, Bool.false_or]
theorem right_ok (hc : Sp.cfg c = true) (hfr : f.2.2.2.2.2.1.length < 4611686018427387904) : F_28 c f cyc = some (Sp.rgt c f cyc, ()) := by
  simp only [Sp.cfg, Bool.and_eq_true, inr_iff] at hc
  unfold F_28 Sp.rgt Sp.rngs
  simp only [wit_pv, gd_tt]
  rw [wi64 (n := 0 - c.2.2.1) (by omega) (by omega), wi64 (n := c.2.2.2.2.1 - 1) (by omega) (by omega)]
  cases h1 : Sp.inr f.1 0 31
  · rfl
  have hb := inr_iff.1 h1
  cases Sp.inr f.2.1 (0 - c.2.2.1) c.2.1
  · rfl
  cases Sp.inr f.2.2.1 0 2
  · rfl
  cases Sp.inr f.2.2.2.1 0 (c.2.2.2.2.1 - 1)
  · rfl
  cases Sp.inr f.2.2.2.2.1 0 255
  · rfl
  cases Sp.inr f.2.2.2.2.2.2.1 0 cyc
  · rfl
  simp only [Bool.not_true, cond_f, Bool.and_true, Bool.true_and]
  simp only [frm_pv _ _ hfr, gd_tt, gJ0 hb.1 hb.2]
  unfold Sp.frq Sp.fin Sp.frm
  by_cases hl : f.2.2.2.2.2.1 = []
  · have hv : Sp.vals f.2.2.2.2.2.1 = true := by rw [hl]; rfl
    have hz : ((f.2.2.2.2.2.1.length : Int) == 0) = true := by rw [hl]; rfl
    rw [cond_dff (by rw [hl]; decide), hv, hz]
    cases e1 : ((f.2.2.2.2.2.1.length : Int) == c.2.2.2.2.2.2.2.1) <;> cases Sp.bt f 2 <;> cases Sp.bt f 4 <;> cases Sp.q0 cyc f && (Sp.q1 c f && Sp.q2 f) <;> cases Sp.kno f <;> cases Sp.unk f <;> simp only [bne, hz, e1, Sp.B_28_0, Bool.not_true, Bool.not_false, cond_true, cond_false, Bool.and_true, Bool.and_false, Bool.true_and, Bool.false_and, Bool.or_true, Bool.or_false, Bool.true_or, Bool.false_or]
  · have hp : 0 < f.2.2.2.2.2.1.length := List.length_pos_iff.2 hl
    have hz : ((f.2.2.2.2.2.1.length : Int) == 0) = false := beq_eq_false_iff_ne.2 (by omega)
    rw [cond_dtt (by omega), hz]
    cases e1 : ((f.2.2.2.2.2.1.length : Int) == c.2.2.2.2.2.2.2.1) <;> cases Sp.vals f.2.2.2.2.2.1 <;> cases Sp.bt f 2 <;> cases Sp.bt f 4 <;> cases Sp.q0 cyc f && (Sp.q1 c f && Sp.q2 f) <;> cases Sp.kno f <;> cases Sp.unk f <;> simp only [bne, hz, e1, Sp.B_28_0, Bool.not_true, Bool.not_false, cond_true, cond_false, Bool.and_true, Bool.and_false, Bool.true_and, Bool.false_and, Bool.or_true, Bool.or_false, Bool.true_or, Bool.false_or]
theorem right_pv (hc : Sp.cfg c = true) (hfr : f.2.2.2.2.2.1.length < 4611686018427387904) : Sp.p_28 c f cyc = true ∧ Sp.v_28 c f cyc = (Sp.rgt c f cyc, ()) := pv_28 c f cyc (right_ok hc hfr)
end
/-- Memory is not great. -/
structure Sm (F : FsT) : Prop where
  l : F.2.1.length < 4611686018427387904
  f : ∀ j, j < F.2.1.length → (F.2.1.getD j Zd1).2.2.2.2.2.1.length < 4611686018427387904
theorem cfgs_at {l : List CfT} (h : Sp.cfgs l = true) {j : Nat} (hj : j < l.length) : Sp.cfg (l.getD j Zd0) = true := by
  unfold Sp.cfgs at h
  rw [List.all_eq_true] at h
  exact h j (by rw [List.mem_range]; exact hj)
theorem vJ0 {F : FsT} (hs : Sm F) (hc : Sp.cfgs F.1 = true) (hl : F.2.1.length = F.1.length) : Sp.J_10_0 F = some (bif Sp.rgts F then .e1 else .e0) := by
  have := all0 (fun m i => Sp.L_10_1 m F.2.1 F.2.1.length i F) (n := F.2.1.length) (fun j => Sp.rgt (F.1.getD j Zd0) (F.2.1.getD j Zd1) F.2.2.1) (e0 := some .e0) (e1 := some .e1) hs.l (fun m j hj => by
    show Sp.L_10_1 (m + 1) F.2.1 F.2.1.length j F = bif Sp.rgt (F.1.getD j Zd0) (F.2.1.getD j Zd1) F.2.2.1 then Sp.L_10_1 m F.2.1 F.2.1.length ((j + 1 : Nat) : Int) F else some .e0
    have hr := right_pv (cyc := F.2.2.1) (cfgs_at hc (j := j) (by omega)) (hs.f j hj)
    rw [Sp.L_10_1, cond_dtt (by omega), gd_inB (by omega) (by omega), gd_inB (by omega) (by omega), Int.toNat_natCast, hr.1, hr.2, gd_tt, wi64 (by have := hs.l; omega) (by have := hs.l; omega)]
    push_cast
    cases Sp.rgt (F.1.getD j Zd0) (F.2.1.getD j Zd1) F.2.2.1 <;> rfl) (fun m => by
    show Sp.L_10_1 (m + 1) F.2.1 F.2.1.length F.2.1.length F = _
    rw [Sp.L_10_1, cond_dff (by omega)])
  unfold Sp.J_10_0
  rw [this]
  unfold Sp.rgts
  cases (List.range F.2.1.length).all fun j => Sp.rgt (F.1.getD j Zd0) (F.2.1.getD j Zd1) F.2.2.1 <;> rfl
theorem vf_ok {F : FsT} (hs : Sm F) : F_10 F = some (Sp.vf F, ()) := by
  unfold F_10 Sp.vf
  by_cases h1 : (F.1.length : Int) > 64
  · rw [cond_dtt h1, decide_eq_false (by omega)]; rfl
  rw [cond_dff h1, decide_eq_true (p := F.1.length ≤ 64) (by omega), Bool.true_and]
  have hf := find0 (fun m i => Sp.L_10_35_0_0 m F.1 F.1.length i F) (n := F.1.length) (fun j => !Sp.cfg (F.1.getD j Zd0)) (ex := fun j => some (.e0 (j : Int) F)) (e1 := some (.e1 F)) (by omega) (fun m j hj => by
    show Sp.L_10_35_0_0 (m + 1) F.1 F.1.length j F = bif !Sp.cfg (F.1.getD j Zd0) then some (.e0 (j : Int) F) else Sp.L_10_35_0_0 m F.1 F.1.length ((j + 1 : Nat) : Int) F
    rw [Sp.L_10_35_0_0, cond_dtt (by omega), gd_inB (by omega) (by omega), Int.toNat_natCast, (cfg_pv _).1, (cfg_pv _).2, gd_tt, wi64 (by omega) (by omega)]
    push_cast
    rfl) (fun m => by
    show Sp.L_10_35_0_0 (m + 1) F.1 F.1.length F.1.length F = _
    rw [Sp.L_10_35_0_0, cond_dff (by omega)])
  rw [hf]
  cases hk : fnd (fun j => !Sp.cfg (F.1.getD j Zd0)) F.1.length 0 with
  | some k =>
    have : Sp.cfgs F.1 = false := by
      cases hv : Sp.cfgs F.1
      · rfl
      · have := (fnd_all (fun j => Sp.cfg (F.1.getD j Zd0)) F.1.length).2 hv
        rw [this] at hk; cases hk
    rw [this]
    simp only [Sp.B_10_35_0_0]
    rw [cond_dtt (by omega)]
    rfl
  | none =>
    have hc : Sp.cfgs F.1 = true := (fnd_all (fun j => Sp.cfg (F.1.getD j Zd0)) F.1.length).1 hk
    rw [hc]
    simp only [Sp.B_10_35_0_0, Bool.true_and]
    have em : (List.map (fun (y : Ty.den CfgTy) => Prod.fst y) F.1) = (F.1.map fun c => c.1) := rfl
    rw [em]
    cases Sp.dst (F.1.map fun c => c.1)
    · rfl
    simp only [Bool.not_true, cond_f, Bool.true_and]
    by_cases hl : (F.2.1.length : Int) = (F.1.length : Int)
    rotate_left
    · rw [cond_ntt hl, beq_eq_false_iff_ne.2 hl]; rfl
    rw [cond_nff hl, beq_iff_eq.2 hl, Bool.true_and, (wit_pv _ _ _).1, (wit_pv _ _ _).2, gd_tt]
    cases Sp.inr F.2.2.1 0 1073741824
    · rfl
    simp only [Bool.not_true, cond_f, Bool.true_and]
    rw [vJ0 hs hc (by omega)]
    cases F.2.2.2.1
    · cases Sp.rgts F <;> rfl
    · by_cases hy : F.2.2.1 < 1
      · rw [cond_t, cond_dtt hy, decide_eq_false (by omega)]
        rfl
      · rw [cond_t, cond_dff hy, decide_eq_true (p := F.2.2.1 ≥ 1) (by omega)]
        cases Sp.rgts F <;> rfl
theorem vf_pv {F : FsT} (hs : Sm F) : Sp.p_10 F = true ∧ Sp.v_10 F = (Sp.vf F, ()) := pv_10 F (vf_ok hs)
end Go.Ev
set_option linter.unusedSimpArgs false
set_option linter.unusedVariables false
namespace Go.Ev
open Go
set_option maxRecDepth 100000
set_option maxHeartbeats 4000000
abbrev SvT := Int × Int × Int × Int × Int × Int × Unit
namespace Sp
noncomputable def sv (s : SvT) : Bool := inr s.1 1 3 && (inr s.2.1 0 65535 && (inr s.2.2.1 0 1 && (inr s.2.2.2.1 0 2 && (inr s.2.2.2.2.1 0 1099521627776 && (inr s.2.2.2.2.2.1 0 1099521627776 && ((s.1 != 1) || ((s.2.1 == 0) && ((s.2.2.1 == 0) && (s.2.2.2.2.2.1 == 0)))))))))
noncomputable def ent (s : SvT) (n : Int) : SvT := if n = 1 then (n, 0, 0, s.2.2.2.1, s.2.2.2.2.1, 0, ()) else (n, 0, 0, s.2.2.2.1, s.2.2.2.2.1, s.2.2.2.2.2.1, ())
noncomputable def tck (s : SvT) (now : Int) : SvT := if sv s = true ∧ inr now 0 1099511627776 = true ∧ ¬ s.1 = 1 ∧ ¬ now < s.2.2.2.2.2.1 then ent s 1 else s
noncomputable def fill : Nat → Int → List Int → List Int
  | 0, _, l => l
  | j + 1, n, l => fill j (Int.fdiv n 256) (l.set j (IntKind.wrap .u8 n))
end Sp
theorem din_pv (x l h : Int) : Sp.p_31 x l h = true ∧ Sp.v_31 x l h = (Sp.inr x l h, ()) := by
  refine pv_31 x l h ?_
  unfold F_31 Sp.inr
  cases decide (x ≥ l) <;> rfl
theorem sv_ok (s : SvT) : F_15 s = some (Sp.sv s, ()) := by
  unfold F_15 Sp.sv
  simp only [din_pv, gd_tt]
  cases Sp.inr s.1 1 3 <;> try rfl
  cases Sp.inr s.2.1 0 65535 <;> try rfl
  cases Sp.inr s.2.2.1 0 1 <;> try rfl
  cases Sp.inr s.2.2.2.1 0 2 <;> try rfl
  cases Sp.inr s.2.2.2.2.1 0 1099521627776 <;> try rfl
  cases Sp.inr s.2.2.2.2.2.1 0 1099521627776 <;> try rfl
  cases s.1 != 1 <;> cases s.2.1 == 0 <;> cases s.2.2.1 == 0 <;> rfl
theorem sv_pv (s : SvT) : Sp.p_15 s = true ∧ Sp.v_15 s = (Sp.sv s, ()) := pv_15 s (sv_ok s)
theorem ent_pv (s : SvT) (n : Int) : Sp.p_32 s n = true ∧ Sp.v_32 s n = (Sp.ent s n, ()) := by
  refine pv_32 s n ?_
  unfold F_32 Sp.ent
  by_cases h : n = 1
  · rw [cond_ett h, if_pos h]
  · rw [cond_eff h, if_neg h]
theorem tck_pv (s : SvT) (now : Int) : Sp.p_13 s now = true ∧ Sp.v_13 s now = (Sp.tck s now, ()) := by
  refine pv_13 s now ?_
  unfold F_13 Sp.tck
  rw [(sv_pv s).1, (sv_pv s).2, gd_tt, (din_pv _ _ _).1, (din_pv _ _ _).2, gd_tt, (ent_pv s 1).1, (ent_pv s 1).2, gd_tt]
  cases h1 : Sp.sv s
  · rw [if_neg (by rintro ⟨h, _⟩; cases h)]; rfl
  cases h2 : Sp.inr now 0 1099511627776
  · rw [if_neg (by rintro ⟨_, h, _⟩; cases h)]; rfl
  simp only [Bool.not_true, cond_f]
  by_cases h3 : s.1 = 1
  · rw [cond_ett h3, if_neg (by rintro ⟨_, _, h, _⟩; exact h h3)]
  rw [cond_eff h3]
  by_cases h4 : now < s.2.2.2.2.2.1
  · rw [cond_dtt h4, if_neg (by rintro ⟨_, _, _, h⟩; exact h h4)]
  · rw [cond_dff h4, if_pos (by simp [h3, h4])]
theorem by_loop : ∀ (j m : Nat) (n : Int) (l : List Int), j ≤ l.length → j ≤ 1000 → j < m → Sp.L_56_0 m n ((j : Int) - 1) l = some (.e0 (Sp.fill j n l))
  | 0, m + 1, n, l, _, _, _ => by
    rw [Sp.L_56_0, cond_dff (by omega)]
    rfl
  | j + 1, m + 1, n, l, hj, hk, hm => by
    rw [Sp.L_56_0, cond_dtt (by omega), gd_inB (by omega) (by omega), show (((j + 1 : Nat) : Int) - 1).toNat = j by omega, Bool.and_true, Bool.and_true, gd_dec (by omega), wi64 (by omega) (by omega), show ((j + 1 : Nat) : Int) - 1 - 1 = (j : Int) - 1 by omega, by_loop j m _ _ (by rw [List.length_set]; omega) (by omega) (by omega)]
    rfl
theorem bytes_pv (n : Int) (k : Nat) (hk : k ≤ 8) : Sp.p_56 n (k : Int) = true ∧ Sp.v_56 n (k : Int) = (Sp.fill k n (List.replicate k 0), ()) := by
  refine pv_56 n (k : Int) ?_
  unfold F_56
  rw [decide_eq_true (by omega), beq_self_eq_true, Int.toNat_natCast, show room k 1 = true from room_ok (by omega) (by omega), Bool.and_true, Bool.and_true, gd_tt, wi64 (by omega) (by omega), by_loop k _ n _ (by simp) (by omega) (by omega)]
  rfl
end Go.Ev
set_option linter.unusedSimpArgs false
set_option linter.unusedVariables false
namespace Go.Ev
open Go
set_option maxRecDepth 100000
set_option maxHeartbeats 4000000
namespace Sp
noncomputable def smf (F : FsT) : Bool := (fnd (fun j => decide (((F.2.1.getD j Zd1).2.2.2.2.2.1.length : Int) > 20)) F.2.1.length 0).isNone
noncomputable def fw (F : FsT) : Bool := decide ((F.1.length : Int) ≤ 70) && (decide ((F.2.1.length : Int) ≤ 70) && smf F)
end Sp
theorem few_pv (F : FsT) : Sp.p_9 F = true ∧ Sp.v_9 F = (Sp.fw F, ()) := by
  refine pv_9 F ?_
  unfold F_9 Sp.fw
  by_cases h1 : (F.1.length : Int) ≤ 70
  rotate_left
  · rw [cond_dff h1, decide_eq_false h1]; rfl
  rw [cond_dtt h1, decide_eq_true h1]
  by_cases h2 : (F.2.1.length : Int) ≤ 70
  rotate_left
  · rw [cond_dff h2, decide_eq_false h2]; rfl
  rw [cond_dtt h2, decide_eq_true h2, Bool.true_and, Bool.true_and]
  have hf := find0 (fun m i => Sp.L_9_37_0_0 m F.2.1 F.2.1.length i F) (n := F.2.1.length) (fun j => decide (((F.2.1.getD j Zd1).2.2.2.2.2.1.length : Int) > 20)) (ex := fun j => some (.e0 (j : Int) F)) (e1 := some (.e1 F)) (by omega) (fun m j hj => by
    show Sp.L_9_37_0_0 (m + 1) F.2.1 F.2.1.length j F = bif decide (((F.2.1.getD j Zd1).2.2.2.2.2.1.length : Int) > 20) then some (.e0 (j : Int) F) else Sp.L_9_37_0_0 m F.2.1 F.2.1.length ((j + 1 : Nat) : Int) F
    rw [Sp.L_9_37_0_0, cond_dtt (by omega), gd_inB (by omega) (by omega), Int.toNat_natCast, wi64 (by omega) (by omega)]
    push_cast
    rfl) (fun m => by
    show Sp.L_9_37_0_0 (m + 1) F.2.1 F.2.1.length F.2.1.length F = _
    rw [Sp.L_9_37_0_0, cond_dff (by omega)])
  rw [hf]
  unfold Sp.smf
  cases fnd (fun j => decide (((F.2.1.getD j Zd1).2.2.2.2.2.1.length : Int) > 20)) F.2.1.length 0 with
  | none => rfl
  | some k =>
    simp only [Sp.B_9_37_0_0, Option.isNone]
    rw [decide_eq_true (by omega)]
    rfl
theorem fw_sm {F : FsT} (h : Sp.fw F = true) : Sm F := by
  simp only [Sp.fw, Bool.and_eq_true, decide_eq_true_eq, Sp.smf, Option.isNone_iff_eq_none, fnd_none, decide_eq_false_iff_not] at h
  refine ⟨by omega, fun j hj => ?_⟩
  have := h.2.2 j (by omega) (by omega)
  omega
/-- A valid state of the server. -/
structure Sv (s : SvT) : Prop where
  s0 : 1 ≤ s.1
  s1 : s.1 ≤ 3
  e0 : 0 ≤ s.2.1
  e1 : s.2.1 ≤ 65535
  l0 : 0 ≤ s.2.2.1
  l1 : s.2.2.1 ≤ 1
  t0 : 0 ≤ s.2.2.2.1
  t1 : s.2.2.2.1 ≤ 2
  u0 : 0 ≤ s.2.2.2.2.1
  u1 : s.2.2.2.2.1 ≤ 1099521627776
  d0 : 0 ≤ s.2.2.2.2.2.1
  d1 : s.2.2.2.2.2.1 ≤ 1099521627776
  z : s.1 = 1 → s.2.1 = 0 ∧ s.2.2.1 = 0 ∧ s.2.2.2.2.2.1 = 0
theorem sv_iff {s : SvT} : Sp.sv s = true ↔ Sv s := by
  unfold Sp.sv
  simp only [Bool.and_eq_true, inr_iff, Bool.or_eq_true, bne_iff_ne, ne_eq, beq_iff_eq]
  constructor
  · rintro ⟨a, b, c, d, e, f, g⟩
    refine ⟨a.1, a.2, b.1, b.2, c.1, c.2, d.1, d.2, e.1, e.2, f.1, f.2, fun h => ?_⟩
    rcases g with g | g
    · exact absurd h g
    · exact g
  · intro h
    refine ⟨⟨h.s0, h.s1⟩, ⟨h.e0, h.e1⟩, ⟨h.l0, h.l1⟩, ⟨h.t0, h.t1⟩, ⟨h.u0, h.u1⟩, ⟨h.d0, h.d1⟩, ?_⟩
    by_cases e : s.1 = 1
    · exact Or.inr (h.z e)
    · exact Or.inl e
end Go.Ev
set_option linter.unusedSimpArgs false
set_option linter.unusedVariables false
namespace Go.Ev
open Go
set_option maxRecDepth 100000
set_option maxHeartbeats 4000000
abbrev IbT := Int × Bool × Unit
abbrev VvT := SvT × FsT × Int × Unit
namespace Sp
noncomputable def ded (s : SvT) (now : Int) : SvT := (s.1, s.2.1, s.2.2.1, s.2.2.2.1, s.2.2.2.2.1, (if s.1 = 1 then 0 else IntKind.wrap .i64 (now + 5000000)), s.2.2.2.2.2.2)
noncomputable def ln (b : List Int) : Int := bif b.getD 0 0 == 16 then 2 else bif b.getD 0 0 == 17 then 2 else bif b.getD 0 0 == 62 then 2 else bif b.getD 0 0 == 20 then 4 else bif b.getD 0 0 == 25 then 3 else bif b.getD 0 0 == 34 then 3 else bif b.getD 0 0 == 39 then (bif decide ((b.length : Int) > 1) then (bif b.getD 1 0 == 2 then 4 else 2) else 2) else 0
noncomputable def fnc (b : List Int) : Bool := bif b.getD 0 0 == 16 then (bif decide (b.getD 1 0 ≥ 1) then decide (b.getD 1 0 ≤ 3) else false) else bif b.getD 0 0 == 17 then b.getD 1 0 == 1 else bif b.getD 0 0 == 25 then b.getD 1 0 == 2 else bif b.getD 0 0 == 39 then (bif b.getD 1 0 == 1 then true else b.getD 1 0 == 2) else bif b.getD 0 0 == 62 then (bif b.getD 1 0 == 0 then true else b.getD 1 0 == 128) else true
end Sp
theorem ln_pv (b : List Int) (h : 0 < b.length) : Sp.p_43 b = true ∧ Sp.v_43 b = (Sp.ln b, ()) := by
  refine pv_43 b ?_
  unfold F_43 Sp.ln
  rw [gd_inB (by omega) (by omega)]
  by_cases h1 : (b.length : Int) > 1
  · rw [gd_inB (by omega) (by omega), decide_eq_true h1]
    cases b.getD 0 0 == 16 <;> cases b.getD 0 0 == 17 <;> cases b.getD 0 0 == 62 <;> cases b.getD 0 0 == 20 <;> cases b.getD 0 0 == 25 <;> cases b.getD 0 0 == 34 <;> cases b.getD 0 0 == 39 <;> cases b.getD 1 0 == 2 <;> rfl
  · rw [decide_eq_false h1]
    cases b.getD 0 0 == 16 <;> cases b.getD 0 0 == 17 <;> cases b.getD 0 0 == 62 <;> cases b.getD 0 0 == 20 <;> cases b.getD 0 0 == 25 <;> cases b.getD 0 0 == 34 <;> cases b.getD 0 0 == 39 <;> rfl
theorem fnc_pv (b : List Int) (h : 1 < b.length) : Sp.p_44 b = true ∧ Sp.v_44 b = (Sp.fnc b, ()) := by
  refine pv_44 b ?_
  unfold F_44 Sp.fnc
  simp only [gd_inB (i := (0 : Int)) (n := b.length) (by omega) (by omega), gd_inB (i := (1 : Int)) (n := b.length) (by omega) (by omega)]
  cases b.getD 0 0 == 16 <;> cases b.getD 0 0 == 17 <;> cases b.getD 0 0 == 25 <;> cases b.getD 0 0 == 39 <;> cases b.getD 0 0 == 62 <;> cases decide (b.getD 1 0 ≥ 1) <;> cases b.getD 1 0 == 1 <;> cases b.getD 1 0 == 0 <;> rfl
theorem by3 (n : Int) : Sp.p_56 n 3 = true ∧ Sp.v_56 n 3 = ([IntKind.wrap .u8 (Int.fdiv (Int.fdiv n 256) 256), IntKind.wrap .u8 (Int.fdiv n 256), IntKind.wrap .u8 n], ()) := bytes_pv n 3 (by omega)
section
variable {now : Int} {q1 : SvT} {q2 : IbT} {q3 : List CfT} {q4 : List FaT} {v : VvT} {o b : List Int}
theorem j3 : Sp.J_14_3 now q1 q2 q3 q4 v o = some (.e0 (Sp.ded v.1 now, v.2) o) := by
  unfold Sp.J_14_3 Sp.ded
  by_cases h : v.1.1 = 1
  · rw [cond_nff h, if_pos h]; rfl
  · rw [cond_ntt h, if_neg h]; rfl
/-- A positive answer. -/
theorem j20 : Sp.J_14_2 b now 0 q1 q2 q3 q4 v o = some (.e0 (Sp.ded v.1 now, v.2) o) := by
  unfold Sp.J_14_2
  rw [cond_nff rfl, j3]; rfl
theorem j330 {F : FsT} {s : SvT} {n : Int} (h : (b.length : Int) = n) (h1 : 1 < b.length) (hf : Sp.fnc b = true) : Sp.J_14_33_0_0 b n false s F q1 q2 q3 q4 v = some (.e3 b n s F q1 q2 q3 q4 v) := by
  unfold Sp.J_14_33_0_0
  rw [cond_f, cond_nff h, (fnc_pv b h1).1, (fnc_pv b h1).2, gd_tt, hf]; rfl
end
/-- What a request is given. -/
structure Rq (s : SvT) (F : FsT) (now : Int) : Prop where
  s : Sv s
  f : Sp.p_10 F = true
  g : Sp.v_10 F = (true, ())
  n0 : 0 ≤ now
  n1 : now ≤ 1099511627776
theorem rq0 {s : SvT} {F : FsT} {now : Int} {b : List Int} (h : Rq s F now) (hb0 : 1 ≤ b.length) (hb1 : b.length ≤ 1023) :
    F_14 s F b now = Sp.B_14_1 (Sp.J_14_1 b now s F (0, 0, 0, 0, 0, 0, ()) (0, false, ()) [] []) (fun v o => some (v.1, v.2.1, o, ())) (fun o v => some (v.1, v.2.1, o, ())) := by
  unfold F_14
  rw [(sv_pv s).1, (sv_pv s).2, gd_tt, sv_iff.2 h.s, Bool.not_true, cond_f, h.f, h.g, gd_tt, Bool.not_true, cond_f, (din_pv now _ _).1, (din_pv now _ _).2, gd_tt, inr_iff.2 ⟨h.n0, h.n1⟩, Bool.not_true, cond_f,
    (din_pv _ 1 1023).1, (din_pv _ 1 1023).2, gd_tt, inr_iff.2 ⟨by omega, by omega⟩, Bool.not_true]
  rfl
end Go.Ev
set_option linter.unusedSimpArgs false
set_option linter.unusedVariables false
namespace Go.Ev
open Go
set_option maxRecDepth 100000
set_option maxHeartbeats 4000000
theorem tck_v (s : SvT) (now : Int) : (Sp.v_13 s now).1 = Sp.tck s now := by rw [(tck_pv s now).2]
theorem ln_v (b : List Int) (h : 0 < b.length) : (Sp.v_43 b).1 = Sp.ln b := by rw [(ln_pv b h).2]
section
variable {s : SvT} {F : FsT} {now x y : Int} {q1 : SvT} {q2 : IbT} {q3 : List CfT} {q4 : List FaT} {v : VvT}
end
end Go.Ev
set_option linter.unusedSimpArgs false
set_option linter.unusedVariables false
namespace Go.Ev
open Go
set_option maxRecDepth 100000
set_option maxHeartbeats 4000000
theorem wu8m {n : Int} : IntKind.wrap .u8 n = n % 256 := by simp [IntKind.wrap, IntKind.bits, IntKind.signed]
theorem fd8 (n : Int) : Int.fdiv n 256 = n / 256 := Int.fdiv_eq_ediv_of_nonneg n (by decide)
end Go.Ev
set_option linter.unusedSimpArgs false
set_option linter.unusedVariables false
namespace Go.Ev
open Go
set_option maxRecDepth 100000
set_option maxHeartbeats 4000000
theorem aw : F_8 = some (true, ()) := by kernel_rfl
theorem aw_pv : Sp.p_8 = true ∧ Sp.v_8 = (true, ()) := pv_8 aw
end Go.Ev
set_option linter.unusedSimpArgs false
set_option linter.unusedVariables false
namespace Go.Ev
open Go
set_option maxRecDepth 100000
set_option maxHeartbeats 4000000
abbrev Fz : FsT := ([], [], (0 : Int), false, ())
theorem new_pv : Sp.p_12 = true ∧ Sp.v_12 = ((1, 0, 0, 0, 0, 0, ()), ()) := pv_12 rfl
end Go.Ev
set_option linter.unusedSimpArgs false
set_option linter.unusedVariables false
namespace Go.Ev
open Go
set_option maxRecDepth 100000
set_option maxHeartbeats 4000000
theorem num_pv (l : List Int) (h : l.length < 4611686018427387904) : Sp.p_52 l l = true ∧ Sp.v_52 l l = (true, ()) := by
  refine pv_52 l l ?_
  unfold F_52
  rw [cond_nff rfl]
  have h1 := run0 (fun m i (_ : Unit) => Sp.L_52_0 m l l i) (n := l.length) (fun _ => ()) (r := some .e1) h (fun m j hj => by
    show Sp.L_52_0 (m + 1) l l (j : Int) = Sp.L_52_0 m l l ((j + 1 : Nat) : Int)
    rw [Sp.L_52_0, cond_dtt (by omega), gd_inB (by omega) (by omega), gd_inB (by omega) (by omega), cond_nff rfl, wi64 (by omega) (by omega)]
    push_cast
    rfl) (fun m => by
    show Sp.L_52_0 (m + 1) l l l.length = _
    rw [Sp.L_52_0, cond_dff (by omega)])
  have e1 : Sp.L_52_0 4611686018427387904 l l 0 = _ := h1
  rw [e1]
  rfl
theorem fsame_pv (f : FaT) (h : f.2.2.2.2.2.1.length < 4611686018427387904) : Sp.p_34 f f = true ∧ Sp.v_34 f f = (true, ()) := by
  refine pv_34 f f ?_
  unfold F_34
  simp only [beq_self_eq_true, cond_t, num_pv _ h, gd_tt]
theorem cfg_beq (c : CfT) : Ty.beq (.pair (.int .i64) (.pair (.int .i64) (.pair (.int .i64) (.pair (.int .i64) (.pair (.int .i64) (.pair (.int .i64) (.pair .bool (.pair (.int .i64) .unit)))))))) c c = true := by
  simp [Ty.beq]
theorem same_pv {F : FsT} (hs : Sm F) (h : F.1.length < 4611686018427387904) : Sp.p_17 F F = true ∧ Sp.v_17 F F = (true, ()) := by
  refine pv_17 F F ?_
  unfold F_17
  rw [cond_nff rfl, cond_nff rfl, cond_nff rfl, beq_self_eq_true, Bool.not_true, cond_f]
  have h1 := run0 (fun m i (_ : Unit) => Sp.L_17_0 m i F F) (n := F.1.length) (fun _ => ()) (r := some (.e1 F F)) h (fun m j hj => by
    show Sp.L_17_0 (m + 1) (j : Int) F F = Sp.L_17_0 m ((j + 1 : Nat) : Int) F F
    rw [Sp.L_17_0, cond_dtt (by omega), gd_inB (by omega) (by omega), gd_inB (by omega) (by omega), cfg_beq, Bool.not_true, cond_f, wi64 (by omega) (by omega)]
    push_cast
    rfl) (fun m => by
    show Sp.L_17_0 (m + 1) F.1.length F F = _
    rw [Sp.L_17_0, cond_dff (by omega)])
  have h2 := run0 (fun m i (_ : Unit) => Sp.L_17_1 m i F F) (n := F.2.1.length) (fun _ => ()) (r := some .e1) hs.l (fun m j hj => by
    show Sp.L_17_1 (m + 1) (j : Int) F F = Sp.L_17_1 m ((j + 1 : Nat) : Int) F F
    have hx := hs.l
    have hq := fsame_pv (F.2.1.getD j Zd1) (hs.f j hj)
    rw [Sp.L_17_1, cond_dtt (by omega), gd_inB (by omega) (by omega), gd_inB (by omega) (by omega), Int.toNat_natCast, hq.1, hq.2, gd_tt, wi64 (by omega) (by omega)]
    push_cast
    rfl) (fun m => by
    show Sp.L_17_1 (m + 1) F.2.1.length F F = _
    rw [Sp.L_17_1, cond_dff (by omega)])
  have e1 : Sp.L_17_0 4611686018427387904 0 F F = _ := h1
  have e2 : Sp.L_17_1 4611686018427387904 0 F F = _ := h2
  rw [e1]
  simp only [Sp.B_17_0]
  rw [e2]
  rfl
end Go.Ev
set_option linter.unusedSimpArgs false
set_option linter.unusedVariables false
namespace Go.Ev
open Go
set_option maxRecDepth 100000
set_option maxHeartbeats 4000000
namespace Sp
/-- The fault's status has a bit of the mask. -/
noncomputable def ht (F : FsT) (k : Int) (j : Nat) : Bool := andI .i64 (F.2.1.getD j Zd1).1 k != 0
noncomputable def hs (F : FsT) (k : Int) (n : Nat) : List Nat := (List.range n).filter (ht F k)
noncomputable def rcd (F : FsT) (j : Nat) : Int := (F.1.getD j Zd0).1
noncomputable def rby (F : FsT) (j : Nat) : List Int := [IntKind.wrap .u8 (Int.fdiv (Int.fdiv (rcd F j) 256) 256), IntKind.wrap .u8 (Int.fdiv (rcd F j) 256), IntKind.wrap .u8 (rcd F j), IntKind.wrap .u8 (F.2.1.getD j Zd1).1]
noncomputable def rcs (F : FsT) (k : Int) (n : Nat) : List Int := (hs F k n).map (rcd F)
noncomputable def rbs (F : FsT) (k : Int) (n : Nat) : List Int := [89, 2, 31] ++ (hs F k n).flatMap (rby F)
end Sp
theorem hs_succ (F : FsT) (k : Int) (n : Nat) : Sp.hs F k (n + 1) = if Sp.ht F k n = true then Sp.hs F k n ++ [n] else Sp.hs F k n := by
  unfold Sp.hs
  rw [List.range_succ, List.filter_append]
  split
  · rename_i h; simp [h]
  · rename_i h; simp [h]
theorem hs_len (F : FsT) (k : Int) (n : Nat) : (Sp.hs F k n).length ≤ n := by
  unfold Sp.hs
  exact Nat.le_trans (List.length_filter_le _ _) (by simp)
theorem fm_len (F : FsT) (l : List Nat) : (l.flatMap (Sp.rby F)).length = 4 * l.length := by
  induction l with
  | nil => rfl
  | cons a l ih => rw [List.flatMap_cons, List.length_append, ih]; simp [Sp.rby]; omega
theorem rbs_len (F : FsT) (k : Int) (n : Nat) : (Sp.rbs F k n).length = 3 + 4 * (Sp.hs F k n).length := by
  unfold Sp.rbs
  rw [List.length_append, fm_len]; rfl
theorem hs_split (F : FsT) (k : Int) {i : Nat} (h : Sp.ht F k i = true) : ∀ {n : Nat}, i < n → ∃ r, Sp.hs F k n = Sp.hs F k i ++ i :: r := by
  intro n
  induction n with
  | zero => intro h; omega
  | succ n ih =>
    intro hi
    rw [hs_succ]
    by_cases e : i = n
    · subst e
      rw [if_pos h]
      exact ⟨[], rfl⟩
    · obtain ⟨r, hr⟩ := ih (by omega)
      rw [hr]
      split
      · exact ⟨r ++ [n], by simp⟩
      · exact ⟨r, rfl⟩
/-- What a valid state says. -/
structure Vq (F : FsT) : Prop where
  n : F.1.length ≤ 64
  l : F.2.1.length = F.1.length
  c : ∀ j, j < F.1.length → 1 ≤ Sp.rcd F j ∧ Sp.rcd F j ≤ 16777215
  s : ∀ j, j < F.1.length → 0 ≤ (F.2.1.getD j Zd1).1 ∧ (F.2.1.getD j Zd1).1 ≤ 31
  d : ∀ a b, a < F.1.length → b < F.1.length → Sp.rcd F a = Sp.rcd F b → a = b
theorem vf_vq {F : FsT} (h : Sp.vf F = true) : Vq F := by
  unfold Sp.vf at h
  simp only [Bool.and_eq_true, decide_eq_true_eq, beq_iff_eq] at h
  obtain ⟨h1, h2, h3, h4, h5, h6, h7⟩ := h
  have hl : F.2.1.length = F.1.length := by omega
  refine ⟨h1, hl, fun j hj => ?_, fun j hj => ?_, fun a b ha hb e => ?_⟩
  · have := cfgs_at h2 hj
    unfold Sp.cfg at this
    simp only [Bool.and_eq_true, inr_iff] at this
    exact this.1
  · unfold Sp.rgts at h7
    rw [List.all_eq_true] at h7
    have := h7 j (by rw [List.mem_range]; omega)
    unfold Sp.rgt Sp.rngs at this
    simp only [Bool.and_eq_true, inr_iff] at this
    exact this.1.1
  · have hd := (Sp.dst_nodup _).1 h3
    have hm : ∀ j, j < F.1.length → (F.1.map fun c => c.1).getD j 0 = Sp.rcd F j := fun j hj => by
      unfold Sp.rcd
      simp [List.getD_eq_getElem?_getD, hj]
    have ga := getD_at (l := F.1.map fun c => c.1) (j := a) 0 (by simpa using ha)
    have gb := getD_at (l := F.1.map fun c => c.1) (j := b) 0 (by simpa using hb)
    rw [hm a ha] at ga
    rw [hm b hb] at gb
    have hp := List.pairwise_iff_getElem.1 hd
    rcases Nat.lt_trichotomy a b with h | h | h
    · exact absurd (by rw [← ga, ← gb, e]) (hp a b (by simpa using ha) (by simpa using hb) h)
    · exact h
    · exact absurd (by rw [← ga, ← gb, e]) (hp b a (by simpa using hb) (by simpa using ha) h)
section
variable {s : SvT} {F : FsT} {now x y : Int} {q1 : SvT} {q2 : IbT} {q3 : List CfT} {q4 : List FaT} {v : VvT}
theorem s_rpl (hv : Sp.vf F = true) (hF : v.2.1 = F) (k : Int) : Sp.L_14_48_0_0 4611686018427387904 k F.2.1 F.2.1.length 0 s F q1 q2 q3 q4 v [89, 2, 31] = some (.e0 s F q1 q2 q3 q4 v (Sp.rbs F k F.2.1.length)) := by
  have hq := vf_vq hv
  have hr := run0 (fun m i l => Sp.L_14_48_0_0 m k F.2.1 F.2.1.length i s F q1 q2 q3 q4 v l) (n := F.2.1.length) (fun j => Sp.rbs F k j) (r := some (.e0 s F q1 q2 q3 q4 v (Sp.rbs F k F.2.1.length))) (by have := hq.n; have := hq.l; omega) (fun m j hj => by
    show Sp.L_14_48_0_0 (m + 1) k F.2.1 F.2.1.length (j : Int) s F q1 q2 q3 q4 v (Sp.rbs F k j) = Sp.L_14_48_0_0 m k F.2.1 F.2.1.length ((j + 1 : Nat) : Int) s F q1 q2 q3 q4 v (Sp.rbs F k (j + 1))
    have := hq.n; have := hq.l
    have hl := hs_len F k j
    have hrl := rbs_len F k j
    rw [Sp.L_14_48_0_0, cond_dtt (by omega), gd_inB (by omega) (by omega), hF, gd_inB (by omega) (by omega), Int.toNat_natCast, (by3 _).1, (by3 _).2, gd_tt, gd_room (by simp; omega) (by simp; omega), gd_room (by simp; omega) (by simp; omega), wi64 (by omega) (by omega)]
    change (bif Sp.ht F k j then Sp.L_14_48_0_0 m k F.2.1 F.2.1.length ((j : Int) + 1) s F q1 q2 q3 q4 v (Sp.rbs F k j ++ _ ++ _) else _) = _
    have e : Sp.rbs F k (j + 1) = if Sp.ht F k j = true then Sp.rbs F k j ++ Sp.rby F j else Sp.rbs F k j := by
      unfold Sp.rbs
      rw [hs_succ]
      split <;> simp
    rw [e, List.append_assoc]
    push_cast
    cases Sp.ht F k j <;> rfl) (fun m => by
    show Sp.L_14_48_0_0 (m + 1) k F.2.1 F.2.1.length F.2.1.length s F q1 q2 q3 q4 v (Sp.rbs F k F.2.1.length) = _
    rw [Sp.L_14_48_0_0, cond_dff (by omega)])
  exact hr
theorem s_rp (hv : Sp.vf F = true) (hF : v.2.1 = F) (hx : IntKind.wrap .i64 x = x) : Sp.J_14_33_1_0 [25, 2, x] s F q1 q2 q3 q4 v = some (.e6 s F q1 q2 q3 q4 v (Sp.rbs F x F.2.1.length)) := by
  unfold Sp.J_14_33_1_0
  rw [show inB (0 : Int) (List.length ([25, 2, x] : List Int)) = true from rfl, gd_tt, show (List.getD ([25, 2, x] : List Int) (0 : Nat) (0 : Int) == (16 : Int)) = false from rfl, cond_f, show (List.getD ([25, 2, x] : List Int) (0 : Nat) (0 : Int) == (17 : Int)) = false from rfl, cond_f, show (List.getD ([25, 2, x] : List Int) (0 : Nat) (0 : Int) == (20 : Int)) = false from rfl, cond_f, show (List.getD ([25, 2, x] : List Int) (0 : Nat) (0 : Int) == (25 : Int)) = true from rfl, cond_t, show inB (2 : Int) (List.length ([25, 2, x] : List Int)) = true from rfl, gd_tt, show List.getD ([25, 2, x] : List Int) (2 : Nat) (0 : Int) = x from rfl, hx, hF, s_rpl hv hF, Sp.B_14_48_0_0]
theorem rq_rp (h : Rq s F now) (hv : Sp.vf F = true) (hx : IntKind.wrap .i64 x = x) : F_14 s F [25, 2, x] now = some (Sp.ded (Sp.tck s now) now, F, Sp.rbs F x F.2.1.length, ()) := by
  rw [rq0 h (by simp) (by simp)]
  unfold Sp.J_14_1
  rw [(tck_pv s now).1, gd_tt, (ln_pv [25, 2, x] (by simp)).1, gd_tt, ln_v [25, 2, x] (by simp), show Sp.ln [25, 2, x] = 3 from rfl, show ((3 : Int) == (0 : Int)) = false from rfl, cond_f, show inB (0 : Int) (List.length ([25, 2, x] : List Int)) = true from rfl, gd_tt, show (List.getD ([25, 2, x] : List Int) (0 : Nat) (0 : Int) == (20 : Int)) = false from rfl, cond_f, gd_tt, show (List.getD ([25, 2, x] : List Int) (0 : Nat) (0 : Int) == (39 : Int)) = false from rfl, cond_f]
  rw [j330 (b := [25, 2, x]) (n := 3) rfl (by simp) rfl, Sp.B_14_33_0_0]
  rw [s_rp (v := ((Sp.v_13 s now).1, F, now, ())) hv rfl hx, Sp.B_14_33_1_0]
  rw [j20, tck_v]
  rfl
end
end Go.Ev
set_option linter.unusedSimpArgs false
set_option linter.unusedVariables false
namespace Go.Ev
open Go
set_option maxRecDepth 100000
set_option maxHeartbeats 4000000
theorem codes_pv {F : FsT} (hs : Sm F) (hv : Sp.vf F = true) {k : Int} (h0 : 0 ≤ k) (h1 : k ≤ 255) : Sp.p_20 F k = true ∧ Sp.v_20 F k = (Sp.rcs F k F.2.1.length, ()) := by
  refine pv_20 F k ?_
  have hq := vf_vq hv
  unfold F_20
  rw [(vf_pv hs).1, (vf_pv hs).2, hv, gd_tt, Bool.not_true, cond_f, (din_pv _ _ _).1, (din_pv _ _ _).2, gd_tt, inr_iff.2 ⟨h0, h1⟩, Bool.not_true, cond_f]
  have hr := run0 (fun m i l => Sp.L_20_0 m k F.2.1 F.2.1.length i F l) (n := F.2.1.length) (fun j => Sp.rcs F k j) (r := some (.e0 (Sp.rcs F k F.2.1.length))) (by have := hq.n; have := hq.l; omega) (fun m j hj => by
    show Sp.L_20_0 (m + 1) k F.2.1 F.2.1.length (j : Int) F (Sp.rcs F k j) = Sp.L_20_0 m k F.2.1 F.2.1.length ((j + 1 : Nat) : Int) F (Sp.rcs F k (j + 1))
    have := hq.n; have := hq.l
    have hl := hs_len F k j
    have hrl : (Sp.rcs F k j).length = (Sp.hs F k j).length := by simp [Sp.rcs]
    rw [Sp.L_20_0, cond_dtt (by omega), gd_inB (by omega) (by omega), gd_inB (by omega) (by omega), Int.toNat_natCast, gd_room (by omega) (by omega), wi64 (by omega) (by omega)]
    change (bif Sp.ht F k j then _ else _) = _
    have e : Sp.rcs F k (j + 1) = if Sp.ht F k j = true then Sp.rcs F k j ++ [Sp.rcd F j] else Sp.rcs F k j := by
      unfold Sp.rcs
      rw [hs_succ]
      split <;> simp
    rw [e]
    push_cast
    cases Sp.ht F k j <;> rfl) (fun m => by
    show Sp.L_20_0 (m + 1) k F.2.1 F.2.1.length F.2.1.length F (Sp.rcs F k F.2.1.length) = _
    rw [Sp.L_20_0, cond_dff (by omega)])
  have e1 : Sp.L_20_0 4611686018427387904 k F.2.1 F.2.1.length 0 F [] = _ := hr
  rw [e1]
  rfl
theorem find_pv {F : FsT} (hs : Sm F) (hv : Sp.vf F = true) {i : Nat} (hi : i < F.1.length) : Sp.p_21 F (Sp.rcd F i) = true ∧ Sp.v_21 F (Sp.rcd F i) = ((i : Int), true, ()) := by
  refine pv_21 F _ ?_
  have hq := vf_vq hv
  have := hq.n
  unfold F_21
  have hf := find0 (fun m j => Sp.L_21_35_0_0 m F.1 F.1.length j F (Sp.rcd F i)) (n := F.1.length) (fun j => Sp.rcd F j == Sp.rcd F i) (ex := fun j => some (.e0 (j : Int) F (Sp.rcd F i))) (e1 := some (.e1 F (Sp.rcd F i))) (by omega) (fun m j hj => by
    show Sp.L_21_35_0_0 (m + 1) F.1 F.1.length j F (Sp.rcd F i) = bif Sp.rcd F j == Sp.rcd F i then some (.e0 (j : Int) F (Sp.rcd F i)) else Sp.L_21_35_0_0 m F.1 F.1.length ((j + 1 : Nat) : Int) F (Sp.rcd F i)
    rw [Sp.L_21_35_0_0, cond_dtt (by omega), gd_inB (by omega) (by omega), Int.toNat_natCast, wi64 (by omega) (by omega)]
    push_cast
    rfl) (fun m => by
    show Sp.L_21_35_0_0 (m + 1) F.1 F.1.length F.1.length F (Sp.rcd F i) = _
    rw [Sp.L_21_35_0_0, cond_dff (by omega)])
  rw [hf]
  cases e : fnd (fun j => Sp.rcd F j == Sp.rcd F i) F.1.length 0 with
  | none =>
    have := (fnd_none.1 e) i (by omega) (by omega)
    simp at this
  | some k =>
    obtain ⟨_, k1, k2, _⟩ := fnd_some e
    have ek : k = i := hq.d k i (by omega) hi (by simpa using k2)
    subst ek
    simp only [Sp.B_21_35_0_0]
    rw [cond_dff (by omega), (vf_pv hs).1, (vf_pv hs).2, hv, gd_tt]
    rfl
theorem or_three {c : Int} (h0 : 0 ≤ c) (h1 : c ≤ 16777215) : Sp.orI .i64 (Sp.orI .i64 (IntKind.wrap .i64 (IntKind.wrap .i64 (IntKind.wrap .u8 (Int.fdiv (Int.fdiv c 256) 256)) * 65536)) (IntKind.wrap .i64 (IntKind.wrap .i64 (IntKind.wrap .u8 (Int.fdiv c 256)) * 256))) (IntKind.wrap .i64 (IntKind.wrap .u8 c)) = c := by
  obtain ⟨n, rfl⟩ := Int.eq_ofNat_of_zero_le h0
  simp only [wu8m, fd8]
  rw [wi64 (n := (n : Int) / 256 / 256 % 256) (by omega) (by omega), wi64 (n := (n : Int) / 256 % 256) (by omega) (by omega), wi64 (n := (n : Int) % 256) (by omega) (by omega), wi64 (by omega) (by omega), wi64 (by omega) (by omega)]
  rw [show (n : Int) / 256 / 256 % 256 * 65536 = ((n / 65536 * 2 ^ 16 : Nat) : Int) by omega, show (n : Int) / 256 % 256 * 256 = ((n / 256 % 256 * 256 : Nat) : Int) by omega, show (n : Int) % 256 = ((n % 256 : Nat) : Int) by omega]
  rw [orI_nat 25 (by decide) (by omega) (by omega), or_add 16 (by omega), show n / 65536 * 2 ^ 16 + n / 256 % 256 * 256 = (n / 256) * 2 ^ 8 by omega, orI_nat 25 (by decide) (by omega) (by omega), or_add 8 (by omega)]
  omega
theorem rp_loop {F : FsT} (hs : Sm F) (hv : Sp.vf F = true) {k : Int} (hk : IntKind.wrap .i64 k = k) : Sp.L_7_0 4611686018427387904 k (Sp.rbs F k F.1.length) (Sp.rcs F k F.1.length) 0 F.1 F.1.length 0 F = some (.e1 (Sp.rcs F k F.1.length) ((Sp.rcs F k F.1.length).length : Nat)) := by
  have hq := vf_vq hv
  have hrl : ∀ j, (Sp.rcs F k j).length = (Sp.hs F k j).length := fun j => by simp [Sp.rcs]
  have hr := run0 (fun m i K => Sp.L_7_0 m k (Sp.rbs F k F.1.length) (Sp.rcs F k F.1.length) K F.1 F.1.length i F) (n := F.1.length) (fun j => ((Sp.hs F k j).length : Int)) (r := some (.e1 (Sp.rcs F k F.1.length) ((Sp.rcs F k F.1.length).length : Nat))) (by have := hq.n; omega) (fun m j hj => by
    show Sp.L_7_0 (m + 1) k (Sp.rbs F k F.1.length) (Sp.rcs F k F.1.length) ((Sp.hs F k j).length : Int) F.1 F.1.length (j : Int) F = Sp.L_7_0 m k (Sp.rbs F k F.1.length) (Sp.rcs F k F.1.length) ((Sp.hs F k (j + 1)).length : Int) F.1 F.1.length ((j + 1 : Nat) : Int) F
    have := hq.n; have := hq.l
    rw [Sp.L_7_0, cond_dtt (by omega), gd_inB (by omega) (by omega), gd_inB (by omega) (by omega), Int.toNat_natCast, hk, wi64 (n := (j : Int) + 1) (by omega) (by omega), hs_succ]
    by_cases hh : Sp.ht F k j = true
    · have hb : ¬ Sp.andI .i64 (F.2.1.getD j Zd1).1 k = 0 := by unfold Sp.ht at hh; simpa using hh
      obtain ⟨r, hr⟩ := hs_split F k hh hj
      have hc := hq.c j hj
      have hst := hq.s j hj
      have hl1 := hs_len F k F.1.length
      have hl2 := hs_len F k j
      have hl3 : (Sp.hs F k F.1.length).length = (Sp.hs F k j).length + 1 + r.length := by rw [hr]; simp; omega
      have g1 : (Sp.rcs F k F.1.length).getD (Sp.hs F k j).length 0 = Sp.rcd F j := by
        unfold Sp.rcs
        rw [hr, List.map_append, List.getD_eq_getElem?_getD, List.getElem?_append_right (by simp)]
        simp
      have g2 : (Sp.rbs F k F.1.length).drop (3 + 4 * (Sp.hs F k j).length) = Sp.rby F j ++ r.flatMap (Sp.rby F) := by
        have e : Sp.rbs F k F.1.length = Sp.rbs F k j ++ (Sp.rby F j ++ r.flatMap (Sp.rby F)) := by
          unfold Sp.rbs
          rw [hr]
          simp
        rw [e, ← rbs_len, List.drop_left]
      have hR := rbs_len F k F.1.length
      rw [cond_eff hb, cond_dff (by rw [hrl]; omega), gd_inB (by omega) (by rw [hrl]; omega), Int.toNat_natCast, g1]
      rw [cond_nff (show Sp.rcd F j = (F.1.getD j Zd0).1 from rfl), wi64 (n := 4 * ((Sp.hs F k j).length : Int)) (by omega) (by omega), wi64 (n := 3 + 4 * ((Sp.hs F k j).length : Int)) (by omega) (by omega), gd_sl3 (by omega) (by omega) (by omega), show Int.toNat (3 + 4 * ((Sp.hs F k j).length : Int)) = 3 + 4 * (Sp.hs F k j).length by omega, g2]
      unfold Sp.rby
      have hf := find_pv hs hv hj
      rw [gd_inB (by decide) (by simp; omega), gd_inB (by decide) (by simp; omega), gd_inB (by decide) (by simp; omega), gd_inB (by decide) (by simp; omega)]
      simp only [List.cons_append, List.getD_cons_zero, List.getD_cons_succ, List.nil_append]
      have hor := or_three (c := Sp.rcd F j) (by omega) hc.2
      rw [hor, cond_nff (show Sp.rcd F j = (F.1.getD j Zd0).1 from rfl), wu8 (n := (F.2.1.getD j Zd1).1) (by omega) (by omega), wi64 (n := (F.2.1.getD j Zd1).1) (by omega) (by omega), cond_nff rfl]
      rw [show (F.1.getD j Zd0).1 = Sp.rcd F j from rfl]
      rw [hf.1, hf.2, gd_tt, Bool.not_true, cond_f, cond_nff rfl, if_pos hh, wi64 (by omega) (by omega), List.length_append, gd_inB (by omega) (by omega)]
      push_cast
      rfl
    · have hb : Sp.andI .i64 (F.2.1.getD j Zd1).1 k = 0 := by unfold Sp.ht at hh; simpa using hh
      rw [cond_ett hb, if_neg hh]
      push_cast
      rfl) (fun m => by
    show Sp.L_7_0 (m + 1) k (Sp.rbs F k F.1.length) (Sp.rcs F k F.1.length) ((Sp.hs F k F.1.length).length : Int) F.1 F.1.length F.1.length F = _
    rw [Sp.L_7_0, cond_dff (by omega), hrl])
  exact hr
theorem plain_7 (F : FsT) (k : Int) (_ : wfD (.pair (.slice (.pair (.int .i64) (.pair (.int .i64) (.pair (.int .i64) (.pair (.int .i64) (.pair (.int .i64) (.pair (.int .i64) (.pair .bool (.pair (.int .i64) .unit))))))))) (.pair (.slice (.pair (.int .i64) (.pair (.int .i64) (.pair (.int .i64) (.pair (.int .i64) (.pair (.int .i64) (.pair (.slice (.int .i64)) (.pair (.int .i64) .unit)))))))) (.pair (.int .i64) (.pair .bool .unit)))) F) (wk : wfD (.int .u8) k) : F_7 F k = some true := by
  simp [wfD, Lit.wf, IntKind.min, IntKind.max, IntKind.signed, IntKind.bits] at wk
  have hk : 0 ≤ k ∧ k ≤ 255 := by omega
  unfold F_7
  rw [aw_pv.1, aw_pv.2, gd_tt, Bool.not_true, cond_f, (few_pv F).1, (few_pv F).2, gd_tt]
  cases hf : Sp.fw F
  · rfl
  have hs := fw_sm hf
  rw [Bool.not_true, cond_f, (vf_pv hs).1, (vf_pv hs).2, gd_tt]
  cases hv : Sp.vf F
  · rfl
  have hq := vf_vq hv
  have hn := hq.n
  have v1 : Sv (1, 0, 0, 0, 0, 0, ()) := sv_iff.1 (by decide)
  have q1 := pv_14 _ _ _ _ (rq_rp (s := (1, 0, 0, 0, 0, 0, ())) (F := F) (now := 5) (x := k) ⟨v1, (vf_pv hs).1, by rw [(vf_pv hs).2, hv], by decide, by decide⟩ hv (wi64 (by omega) (by omega)))
  rw [Bool.not_true, cond_f, new_pv.1, new_pv.2, gd_tt, q1.1, q1.2, gd_tt, wi64 (n := k) (by omega) (by omega), (codes_pv hs hv hk.1 hk.2).1, (codes_pv hs hv hk.1 hk.2).2, gd_tt]
  dsimp only
  rw [(same_pv hs (by omega)).1, (same_pv hs (by omega)).2, gd_tt, Bool.not_true, cond_f, hq.l]
  have hl1 := hs_len F k F.1.length
  have hR := rbs_len F k F.1.length
  have hrl : (Sp.rcs F k F.1.length).length = (Sp.hs F k F.1.length).length := by simp [Sp.rcs]
  rw [wi64 (n := 4 * _) (by omega) (by omega), wi64 (n := 3 + _) (by omega) (by omega), cond_nff (by omega), gd_inB (by decide) (by omega), gd_inB (by decide) (by omega), gd_inB (by decide) (by omega), rp_loop hs hv (wi64 (by omega) (by omega))]
  unfold Sp.rbs
  rw [show List.getD ([89, 2, 31] ++ (Sp.hs F k F.1.length).flatMap (Sp.rby F)) 0 0 = 89 from rfl, cond_nff rfl, show List.getD ([89, 2, 31] ++ (Sp.hs F k F.1.length).flatMap (Sp.rby F)) 1 0 = 2 from rfl, cond_nff rfl, show List.getD ([89, 2, 31] ++ (Sp.hs F k F.1.length).flatMap (Sp.rby F)) 2 0 = 31 from rfl, cond_nff rfl]
  simp only [Sp.B_7_0, beq_self_eq_true]
end Go.Ev
