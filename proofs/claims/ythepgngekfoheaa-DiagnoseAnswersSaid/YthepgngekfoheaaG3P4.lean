/- Helpers: functions of the program as Lean functions, and what they compute. No condition. -/
import Derived.Test.YthepgngekfoheaaE3P2
import Derived.Test.YthepgngekfoheaaG3P0
import Derived.Test.YthepgngekfoheaaE3P3
import Derived.Test.YthepgngekfoheaaG3P2
import Derived.Test.YthepgngekfoheaaG3P3
set_option maxRecDepth 10000
set_option linter.unusedVariables false
set_option linter.unusedSimpArgs false
namespace Go.Ev
open Go
set_option maxRecDepth 100000
set_option maxHeartbeats 4000000
set_option linter.unusedVariables false
noncomputable section

noncomputable def sm_25 : Nat → Option Summ := fun f => bif Nat.beq f 38 then some s_38 else none


noncomputable def F_25 (a0 : (Int × (Int × (Int × (Int × (Int × (Int × (Bool × (Int × Unit))))))))) : Option (Bool × Unit) :=
  gd (Sp.p_38 a0) (some (!(Sp.v_38 a0).1, PUnit.unit))
noncomputable def Sp.p_25 (a0 : (Int × (Int × (Int × (Int × (Int × (Int × (Bool × (Int × Unit))))))))) : Bool := (F_25 a0).isSome
noncomputable def Sp.v_25 (a0 : (Int × (Int × (Int × (Int × (Int × (Int × (Bool × (Int × Unit))))))))) : Bool × Unit := (F_25 a0).getD (dfH [.bool])
noncomputable def s_25 : Summ := shN [(.pair (.int .i64) (.pair (.int .i64) (.pair (.int .i64) (.pair (.int .i64) (.pair (.int .i64) (.pair (.int .i64) (.pair .bool (.pair (.int .i64) .unit))))))))] [.bool] (fun x => Sp.p_25 x.1) (fun x => Sp.v_25 x.1)
end
end Go.Ev
set_option linter.unusedSimpArgs false
set_option linter.unusedVariables false
namespace Go.Ev
open Go
set_option maxRecDepth 100000
set_option maxHeartbeats 4000000
abbrev CfT := Int × Int × Int × Int × Int × Int × Bool × Int × Unit
abbrev FaT := Int × Int × Int × Int × Int × List Int × Int × Unit
abbrev FsT := List CfT × List FaT × Int × Bool × Unit
namespace Sp
noncomputable def inr (x l h : Int) : Bool := decide (x ≥ l) && decide (x ≤ h)
noncomputable def cfg (c : CfT) : Bool := inr c.1 1 16777215 && (inr c.2.1 1 100 && (inr c.2.2.1 1 100 && (inr c.2.2.2.1 1 100 && (inr c.2.2.2.2.1 c.2.2.2.1 255 && (inr c.2.2.2.2.2.1 0 255 && inr c.2.2.2.2.2.2.2.1 0 8)))))
noncomputable def val (x : Int) : Bool := inr x (-1099511627776) 1099511627776
noncomputable def vals (l : List Int) : Bool := (List.range l.length).all fun j => val (l.getD j 0)
/-- A bit of a status. -/
noncomputable def bt (f : FaT) (k : Int) : Bool := andI .i64 f.1 k == k
noncomputable def kno (f : FaT) : Bool := decide (f.2.2.2.2.1 ≥ 1) && (decide (f.2.2.1 ≥ 1) && decide (f.2.2.2.2.2.2.1 ≥ 1))
noncomputable def unk (f : FaT) : Bool := (f.2.2.1 == 0) && ((f.2.2.2.1 == 0) && ((f.2.2.2.2.1 == 0) && (f.2.2.2.2.2.2.1 == 0)))
noncomputable def q2 (f : FaT) : Bool := !(bt f 2 && (f.2.2.2.1 != 0))
noncomputable def q1 (c : CfT) (f : FaT) : Bool := (bt f 4 == (f.2.2.1 == 2)) && (!bt f 16 || (bt f 4 && c.2.2.2.2.2.2.1))
noncomputable def q0 (cyc : Int) (f : FaT) : Bool := !bt f 1 || ((bt f 2 && bt f 8) && (f.2.2.2.2.2.2.1 == cyc))
noncomputable def rngs (c : CfT) (f : FaT) (cyc : Int) : Bool := inr f.1 0 31 && (inr f.2.1 (0 - c.2.2.1) c.2.1 && (inr f.2.2.1 0 2 && (inr f.2.2.2.1 0 (c.2.2.2.2.1 - 1) && (inr f.2.2.2.2.1 0 255 && inr f.2.2.2.2.2.2.1 0 cyc))))
noncomputable def frq (c : CfT) (f : FaT) : Bool := (((f.2.2.2.2.2.1.length : Int) == 0) || ((f.2.2.2.2.2.1.length : Int) == c.2.2.2.2.2.2.2.1)) && vals f.2.2.2.2.2.1
noncomputable def fin (c : CfT) (f : FaT) : Bool := bif bt f 2 || bt f 4 then kno f && ((f.2.2.2.2.2.1.length : Int) == c.2.2.2.2.2.2.2.1) else unk f && ((f.2.2.2.2.2.1.length : Int) == 0)
/-- The state of a fault is valid. -/
noncomputable def rgt (c : CfT) (f : FaT) (cyc : Int) : Bool := rngs c f cyc && (frq c f && ((q0 cyc f && (q1 c f && q2 f)) && fin c f))
end Sp
theorem inr_iff {x l h : Int} : Sp.inr x l h = true ↔ l ≤ x ∧ x ≤ h := by simp [Sp.inr]
theorem wit_ok (x l h : Int) : F_27 x l h = some (Sp.inr x l h, ()) := by
  unfold F_27 Sp.inr
  cases decide (x ≥ l) <;> rfl
theorem wit_pv (x l h : Int) : Sp.p_27 x l h = true ∧ Sp.v_27 x l h = (Sp.inr x l h, ()) := pv_27 x l h (wit_ok x l h)
theorem cfg_ok (c : CfT) : F_38 c = some (Sp.cfg c, ()) := by
  unfold F_38 Sp.cfg
  simp only [wit_pv, gd_tt]
  cases Sp.inr c.1 1 16777215 <;> try rfl
  cases Sp.inr c.2.1 1 100 <;> try rfl
  cases Sp.inr c.2.2.1 1 100 <;> try rfl
  cases Sp.inr c.2.2.2.1 1 100 <;> try rfl
  cases Sp.inr c.2.2.2.2.1 c.2.2.2.1 255 <;> try rfl
  cases Sp.inr c.2.2.2.2.2.1 0 255 <;> rfl
theorem cfg_pv (c : CfT) : Sp.p_38 c = true ∧ Sp.v_38 c = (Sp.cfg c, ()) := pv_38 c (cfg_ok c)
theorem has_pv (f : FaT) (k : Int) : Sp.p_40 f k = true ∧ Sp.v_40 f k = (Sp.bt f k, ()) := pv_40 f k rfl
/-- Bits of small numbers. -/
theorem tab (P : Int → Bool) (h : (List.range 32).all (fun n => P (n : Int)) = true) {s : Int} (h0 : 0 ≤ s) (h1 : s ≤ 31) : P s = true := by
  obtain ⟨n, rfl⟩ := Int.eq_ofNat_of_zero_le h0
  rw [List.all_eq_true] at h
  exact h n (by rw [List.mem_range]; omega)
theorem bt_ne {s : Int} (h0 : 0 ≤ s) (h1 : s ≤ 31) : ((Sp.andI .i64 s 1 != 0) = (Sp.andI .i64 s 1 == 1) ∧ (Sp.andI .i64 s 2 != 0) = (Sp.andI .i64 s 2 == 2) ∧ (Sp.andI .i64 s 4 != 0) = (Sp.andI .i64 s 4 == 4)) ∧ ((Sp.andI .i64 s 8 != 0) = (Sp.andI .i64 s 8 == 8) ∧ (Sp.andI .i64 s 16 != 0) = (Sp.andI .i64 s 16 == 16)) ∧ (Sp.andI .i64 s 10 == 10) = ((Sp.andI .i64 s 2 == 2) && (Sp.andI .i64 s 8 == 8)) ∧ (Sp.andI .i64 s 6 != 0) = ((Sp.andI .i64 s 2 == 2) || (Sp.andI .i64 s 4 == 4)) := by
  have := tab (fun s => ((((Sp.andI .i64 s 1 != 0) == (Sp.andI .i64 s 1 == 1)) && ((Sp.andI .i64 s 2 != 0) == (Sp.andI .i64 s 2 == 2)) && ((Sp.andI .i64 s 4 != 0) == (Sp.andI .i64 s 4 == 4)))) && ((((Sp.andI .i64 s 8 != 0) == (Sp.andI .i64 s 8 == 8)) && ((Sp.andI .i64 s 16 != 0) == (Sp.andI .i64 s 16 == 16)))) && ((Sp.andI .i64 s 10 == 10) == ((Sp.andI .i64 s 2 == 2) && (Sp.andI .i64 s 8 == 8))) && ((Sp.andI .i64 s 6 != 0) == ((Sp.andI .i64 s 2 == 2) || (Sp.andI .i64 s 4 == 4)))) (by decide +kernel) h0 h1
  simp only [Bool.and_eq_true, beq_iff_eq] at this
  exact ⟨⟨this.1.1.1.1.1, this.1.1.1.1.2, this.1.1.1.2⟩, this.1.1.2, this.1.2, this.2⟩
end Go.Ev
set_option linter.unusedSimpArgs false
set_option linter.unusedVariables false
namespace Go.Ev
open Go
set_option maxRecDepth 100000
set_option maxHeartbeats 4000000
theorem fnd_all (P : Nat → Bool) (n : Nat) : (fnd (fun j => !P j) n 0 = none) ↔ (List.range n).all P = true := by
  rw [fnd_none, List.all_eq_true]
  constructor
  · intro h x hx
    have := h x (by omega) (by rw [List.mem_range] at hx; omega)
    simpa using this
  · intro h i _ hi
    rw [h i (by rw [List.mem_range]; omega)]
    rfl
namespace Sp
noncomputable def frm (c : CfT) (l : List Int) : Bool := ((l.length : Int) == c.2.2.2.2.2.2.2.1) && vals l
noncomputable def cfgs (l : List CfT) : Bool := (List.range l.length).all fun j => cfg (l.getD j Zd0)
noncomputable def rgts (F : FsT) : Bool := (List.range F.2.1.length).all fun j => rgt (F.1.getD j Zd0) (F.2.1.getD j Zd1) F.2.2.1
/-- A state is valid. -/
noncomputable def vf (F : FsT) : Bool := decide (F.1.length ≤ 64) && (cfgs F.1 && (dst (F.1.map fun c => c.1) && (((F.2.1.length : Int) == F.1.length) && (inr F.2.2.1 0 1073741824 && ((!F.2.2.2.1 || decide (F.2.2.1 ≥ 1)) && rgts F)))))
end Sp
theorem val_pv (x : Int) : Sp.p_55 x = true ∧ Sp.v_55 x = (Sp.val x, ()) := by
  refine pv_55 x ?_
  unfold F_55
  rw [(wit_pv _ _ _).1, (wit_pv _ _ _).2, gd_tt]
  rfl
theorem frm_ok (c : CfT) (l : List Int) (h : l.length < 4611686018427387904) : F_39 c l = some (Sp.frm c l, ()) := by
  unfold F_39 Sp.frm
  cases (l.length : Int) == c.2.2.2.2.2.2.2.1
  · rfl
  have hf := find0 (fun m i => Sp.L_39_57_0_0 m l l.length i c) (n := l.length) (fun j => !Sp.val (l.getD j 0)) (ex := fun j => some (.e0 (j : Int) c)) (e1 := some (.e1 c)) h (fun m j hj => by
    show Sp.L_39_57_0_0 (m + 1) l l.length j c = bif !Sp.val (l.getD j 0) then some (.e0 (j : Int) c) else Sp.L_39_57_0_0 m l l.length ((j + 1 : Nat) : Int) c
    rw [Sp.L_39_57_0_0, cond_dtt (by omega), gd_inB (by omega) (by omega), Int.toNat_natCast, (val_pv _).1, (val_pv _).2, gd_tt, wi64 (by omega) (by omega)]
    push_cast
    rfl) (fun m => by
    show Sp.L_39_57_0_0 (m + 1) l l.length l.length c = _
    rw [Sp.L_39_57_0_0, cond_dff (by omega)])
  rw [hf, cond_t]
  cases hk : fnd (fun j => !Sp.val (l.getD j 0)) l.length 0 with
  | none =>
    have : Sp.vals l = true := (fnd_all (fun j => Sp.val (l.getD j 0)) l.length).1 hk
    rw [this]
    rfl
  | some k =>
    have : Sp.vals l = false := by
      cases hv : Sp.vals l
      · rfl
      · have := (fnd_all (fun j => Sp.val (l.getD j 0)) l.length).2 hv
        rw [this] at hk; cases hk
    rw [this]
    simp only [Sp.B_39_57_0_0]
    rw [decide_eq_true (by omega)]
    rfl
theorem frm_pv (c : CfT) (l : List Int) (h : l.length < 4611686018427387904) : Sp.p_39 c l = true ∧ Sp.v_39 c l = (Sp.frm c l, ()) := pv_39 c l (frm_ok c l h)
section
variable {c : CfT} {f : FaT} {cyc : Int}
theorem kn_pv (h0 : 0 ≤ f.1) (h1 : f.1 ≤ 31) : Sp.p_41 f = true ∧ Sp.v_41 f = (Sp.bt f 2 || Sp.bt f 4, ()) := by
  refine pv_41 f ?_
  unfold F_41 Sp.bt
  rw [(bt_ne h0 h1).2.2.2]
theorem bt10 (h0 : 0 ≤ f.1) (h1 : f.1 ≤ 31) : Sp.bt f 10 = (Sp.bt f 2 && Sp.bt f 8) := (bt_ne h0 h1).2.2.1
theorem gJ3 (h0 : 0 ≤ f.1) (h1 : f.1 ≤ 31) : Sp.J_28_3 c f = some (bif Sp.bt f 2 || Sp.bt f 4 then (bif Sp.kno f then .e0 c f else .e1) else .e2 c f) := by
  unfold Sp.J_28_3 Sp.kno
  rw [(kn_pv h0 h1).1, (kn_pv h0 h1).2, gd_tt]
  cases Sp.bt f 2 || Sp.bt f 4 <;> try rfl
  cases decide (f.2.2.2.2.1 ≥ 1) <;> try rfl
  cases decide (f.2.2.1 ≥ 1) <;> try rfl
  cases decide (f.2.2.2.2.2.2.1 ≥ 1) <;> rfl
theorem gJ2 (h0 : 0 ≤ f.1) (h1 : f.1 ≤ 31) : Sp.J_28_2 c f = some (bif Sp.q2 f then (bif Sp.bt f 2 || Sp.bt f 4 then (bif Sp.kno f then .e1 c f else .e0) else .e2 c f) else .e0) := by
  unfold Sp.J_28_2 Sp.q2
  simp only [has_pv, gd_tt, gJ3 h0 h1]
  cases Sp.bt f 2 <;> cases f.2.2.2.1 != 0 <;> cases Sp.bt f 4 <;> cases Sp.kno f <;> rfl
theorem gJ1 (h0 : 0 ≤ f.1) (h1 : f.1 ≤ 31) : Sp.J_28_1 c f = some (bif Sp.q1 c f && Sp.q2 f then (bif Sp.bt f 2 || Sp.bt f 4 then (bif Sp.kno f then .e1 c f else .e0) else .e2 c f) else .e0) := by
  unfold Sp.J_28_1 Sp.q1
  simp only [has_pv, gd_tt, gJ2 h0 h1]
  cases Sp.bt f 4 <;> cases f.2.2.1 == 2 <;> cases Sp.bt f 16 <;> cases c.2.2.2.2.2.2.1 <;> cases Sp.q2 f <;> cases Sp.bt f 2 <;> cases Sp.kno f <;> rfl
theorem gJ0 (h0 : 0 ≤ f.1) (h1 : f.1 ≤ 31) : Sp.J_28_0 cyc c f = some (bif Sp.q0 cyc f && (Sp.q1 c f && Sp.q2 f) then (bif Sp.bt f 2 || Sp.bt f 4 then (bif Sp.kno f then .e1 c f else .e0) else bif Sp.unk f then .e2 f else .e0) else .e0) := by
  unfold Sp.J_28_0 Sp.q0 Sp.unk
  simp only [has_pv, gd_tt, gJ1 h0 h1, bt10 h0 h1]
  have hz : ∀ x y : Int, (bif !(x == y) then (some (Sp.E_28_0.e0) : Option Sp.E_28_0) else none) = (bif x != y then some (Sp.E_28_0.e0) else none) := fun _ _ => rfl
  cases e1 : f.2.2.1 == 0 <;> cases e2 : f.2.2.2.1 == 0 <;> cases e3 : f.2.2.2.2.1 == 0 <;> cases e4 : f.2.2.2.2.2.2.1 == 0 <;> cases e5 : f.2.2.2.2.2.2.1 == cyc <;> cases Sp.q1 c f && Sp.q2 f <;> cases Sp.bt f 1 <;> cases Sp.bt f 2 <;> cases Sp.bt f 8 <;> cases Sp.bt f 4 <;> cases Sp.kno f <;> simp only [bne, e1, e2, e3, e4, e5, Sp.B_28_1, Bool.not_true, Bool.not_false, cond_true, cond_false, Bool.and_true, Bool.and_false, Bool.true_and, Bool.false_and, Bool.or_true, Bool.or_false, Bool.true_or, Bool.false_or]
theorem right_ok (hc : Sp.cfg c = true) (hfr : f.2.2.2.2.2.1.length < 4611686018427387904) : F_28 c f cyc = some (Sp.rgt c f cyc, ()) := by
  simp only [Sp.cfg, Bool.and_eq_true, inr_iff] at hc
  unfold F_28 Sp.rgt Sp.rngs
  simp only [wit_pv, gd_tt]
  rw [wi64 (n := 0 - c.2.2.1) (by omega) (by omega), wi64 (n := c.2.2.2.2.1 - 1) (by omega) (by omega)]
  cases h1 : Sp.inr f.1 0 31
  · rfl
  have hb := inr_iff.1 h1
  cases Sp.inr f.2.1 (0 - c.2.2.1) c.2.1
  · rfl
  cases Sp.inr f.2.2.1 0 2
  · rfl
  cases Sp.inr f.2.2.2.1 0 (c.2.2.2.2.1 - 1)
  · rfl
  cases Sp.inr f.2.2.2.2.1 0 255
  · rfl
  cases Sp.inr f.2.2.2.2.2.2.1 0 cyc
  · rfl
  simp only [Bool.not_true, cond_f, Bool.and_true, Bool.true_and]
  simp only [frm_pv _ _ hfr, gd_tt, gJ0 hb.1 hb.2]
  unfold Sp.frq Sp.fin Sp.frm
  by_cases hl : f.2.2.2.2.2.1 = []
  · have hv : Sp.vals f.2.2.2.2.2.1 = true := by rw [hl]; rfl
    have hz : ((f.2.2.2.2.2.1.length : Int) == 0) = true := by rw [hl]; rfl
    rw [cond_dff (by rw [hl]; decide), hv, hz]
    cases e1 : ((f.2.2.2.2.2.1.length : Int) == c.2.2.2.2.2.2.2.1) <;> cases Sp.bt f 2 <;> cases Sp.bt f 4 <;> cases Sp.q0 cyc f && (Sp.q1 c f && Sp.q2 f) <;> cases Sp.kno f <;> cases Sp.unk f <;> simp only [bne, hz, e1, Sp.B_28_0, Bool.not_true, Bool.not_false, cond_true, cond_false, Bool.and_true, Bool.and_false, Bool.true_and, Bool.false_and, Bool.or_true, Bool.or_false, Bool.true_or, Bool.false_or]
  · have hp : 0 < f.2.2.2.2.2.1.length := List.length_pos_iff.2 hl
    have hz : ((f.2.2.2.2.2.1.length : Int) == 0) = false := beq_eq_false_iff_ne.2 (by omega)
    rw [cond_dtt (by omega), hz]
    cases e1 : ((f.2.2.2.2.2.1.length : Int) == c.2.2.2.2.2.2.2.1) <;> cases Sp.vals f.2.2.2.2.2.1 <;> cases Sp.bt f 2 <;> cases Sp.bt f 4 <;> cases Sp.q0 cyc f && (Sp.q1 c f && Sp.q2 f) <;> cases Sp.kno f <;> cases Sp.unk f <;> simp only [bne, hz, e1, Sp.B_28_0, Bool.not_true, Bool.not_false, cond_true, cond_false, Bool.and_true, Bool.and_false, Bool.true_and, Bool.false_and, Bool.or_true, Bool.or_false, Bool.true_or, Bool.false_or]
theorem right_pv (hc : Sp.cfg c = true) (hfr : f.2.2.2.2.2.1.length < 4611686018427387904) : Sp.p_28 c f cyc = true ∧ Sp.v_28 c f cyc = (Sp.rgt c f cyc, ()) := pv_28 c f cyc (right_ok hc hfr)
end
/-- Memory is not great. -/
structure Sm (F : FsT) : Prop where
  l : F.2.1.length < 4611686018427387904
  f : ∀ j, j < F.2.1.length → (F.2.1.getD j Zd1).2.2.2.2.2.1.length < 4611686018427387904
theorem cfgs_at {l : List CfT} (h : Sp.cfgs l = true) {j : Nat} (hj : j < l.length) : Sp.cfg (l.getD j Zd0) = true := by
  unfold Sp.cfgs at h
  rw [List.all_eq_true] at h
  exact h j (by rw [List.mem_range]; exact hj)
theorem vJ0 {F : FsT} (hs : Sm F) (hc : Sp.cfgs F.1 = true) (hl : F.2.1.length = F.1.length) : Sp.J_10_0 F = some (bif Sp.rgts F then .e1 else .e0) := by
  have := all0 (fun m i => Sp.L_10_1 m F.2.1 F.2.1.length i F) (n := F.2.1.length) (fun j => Sp.rgt (F.1.getD j Zd0) (F.2.1.getD j Zd1) F.2.2.1) (e0 := some .e0) (e1 := some .e1) hs.l (fun m j hj => by
    show Sp.L_10_1 (m + 1) F.2.1 F.2.1.length j F = bif Sp.rgt (F.1.getD j Zd0) (F.2.1.getD j Zd1) F.2.2.1 then Sp.L_10_1 m F.2.1 F.2.1.length ((j + 1 : Nat) : Int) F else some .e0
    have hr := right_pv (cyc := F.2.2.1) (cfgs_at hc (j := j) (by omega)) (hs.f j hj)
    rw [Sp.L_10_1, cond_dtt (by omega), gd_inB (by omega) (by omega), gd_inB (by omega) (by omega), Int.toNat_natCast, hr.1, hr.2, gd_tt, wi64 (by have := hs.l; omega) (by have := hs.l; omega)]
    push_cast
    cases Sp.rgt (F.1.getD j Zd0) (F.2.1.getD j Zd1) F.2.2.1 <;> rfl) (fun m => by
    show Sp.L_10_1 (m + 1) F.2.1 F.2.1.length F.2.1.length F = _
    rw [Sp.L_10_1, cond_dff (by omega)])
  unfold Sp.J_10_0
  rw [this]
  unfold Sp.rgts
  cases (List.range F.2.1.length).all fun j => Sp.rgt (F.1.getD j Zd0) (F.2.1.getD j Zd1) F.2.2.1 <;> rfl
theorem vf_ok {F : FsT} (hs : Sm F) : F_10 F = some (Sp.vf F, ()) := by
  unfold F_10 Sp.vf
  by_cases h1 : (F.1.length : Int) > 64
  · rw [cond_dtt h1, decide_eq_false (by omega)]; rfl
  rw [cond_dff h1, decide_eq_true (p := F.1.length ≤ 64) (by omega), Bool.true_and]
  have hf := find0 (fun m i => Sp.L_10_35_0_0 m F.1 F.1.length i F) (n := F.1.length) (fun j => !Sp.cfg (F.1.getD j Zd0)) (ex := fun j => some (.e0 (j : Int) F)) (e1 := some (.e1 F)) (by omega) (fun m j hj => by
    show Sp.L_10_35_0_0 (m + 1) F.1 F.1.length j F = bif !Sp.cfg (F.1.getD j Zd0) then some (.e0 (j : Int) F) else Sp.L_10_35_0_0 m F.1 F.1.length ((j + 1 : Nat) : Int) F
    rw [Sp.L_10_35_0_0, cond_dtt (by omega), gd_inB (by omega) (by omega), Int.toNat_natCast, (cfg_pv _).1, (cfg_pv _).2, gd_tt, wi64 (by omega) (by omega)]
    push_cast
    rfl) (fun m => by
    show Sp.L_10_35_0_0 (m + 1) F.1 F.1.length F.1.length F = _
    rw [Sp.L_10_35_0_0, cond_dff (by omega)])
  rw [hf]
  cases hk : fnd (fun j => !Sp.cfg (F.1.getD j Zd0)) F.1.length 0 with
  | some k =>
    have : Sp.cfgs F.1 = false := by
      cases hv : Sp.cfgs F.1
      · rfl
      · have := (fnd_all (fun j => Sp.cfg (F.1.getD j Zd0)) F.1.length).2 hv
        rw [this] at hk; cases hk
    rw [this]
    simp only [Sp.B_10_35_0_0]
    rw [cond_dtt (by omega)]
    rfl
  | none =>
    have hc : Sp.cfgs F.1 = true := (fnd_all (fun j => Sp.cfg (F.1.getD j Zd0)) F.1.length).1 hk
    rw [hc]
    simp only [Sp.B_10_35_0_0, Bool.true_and]
    have em : (List.map (fun (y : Ty.den CfgTy) => Prod.fst y) F.1) = (F.1.map fun c => c.1) := rfl
    rw [em]
    cases Sp.dst (F.1.map fun c => c.1)
    · rfl
    simp only [Bool.not_true, cond_f, Bool.true_and]
    by_cases hl : (F.2.1.length : Int) = (F.1.length : Int)
    rotate_left
    · rw [cond_ntt hl, beq_eq_false_iff_ne.2 hl]; rfl
    rw [cond_nff hl, beq_iff_eq.2 hl, Bool.true_and, (wit_pv _ _ _).1, (wit_pv _ _ _).2, gd_tt]
    cases Sp.inr F.2.2.1 0 1073741824
    · rfl
    simp only [Bool.not_true, cond_f, Bool.true_and]
    rw [vJ0 hs hc (by omega)]
    cases F.2.2.2.1
    · cases Sp.rgts F <;> rfl
    · by_cases hy : F.2.2.1 < 1
      · rw [cond_t, cond_dtt hy, decide_eq_false (by omega)]
        rfl
      · rw [cond_t, cond_dff hy, decide_eq_true (p := F.2.2.1 ≥ 1) (by omega)]
        cases Sp.rgts F <;> rfl
theorem vf_pv {F : FsT} (hs : Sm F) : Sp.p_10 F = true ∧ Sp.v_10 F = (Sp.vf F, ()) := pv_10 F (vf_ok hs)
end Go.Ev
set_option linter.unusedSimpArgs false
set_option linter.unusedVariables false
namespace Go.Ev
open Go
set_option maxRecDepth 100000
set_option maxHeartbeats 4000000
abbrev SvT := Int × Int × Int × Int × Int × Int × Unit
namespace Sp
noncomputable def sv (s : SvT) : Bool := inr s.1 1 3 && (inr s.2.1 0 65535 && (inr s.2.2.1 0 1 && (inr s.2.2.2.1 0 2 && (inr s.2.2.2.2.1 0 1099521627776 && (inr s.2.2.2.2.2.1 0 1099521627776 && ((s.1 != 1) || ((s.2.1 == 0) && ((s.2.2.1 == 0) && (s.2.2.2.2.2.1 == 0)))))))))
noncomputable def ent (s : SvT) (n : Int) : SvT := if n = 1 then (n, 0, 0, s.2.2.2.1, s.2.2.2.2.1, 0, ()) else (n, 0, 0, s.2.2.2.1, s.2.2.2.2.1, s.2.2.2.2.2.1, ())
noncomputable def tck (s : SvT) (now : Int) : SvT := if sv s = true ∧ inr now 0 1099511627776 = true ∧ ¬ s.1 = 1 ∧ ¬ now < s.2.2.2.2.2.1 then ent s 1 else s
noncomputable def fill : Nat → Int → List Int → List Int
  | 0, _, l => l
  | j + 1, n, l => fill j (Int.fdiv n 256) (l.set j (IntKind.wrap .u8 n))
end Sp
theorem din_pv (x l h : Int) : Sp.p_31 x l h = true ∧ Sp.v_31 x l h = (Sp.inr x l h, ()) := by
  refine pv_31 x l h ?_
  unfold F_31 Sp.inr
  cases decide (x ≥ l) <;> rfl
theorem sv_ok (s : SvT) : F_15 s = some (Sp.sv s, ()) := by
  unfold F_15 Sp.sv
  simp only [din_pv, gd_tt]
  cases Sp.inr s.1 1 3 <;> try rfl
  cases Sp.inr s.2.1 0 65535 <;> try rfl
  cases Sp.inr s.2.2.1 0 1 <;> try rfl
  cases Sp.inr s.2.2.2.1 0 2 <;> try rfl
  cases Sp.inr s.2.2.2.2.1 0 1099521627776 <;> try rfl
  cases Sp.inr s.2.2.2.2.2.1 0 1099521627776 <;> try rfl
  cases s.1 != 1 <;> cases s.2.1 == 0 <;> cases s.2.2.1 == 0 <;> rfl
theorem sv_pv (s : SvT) : Sp.p_15 s = true ∧ Sp.v_15 s = (Sp.sv s, ()) := pv_15 s (sv_ok s)
theorem ent_pv (s : SvT) (n : Int) : Sp.p_32 s n = true ∧ Sp.v_32 s n = (Sp.ent s n, ()) := by
  refine pv_32 s n ?_
  unfold F_32 Sp.ent
  by_cases h : n = 1
  · rw [cond_ett h, if_pos h]
  · rw [cond_eff h, if_neg h]
theorem tck_pv (s : SvT) (now : Int) : Sp.p_13 s now = true ∧ Sp.v_13 s now = (Sp.tck s now, ()) := by
  refine pv_13 s now ?_
  unfold F_13 Sp.tck
  rw [(sv_pv s).1, (sv_pv s).2, gd_tt, (din_pv _ _ _).1, (din_pv _ _ _).2, gd_tt, (ent_pv s 1).1, (ent_pv s 1).2, gd_tt]
  cases h1 : Sp.sv s
  · rw [if_neg (by rintro ⟨h, _⟩; cases h)]; rfl
  cases h2 : Sp.inr now 0 1099511627776
  · rw [if_neg (by rintro ⟨_, h, _⟩; cases h)]; rfl
  simp only [Bool.not_true, cond_f]
  by_cases h3 : s.1 = 1
  · rw [cond_ett h3, if_neg (by rintro ⟨_, _, h, _⟩; exact h h3)]
  rw [cond_eff h3]
  by_cases h4 : now < s.2.2.2.2.2.1
  · rw [cond_dtt h4, if_neg (by rintro ⟨_, _, _, h⟩; exact h h4)]
  · rw [cond_dff h4, if_pos (by simp [h3, h4])]
theorem by_loop : ∀ (j m : Nat) (n : Int) (l : List Int), j ≤ l.length → j ≤ 1000 → j < m → Sp.L_56_0 m n ((j : Int) - 1) l = some (.e0 (Sp.fill j n l))
  | 0, m + 1, n, l, _, _, _ => by
    rw [Sp.L_56_0, cond_dff (by omega)]
    rfl
  | j + 1, m + 1, n, l, hj, hk, hm => by
    rw [Sp.L_56_0, cond_dtt (by omega), gd_inB (by omega) (by omega), show (((j + 1 : Nat) : Int) - 1).toNat = j by omega, Bool.and_true, Bool.and_true, gd_dec (by omega), wi64 (by omega) (by omega), show ((j + 1 : Nat) : Int) - 1 - 1 = (j : Int) - 1 by omega, by_loop j m _ _ (by rw [List.length_set]; omega) (by omega) (by omega)]
    rfl
theorem bytes_pv (n : Int) (k : Nat) (hk : k ≤ 8) : Sp.p_56 n (k : Int) = true ∧ Sp.v_56 n (k : Int) = (Sp.fill k n (List.replicate k 0), ()) := by
  refine pv_56 n (k : Int) ?_
  unfold F_56
  rw [decide_eq_true (by omega), beq_self_eq_true, Int.toNat_natCast, show room k 1 = true from room_ok (by omega) (by omega), Bool.and_true, Bool.and_true, gd_tt, wi64 (by omega) (by omega), by_loop k _ n _ (by simp) (by omega) (by omega)]
  rfl
end Go.Ev
set_option linter.unusedSimpArgs false
set_option linter.unusedVariables false
namespace Go.Ev
open Go
set_option maxRecDepth 100000
set_option maxHeartbeats 4000000
namespace Sp
noncomputable def smf (F : FsT) : Bool := (fnd (fun j => decide (((F.2.1.getD j Zd1).2.2.2.2.2.1.length : Int) > 20)) F.2.1.length 0).isNone
noncomputable def fw (F : FsT) : Bool := decide ((F.1.length : Int) ≤ 70) && (decide ((F.2.1.length : Int) ≤ 70) && smf F)
end Sp
theorem few_pv (F : FsT) : Sp.p_9 F = true ∧ Sp.v_9 F = (Sp.fw F, ()) := by
  refine pv_9 F ?_
  unfold F_9 Sp.fw
  by_cases h1 : (F.1.length : Int) ≤ 70
  rotate_left
  · rw [cond_dff h1, decide_eq_false h1]; rfl
  rw [cond_dtt h1, decide_eq_true h1]
  by_cases h2 : (F.2.1.length : Int) ≤ 70
  rotate_left
  · rw [cond_dff h2, decide_eq_false h2]; rfl
  rw [cond_dtt h2, decide_eq_true h2, Bool.true_and, Bool.true_and]
  have hf := find0 (fun m i => Sp.L_9_37_0_0 m F.2.1 F.2.1.length i F) (n := F.2.1.length) (fun j => decide (((F.2.1.getD j Zd1).2.2.2.2.2.1.length : Int) > 20)) (ex := fun j => some (.e0 (j : Int) F)) (e1 := some (.e1 F)) (by omega) (fun m j hj => by
    show Sp.L_9_37_0_0 (m + 1) F.2.1 F.2.1.length j F = bif decide (((F.2.1.getD j Zd1).2.2.2.2.2.1.length : Int) > 20) then some (.e0 (j : Int) F) else Sp.L_9_37_0_0 m F.2.1 F.2.1.length ((j + 1 : Nat) : Int) F
    rw [Sp.L_9_37_0_0, cond_dtt (by omega), gd_inB (by omega) (by omega), Int.toNat_natCast, wi64 (by omega) (by omega)]
    push_cast
    rfl) (fun m => by
    show Sp.L_9_37_0_0 (m + 1) F.2.1 F.2.1.length F.2.1.length F = _
    rw [Sp.L_9_37_0_0, cond_dff (by omega)])
  rw [hf]
  unfold Sp.smf
  cases fnd (fun j => decide (((F.2.1.getD j Zd1).2.2.2.2.2.1.length : Int) > 20)) F.2.1.length 0 with
  | none => rfl
  | some k =>
    simp only [Sp.B_9_37_0_0, Option.isNone]
    rw [decide_eq_true (by omega)]
    rfl
theorem fw_sm {F : FsT} (h : Sp.fw F = true) : Sm F := by
  simp only [Sp.fw, Bool.and_eq_true, decide_eq_true_eq, Sp.smf, Option.isNone_iff_eq_none, fnd_none, decide_eq_false_iff_not] at h
  refine ⟨by omega, fun j hj => ?_⟩
  have := h.2.2 j (by omega) (by omega)
  omega
/-- A valid state of the server. -/
structure Sv (s : SvT) : Prop where
  s0 : 1 ≤ s.1
  s1 : s.1 ≤ 3
  e0 : 0 ≤ s.2.1
  e1 : s.2.1 ≤ 65535
  l0 : 0 ≤ s.2.2.1
  l1 : s.2.2.1 ≤ 1
  t0 : 0 ≤ s.2.2.2.1
  t1 : s.2.2.2.1 ≤ 2
  u0 : 0 ≤ s.2.2.2.2.1
  u1 : s.2.2.2.2.1 ≤ 1099521627776
  d0 : 0 ≤ s.2.2.2.2.2.1
  d1 : s.2.2.2.2.2.1 ≤ 1099521627776
  z : s.1 = 1 → s.2.1 = 0 ∧ s.2.2.1 = 0 ∧ s.2.2.2.2.2.1 = 0
theorem sv_iff {s : SvT} : Sp.sv s = true ↔ Sv s := by
  unfold Sp.sv
  simp only [Bool.and_eq_true, inr_iff, Bool.or_eq_true, bne_iff_ne, ne_eq, beq_iff_eq]
  constructor
  · rintro ⟨a, b, c, d, e, f, g⟩
    refine ⟨a.1, a.2, b.1, b.2, c.1, c.2, d.1, d.2, e.1, e.2, f.1, f.2, fun h => ?_⟩
    rcases g with g | g
    · exact absurd h g
    · exact g
  · intro h
    refine ⟨⟨h.s0, h.s1⟩, ⟨h.e0, h.e1⟩, ⟨h.l0, h.l1⟩, ⟨h.t0, h.t1⟩, ⟨h.u0, h.u1⟩, ⟨h.d0, h.d1⟩, ?_⟩
    by_cases e : s.1 = 1
    · exact Or.inr (h.z e)
    · exact Or.inl e
theorem ent_sv {s : SvT} {n : Int} (h : Sv s) (h0 : 1 ≤ n) (h1 : n ≤ 3) : Sv (Sp.ent s n) := by
  unfold Sp.ent
  split
  · refine ⟨?_, ?_, ?_, ?_, ?_, ?_, h.t0, h.t1, h.u0, h.u1, ?_, ?_, ?_⟩ <;> dsimp only <;> first | omega | (intro _; exact ⟨rfl, rfl, rfl⟩)
  · refine ⟨?_, ?_, ?_, ?_, ?_, ?_, h.t0, h.t1, h.u0, h.u1, h.d0, h.d1, ?_⟩ <;> dsimp only <;> first | omega | (intro e; omega)
theorem tck_sv {s : SvT} (now : Int) (h : Sv s) : Sv (Sp.tck s now) := by
  unfold Sp.tck
  split
  · exact ent_sv h (by decide) (by decide)
  · exact h
end Go.Ev
set_option linter.unusedSimpArgs false
set_option linter.unusedVariables false
namespace Go.Ev
open Go
set_option maxRecDepth 100000
set_option maxHeartbeats 4000000
abbrev IbT := Int × Bool × Unit
abbrev VvT := SvT × FsT × Int × Unit
namespace Sp
noncomputable def ded (s : SvT) (now : Int) : SvT := (s.1, s.2.1, s.2.2.1, s.2.2.2.1, s.2.2.2.2.1, (if s.1 = 1 then 0 else IntKind.wrap .i64 (now + 5000000)), s.2.2.2.2.2.2)
noncomputable def ln (b : List Int) : Int := bif b.getD 0 0 == 16 then 2 else bif b.getD 0 0 == 17 then 2 else bif b.getD 0 0 == 62 then 2 else bif b.getD 0 0 == 20 then 4 else bif b.getD 0 0 == 25 then 3 else bif b.getD 0 0 == 34 then 3 else bif b.getD 0 0 == 39 then (bif decide ((b.length : Int) > 1) then (bif b.getD 1 0 == 2 then 4 else 2) else 2) else 0
noncomputable def fnc (b : List Int) : Bool := bif b.getD 0 0 == 16 then (bif decide (b.getD 1 0 ≥ 1) then decide (b.getD 1 0 ≤ 3) else false) else bif b.getD 0 0 == 17 then b.getD 1 0 == 1 else bif b.getD 0 0 == 25 then b.getD 1 0 == 2 else bif b.getD 0 0 == 39 then (bif b.getD 1 0 == 1 then true else b.getD 1 0 == 2) else bif b.getD 0 0 == 62 then (bif b.getD 1 0 == 0 then true else b.getD 1 0 == 128) else true
end Sp
theorem rp_pv (b : List Int) : Sp.p_46 b = true ∧ Sp.v_46 b = (b, 0, ()) := pv_46 b rfl
theorem ln_pv (b : List Int) (h : 0 < b.length) : Sp.p_43 b = true ∧ Sp.v_43 b = (Sp.ln b, ()) := by
  refine pv_43 b ?_
  unfold F_43 Sp.ln
  rw [gd_inB (by omega) (by omega)]
  by_cases h1 : (b.length : Int) > 1
  · rw [gd_inB (by omega) (by omega), decide_eq_true h1]
    cases b.getD 0 0 == 16 <;> cases b.getD 0 0 == 17 <;> cases b.getD 0 0 == 62 <;> cases b.getD 0 0 == 20 <;> cases b.getD 0 0 == 25 <;> cases b.getD 0 0 == 34 <;> cases b.getD 0 0 == 39 <;> cases b.getD 1 0 == 2 <;> rfl
  · rw [decide_eq_false h1]
    cases b.getD 0 0 == 16 <;> cases b.getD 0 0 == 17 <;> cases b.getD 0 0 == 62 <;> cases b.getD 0 0 == 20 <;> cases b.getD 0 0 == 25 <;> cases b.getD 0 0 == 34 <;> cases b.getD 0 0 == 39 <;> rfl
theorem fnc_pv (b : List Int) (h : 1 < b.length) : Sp.p_44 b = true ∧ Sp.v_44 b = (Sp.fnc b, ()) := by
  refine pv_44 b ?_
  unfold F_44 Sp.fnc
  simp only [gd_inB (i := (0 : Int)) (n := b.length) (by omega) (by omega), gd_inB (i := (1 : Int)) (n := b.length) (by omega) (by omega)]
  cases b.getD 0 0 == 16 <;> cases b.getD 0 0 == 17 <;> cases b.getD 0 0 == 25 <;> cases b.getD 0 0 == 39 <;> cases b.getD 0 0 == 62 <;> cases decide (b.getD 1 0 ≥ 1) <;> cases b.getD 1 0 == 1 <;> cases b.getD 1 0 == 0 <;> rfl
theorem by1 (n : Int) : Sp.p_56 n 1 = true ∧ Sp.v_56 n 1 = ([IntKind.wrap .u8 n], ()) := bytes_pv n 1 (by omega)
theorem by2 (n : Int) : Sp.p_56 n 2 = true ∧ Sp.v_56 n 2 = ([IntKind.wrap .u8 (Int.fdiv n 256), IntKind.wrap .u8 n], ()) := bytes_pv n 2 (by omega)
theorem by3 (n : Int) : Sp.p_56 n 3 = true ∧ Sp.v_56 n 3 = ([IntKind.wrap .u8 (Int.fdiv (Int.fdiv n 256) 256), IntKind.wrap .u8 (Int.fdiv n 256), IntKind.wrap .u8 n], ()) := bytes_pv n 3 (by omega)
theorem by4 (n : Int) : Sp.p_56 n 4 = true ∧ Sp.v_56 n 4 = ([IntKind.wrap .u8 (Int.fdiv (Int.fdiv (Int.fdiv n 256) 256) 256), IntKind.wrap .u8 (Int.fdiv (Int.fdiv n 256) 256), IntKind.wrap .u8 (Int.fdiv n 256), IntKind.wrap .u8 n], ()) := bytes_pv n 4 (by omega)
section
variable {now : Int} {q1 : SvT} {q2 : IbT} {q3 : List CfT} {q4 : List FaT} {v : VvT} {o b : List Int}
theorem j3 : Sp.J_14_3 now q1 q2 q3 q4 v o = some (.e0 (Sp.ded v.1 now, v.2) o) := by
  unfold Sp.J_14_3 Sp.ded
  by_cases h : v.1.1 = 1
  · rw [cond_nff h, if_pos h]; rfl
  · rw [cond_ntt h, if_neg h]; rfl
theorem j31 : Sp.J_14_3_1 now o q1 q2 q3 q4 v = some (.e0 o (Sp.ded v.1 now, v.2)) := by
  unfold Sp.J_14_3_1 Sp.ded
  by_cases h : v.1.1 = 1
  · rw [cond_nff h, if_pos h]; rfl
  · rw [cond_ntt h, if_neg h]; rfl
/-- A positive answer. -/
theorem j20 : Sp.J_14_2 b now 0 q1 q2 q3 q4 v o = some (.e0 (Sp.ded v.1 now, v.2) o) := by
  unfold Sp.J_14_2
  rw [cond_nff rfl, j3]; rfl
/-- A negative answer. -/
theorem j2n {c : Int} (hc : c ≠ 0) (hb : 0 < b.length) : Sp.J_14_2 b now c q1 q2 q3 q4 v o = some (.e0 (Sp.ded v.1 now, v.2) [127, b.getD 0 0, IntKind.wrap .u8 c]) := by
  unfold Sp.J_14_2
  rw [cond_ntt hc, gd_inB (by omega) (by omega), j3]; rfl
theorem j21 : Sp.J_14_2_1 b now o 0 q1 q2 q3 q4 v = some (.e1 o (Sp.ded v.1 now, v.2)) := by
  unfold Sp.J_14_2_1
  rw [cond_nff rfl, j31]; rfl
theorem j330 {F : FsT} {s : SvT} {n : Int} (h : (b.length : Int) = n) (h1 : 1 < b.length) (hf : Sp.fnc b = true) : Sp.J_14_33_0_0 b n false s F q1 q2 q3 q4 v = some (.e3 b n s F q1 q2 q3 q4 v) := by
  unfold Sp.J_14_33_0_0
  rw [cond_f, cond_nff h, (fnc_pv b h1).1, (fnc_pv b h1).2, gd_tt, hf]; rfl
end
/-- What a request is given. -/
structure Rq (s : SvT) (F : FsT) (now : Int) : Prop where
  s : Sv s
  f : Sp.p_10 F = true
  g : Sp.v_10 F = (true, ())
  n0 : 0 ≤ now
  n1 : now ≤ 1099511627776
theorem rq0 {s : SvT} {F : FsT} {now : Int} {b : List Int} (h : Rq s F now) (hb0 : 1 ≤ b.length) (hb1 : b.length ≤ 1023) :
    F_14 s F b now = Sp.B_14_1 (Sp.J_14_1 b now s F (0, 0, 0, 0, 0, 0, ()) (0, false, ()) [] []) (fun v o => some (v.1, v.2.1, o, ())) (fun o v => some (v.1, v.2.1, o, ())) := by
  unfold F_14
  rw [(sv_pv s).1, (sv_pv s).2, gd_tt, sv_iff.2 h.s, Bool.not_true, cond_f, h.f, h.g, gd_tt, Bool.not_true, cond_f, (din_pv now _ _).1, (din_pv now _ _).2, gd_tt, inr_iff.2 ⟨h.n0, h.n1⟩, Bool.not_true, cond_f,
    (din_pv _ 1 1023).1, (din_pv _ 1 1023).2, gd_tt, inr_iff.2 ⟨by omega, by omega⟩, Bool.not_true]
  rfl
end Go.Ev
set_option linter.unusedSimpArgs false
set_option linter.unusedVariables false
namespace Go.Ev
open Go
set_option maxRecDepth 100000
set_option maxHeartbeats 4000000
theorem tck_v (s : SvT) (now : Int) : (Sp.v_13 s now).1 = Sp.tck s now := by rw [(tck_pv s now).2]
theorem ln_v (b : List Int) (h : 0 < b.length) : (Sp.v_43 b).1 = Sp.ln b := by rw [(ln_pv b h).2]
section
variable {s : SvT} {F : FsT} {now x y : Int} {q1 : SvT} {q2 : IbT} {q3 : List CfT} {q4 : List FaT} {v : VvT}
theorem s_id0 (ho : Sp.orI .i64 (IntKind.wrap .i64 (IntKind.wrap .i64 (List.getD [34, x, y] 1 0) * 256)) (IntKind.wrap .i64 (List.getD [34, x, y] 2 0)) = 256) : Sp.J_14_33_1_0 [34, x, y] s F q1 q2 q3 q4 v = some (.e7 [34, x, y] s F q1 q2 q3 q4 v) := by
  unfold Sp.J_14_33_1_0
  rw [show inB (0 : Int) (List.length ([34, x, y] : List Int)) = true from rfl, gd_tt, show (List.getD ([34, x, y] : List Int) (0 : Nat) (0 : Int) == (16 : Int)) = false from rfl, cond_f, show (List.getD ([34, x, y] : List Int) (0 : Nat) (0 : Int) == (17 : Int)) = false from rfl, cond_f, show (List.getD ([34, x, y] : List Int) (0 : Nat) (0 : Int) == (20 : Int)) = false from rfl, cond_f, show (List.getD ([34, x, y] : List Int) (0 : Nat) (0 : Int) == (25 : Int)) = false from rfl, cond_f, show (List.getD ([34, x, y] : List Int) (0 : Nat) (0 : Int) == (34 : Int)) = true from rfl, cond_t, show inB (1 : Int) (List.length ([34, x, y] : List Int)) = true from rfl, gd_tt, show inB (2 : Int) (List.length ([34, x, y] : List Int)) = true from rfl, gd_tt, ho, show ((256 : Int) == (256 : Int)) = true from rfl, cond_t, (by1 _).1, gd_tt, (by1 _).2, show room (3 + List.length _) 1 = true from rfl, gd_tt]
theorem s_id1 (ho : Sp.orI .i64 (IntKind.wrap .i64 (IntKind.wrap .i64 (List.getD [34, x, y] 1 0) * 256)) (IntKind.wrap .i64 (List.getD [34, x, y] 2 0)) = 257) : Sp.J_14_33_1_0 [34, x, y] s F q1 q2 q3 q4 v = some (.e8 [34, x, y] s F q1 q2 q3 q4 v) := by
  unfold Sp.J_14_33_1_0
  rw [show inB (0 : Int) (List.length ([34, x, y] : List Int)) = true from rfl, gd_tt, show (List.getD ([34, x, y] : List Int) (0 : Nat) (0 : Int) == (16 : Int)) = false from rfl, cond_f, show (List.getD ([34, x, y] : List Int) (0 : Nat) (0 : Int) == (17 : Int)) = false from rfl, cond_f, show (List.getD ([34, x, y] : List Int) (0 : Nat) (0 : Int) == (20 : Int)) = false from rfl, cond_f, show (List.getD ([34, x, y] : List Int) (0 : Nat) (0 : Int) == (25 : Int)) = false from rfl, cond_f, show (List.getD ([34, x, y] : List Int) (0 : Nat) (0 : Int) == (34 : Int)) = true from rfl, cond_t, show inB (1 : Int) (List.length ([34, x, y] : List Int)) = true from rfl, gd_tt, show inB (2 : Int) (List.length ([34, x, y] : List Int)) = true from rfl, gd_tt, ho, show ((257 : Int) == (256 : Int)) = false from rfl, cond_f, show ((257 : Int) == (257 : Int)) = true from rfl, cond_t, (by1 _).1, gd_tt, (by1 _).2, show room (3 + List.length _) 1 = true from rfl, gd_tt]
theorem s_id2 (ho : Sp.orI .i64 (IntKind.wrap .i64 (IntKind.wrap .i64 (List.getD [34, x, y] 1 0) * 256)) (IntKind.wrap .i64 (List.getD [34, x, y] 2 0)) = 258) : Sp.J_14_33_1_0 [34, x, y] s F q1 q2 q3 q4 v = some (.e9 [34, x, y] s F q1 q2 q3 q4 v) := by
  unfold Sp.J_14_33_1_0
  rw [show inB (0 : Int) (List.length ([34, x, y] : List Int)) = true from rfl, gd_tt, show (List.getD ([34, x, y] : List Int) (0 : Nat) (0 : Int) == (16 : Int)) = false from rfl, cond_f, show (List.getD ([34, x, y] : List Int) (0 : Nat) (0 : Int) == (17 : Int)) = false from rfl, cond_f, show (List.getD ([34, x, y] : List Int) (0 : Nat) (0 : Int) == (20 : Int)) = false from rfl, cond_f, show (List.getD ([34, x, y] : List Int) (0 : Nat) (0 : Int) == (25 : Int)) = false from rfl, cond_f, show (List.getD ([34, x, y] : List Int) (0 : Nat) (0 : Int) == (34 : Int)) = true from rfl, cond_t, show inB (1 : Int) (List.length ([34, x, y] : List Int)) = true from rfl, gd_tt, show inB (2 : Int) (List.length ([34, x, y] : List Int)) = true from rfl, gd_tt, ho, show ((258 : Int) == (256 : Int)) = false from rfl, cond_f, show ((258 : Int) == (257 : Int)) = false from rfl, cond_f, show ((258 : Int) == (258 : Int)) = true from rfl, cond_t, (by4 _).1, gd_tt, (by4 _).2, show room (3 + List.length _) 1 = true from rfl, gd_tt]
theorem s_id3 (ho : Sp.orI .i64 (IntKind.wrap .i64 (IntKind.wrap .i64 (List.getD [34, x, y] 1 0) * 256)) (IntKind.wrap .i64 (List.getD [34, x, y] 2 0)) = 259) : Sp.J_14_33_1_0 [34, x, y] s F q1 q2 q3 q4 v = some (.e10 [34, x, y] s F q1 q2 q3 q4 v) := by
  unfold Sp.J_14_33_1_0
  rw [show inB (0 : Int) (List.length ([34, x, y] : List Int)) = true from rfl, gd_tt, show (List.getD ([34, x, y] : List Int) (0 : Nat) (0 : Int) == (16 : Int)) = false from rfl, cond_f, show (List.getD ([34, x, y] : List Int) (0 : Nat) (0 : Int) == (17 : Int)) = false from rfl, cond_f, show (List.getD ([34, x, y] : List Int) (0 : Nat) (0 : Int) == (20 : Int)) = false from rfl, cond_f, show (List.getD ([34, x, y] : List Int) (0 : Nat) (0 : Int) == (25 : Int)) = false from rfl, cond_f, show (List.getD ([34, x, y] : List Int) (0 : Nat) (0 : Int) == (34 : Int)) = true from rfl, cond_t, show inB (1 : Int) (List.length ([34, x, y] : List Int)) = true from rfl, gd_tt, show inB (2 : Int) (List.length ([34, x, y] : List Int)) = true from rfl, gd_tt, ho, show ((259 : Int) == (256 : Int)) = false from rfl, cond_f, show ((259 : Int) == (257 : Int)) = false from rfl, cond_f, show ((259 : Int) == (258 : Int)) = false from rfl, cond_f, show ((259 : Int) == (259 : Int)) = true from rfl, cond_t, (by1 _).1, gd_tt, (by1 _).2, show room (3 + List.length _) 1 = true from rfl, gd_tt]
theorem s_idx (h0 : ¬ Sp.orI .i64 (IntKind.wrap .i64 (IntKind.wrap .i64 (List.getD [34, x, y] 1 0) * 256)) (IntKind.wrap .i64 (List.getD [34, x, y] 2 0)) = 256) (h1 : ¬ Sp.orI .i64 (IntKind.wrap .i64 (IntKind.wrap .i64 (List.getD [34, x, y] 1 0) * 256)) (IntKind.wrap .i64 (List.getD [34, x, y] 2 0)) = 257) (h2 : ¬ Sp.orI .i64 (IntKind.wrap .i64 (IntKind.wrap .i64 (List.getD [34, x, y] 1 0) * 256)) (IntKind.wrap .i64 (List.getD [34, x, y] 2 0)) = 258) (h3 : ¬ Sp.orI .i64 (IntKind.wrap .i64 (IntKind.wrap .i64 (List.getD [34, x, y] 1 0) * 256)) (IntKind.wrap .i64 (List.getD [34, x, y] 2 0)) = 259) : Sp.J_14_33_1_0 [34, x, y] s F q1 q2 q3 q4 v = some (.e11 s F q1 q2 q3 q4 v) := by
  unfold Sp.J_14_33_1_0
  rw [show inB (0 : Int) (List.length ([34, x, y] : List Int)) = true from rfl, gd_tt, show (List.getD ([34, x, y] : List Int) (0 : Nat) (0 : Int) == (16 : Int)) = false from rfl, cond_f, show (List.getD ([34, x, y] : List Int) (0 : Nat) (0 : Int) == (17 : Int)) = false from rfl, cond_f, show (List.getD ([34, x, y] : List Int) (0 : Nat) (0 : Int) == (20 : Int)) = false from rfl, cond_f, show (List.getD ([34, x, y] : List Int) (0 : Nat) (0 : Int) == (25 : Int)) = false from rfl, cond_f, show (List.getD ([34, x, y] : List Int) (0 : Nat) (0 : Int) == (34 : Int)) = true from rfl, cond_t, show inB (1 : Int) (List.length ([34, x, y] : List Int)) = true from rfl, gd_tt, show inB (2 : Int) (List.length ([34, x, y] : List Int)) = true from rfl, gd_tt, cond_eff h0, cond_eff h1, cond_eff h2, cond_eff h3]
theorem rq_id0 (h : Rq s F now) (ho : Sp.orI .i64 (IntKind.wrap .i64 (IntKind.wrap .i64 (List.getD [34, x, y] 1 0) * 256)) (IntKind.wrap .i64 (List.getD [34, x, y] 2 0)) = 256) : F_14 s F [34, x, y] now = some (Sp.ded (Sp.tck s now) now, F, [98, x, y, IntKind.wrap .u8 (Sp.tck s now).1], ()) := by
  rw [rq0 h (by simp) (by simp)]
  unfold Sp.J_14_1
  rw [(tck_pv s now).1, gd_tt, (ln_pv [34, x, y] (by simp)).1, gd_tt, ln_v [34, x, y] (by simp), show Sp.ln [34, x, y] = 3 from rfl, show ((3 : Int) == (0 : Int)) = false from rfl, cond_f, show inB (0 : Int) (List.length ([34, x, y] : List Int)) = true from rfl, gd_tt, show (List.getD ([34, x, y] : List Int) (0 : Nat) (0 : Int) == (20 : Int)) = false from rfl, cond_f, gd_tt, show (List.getD ([34, x, y] : List Int) (0 : Nat) (0 : Int) == (39 : Int)) = false from rfl, cond_f]
  rw [j330 (b := [34, x, y]) (n := 3) rfl (by simp) rfl, Sp.B_14_33_0_0]
  rw [s_id0 ho, Sp.B_14_33_1_0]
  rw [(by1 _).2, j20, tck_v]
  rfl
theorem rq_id1 (h : Rq s F now) (ho : Sp.orI .i64 (IntKind.wrap .i64 (IntKind.wrap .i64 (List.getD [34, x, y] 1 0) * 256)) (IntKind.wrap .i64 (List.getD [34, x, y] 2 0)) = 257) : F_14 s F [34, x, y] now = some (Sp.ded (Sp.tck s now) now, F, [98, x, y, IntKind.wrap .u8 ((F.2.1.length : Nat) : Int)], ()) := by
  rw [rq0 h (by simp) (by simp)]
  unfold Sp.J_14_1
  rw [(tck_pv s now).1, gd_tt, (ln_pv [34, x, y] (by simp)).1, gd_tt, ln_v [34, x, y] (by simp), show Sp.ln [34, x, y] = 3 from rfl, show ((3 : Int) == (0 : Int)) = false from rfl, cond_f, show inB (0 : Int) (List.length ([34, x, y] : List Int)) = true from rfl, gd_tt, show (List.getD ([34, x, y] : List Int) (0 : Nat) (0 : Int) == (20 : Int)) = false from rfl, cond_f, gd_tt, show (List.getD ([34, x, y] : List Int) (0 : Nat) (0 : Int) == (39 : Int)) = false from rfl, cond_f]
  rw [j330 (b := [34, x, y]) (n := 3) rfl (by simp) rfl, Sp.B_14_33_0_0]
  rw [s_id1 ho, Sp.B_14_33_1_0]
  rw [(by1 _).2, j20, tck_v]
  rfl
theorem rq_id2 (h : Rq s F now) (ho : Sp.orI .i64 (IntKind.wrap .i64 (IntKind.wrap .i64 (List.getD [34, x, y] 1 0) * 256)) (IntKind.wrap .i64 (List.getD [34, x, y] 2 0)) = 258) : F_14 s F [34, x, y] now = some (Sp.ded (Sp.tck s now) now, F, [98, x, y, IntKind.wrap .u8 (Int.fdiv (Int.fdiv (Int.fdiv F.2.2.1 256) 256) 256), IntKind.wrap .u8 (Int.fdiv (Int.fdiv F.2.2.1 256) 256), IntKind.wrap .u8 (Int.fdiv F.2.2.1 256), IntKind.wrap .u8 F.2.2.1], ()) := by
  rw [rq0 h (by simp) (by simp)]
  unfold Sp.J_14_1
  rw [(tck_pv s now).1, gd_tt, (ln_pv [34, x, y] (by simp)).1, gd_tt, ln_v [34, x, y] (by simp), show Sp.ln [34, x, y] = 3 from rfl, show ((3 : Int) == (0 : Int)) = false from rfl, cond_f, show inB (0 : Int) (List.length ([34, x, y] : List Int)) = true from rfl, gd_tt, show (List.getD ([34, x, y] : List Int) (0 : Nat) (0 : Int) == (20 : Int)) = false from rfl, cond_f, gd_tt, show (List.getD ([34, x, y] : List Int) (0 : Nat) (0 : Int) == (39 : Int)) = false from rfl, cond_f]
  rw [j330 (b := [34, x, y]) (n := 3) rfl (by simp) rfl, Sp.B_14_33_0_0]
  rw [s_id2 ho, Sp.B_14_33_1_0]
  rw [(by4 _).2, j20, tck_v]
  rfl
theorem rq_id3 (h : Rq s F now) (ho : Sp.orI .i64 (IntKind.wrap .i64 (IntKind.wrap .i64 (List.getD [34, x, y] 1 0) * 256)) (IntKind.wrap .i64 (List.getD [34, x, y] 2 0)) = 259) : F_14 s F [34, x, y] now = some (Sp.ded (Sp.tck s now) now, F, [98, x, y, IntKind.wrap .u8 (Sp.tck s now).2.2.1], ()) := by
  rw [rq0 h (by simp) (by simp)]
  unfold Sp.J_14_1
  rw [(tck_pv s now).1, gd_tt, (ln_pv [34, x, y] (by simp)).1, gd_tt, ln_v [34, x, y] (by simp), show Sp.ln [34, x, y] = 3 from rfl, show ((3 : Int) == (0 : Int)) = false from rfl, cond_f, show inB (0 : Int) (List.length ([34, x, y] : List Int)) = true from rfl, gd_tt, show (List.getD ([34, x, y] : List Int) (0 : Nat) (0 : Int) == (20 : Int)) = false from rfl, cond_f, gd_tt, show (List.getD ([34, x, y] : List Int) (0 : Nat) (0 : Int) == (39 : Int)) = false from rfl, cond_f]
  rw [j330 (b := [34, x, y]) (n := 3) rfl (by simp) rfl, Sp.B_14_33_0_0]
  rw [s_id3 ho, Sp.B_14_33_1_0]
  rw [(by1 _).2, j20, tck_v]
  rfl
theorem rq_idx (h : Rq s F now) (h0 : ¬ Sp.orI .i64 (IntKind.wrap .i64 (IntKind.wrap .i64 (List.getD [34, x, y] 1 0) * 256)) (IntKind.wrap .i64 (List.getD [34, x, y] 2 0)) = 256) (h1 : ¬ Sp.orI .i64 (IntKind.wrap .i64 (IntKind.wrap .i64 (List.getD [34, x, y] 1 0) * 256)) (IntKind.wrap .i64 (List.getD [34, x, y] 2 0)) = 257) (h2 : ¬ Sp.orI .i64 (IntKind.wrap .i64 (IntKind.wrap .i64 (List.getD [34, x, y] 1 0) * 256)) (IntKind.wrap .i64 (List.getD [34, x, y] 2 0)) = 258) (h3 : ¬ Sp.orI .i64 (IntKind.wrap .i64 (IntKind.wrap .i64 (List.getD [34, x, y] 1 0) * 256)) (IntKind.wrap .i64 (List.getD [34, x, y] 2 0)) = 259) : F_14 s F [34, x, y] now = some (Sp.ded (Sp.tck s now) now, F, [127, 34, 49], ()) := by
  rw [rq0 h (by simp) (by simp)]
  unfold Sp.J_14_1
  rw [(tck_pv s now).1, gd_tt, (ln_pv [34, x, y] (by simp)).1, gd_tt, ln_v [34, x, y] (by simp), show Sp.ln [34, x, y] = 3 from rfl, show ((3 : Int) == (0 : Int)) = false from rfl, cond_f, show inB (0 : Int) (List.length ([34, x, y] : List Int)) = true from rfl, gd_tt, show (List.getD ([34, x, y] : List Int) (0 : Nat) (0 : Int) == (20 : Int)) = false from rfl, cond_f, gd_tt, show (List.getD ([34, x, y] : List Int) (0 : Nat) (0 : Int) == (39 : Int)) = false from rfl, cond_f]
  rw [j330 (b := [34, x, y]) (n := 3) rfl (by simp) rfl, Sp.B_14_33_0_0]
  rw [s_idx h0 h1 h2 h3, Sp.B_14_33_1_0]
  rw [j2n (by decide) (by simp), tck_v]
  rfl
theorem s_tp0 : Sp.J_14_33_4_0 [62, 0] s F q1 q2 q3 q4 v = some (.e1 s F q1 q2 q3 q4 v) := by
  unfold Sp.J_14_33_4_0
  rw [show inB (1 : Int) (List.length ([62, 0] : List Int)) = true from rfl, gd_tt, show (List.getD ([62, 0] : List Int) (1 : Nat) (0 : Int) == (128 : Int)) = false from rfl, cond_f, (rp_pv _).1, gd_tt]
theorem s_tp  : Sp.J_14_33_1_0 [62, 0] s F q1 q2 q3 q4 v = some (.e19 s F q1 q2 q3 q4 v) := by
  unfold Sp.J_14_33_1_0
  rw [show inB (0 : Int) (List.length ([62, 0] : List Int)) = true from rfl, gd_tt, show (List.getD ([62, 0] : List Int) (0 : Nat) (0 : Int) == (16 : Int)) = false from rfl, cond_f, show (List.getD ([62, 0] : List Int) (0 : Nat) (0 : Int) == (17 : Int)) = false from rfl, cond_f, show (List.getD ([62, 0] : List Int) (0 : Nat) (0 : Int) == (20 : Int)) = false from rfl, cond_f, show (List.getD ([62, 0] : List Int) (0 : Nat) (0 : Int) == (25 : Int)) = false from rfl, cond_f, show (List.getD ([62, 0] : List Int) (0 : Nat) (0 : Int) == (34 : Int)) = false from rfl, cond_f, show (List.getD ([62, 0] : List Int) (0 : Nat) (0 : Int) == (39 : Int)) = false from rfl, cond_f, s_tp0, Sp.B_14_33_4_0]
theorem rq_tp (h : Rq s F now)  : F_14 s F [62, 0] now = some (Sp.ded (Sp.tck s now) now, F, [126, 0], ()) := by
  rw [rq0 h (by simp) (by simp)]
  unfold Sp.J_14_1
  rw [(tck_pv s now).1, gd_tt, (ln_pv [62, 0] (by simp)).1, gd_tt, ln_v [62, 0] (by simp), show Sp.ln [62, 0] = 2 from rfl, show ((2 : Int) == (0 : Int)) = false from rfl, cond_f, show inB (0 : Int) (List.length ([62, 0] : List Int)) = true from rfl, gd_tt, show (List.getD ([62, 0] : List Int) (0 : Nat) (0 : Int) == (20 : Int)) = false from rfl, cond_f, gd_tt, show (List.getD ([62, 0] : List Int) (0 : Nat) (0 : Int) == (39 : Int)) = false from rfl, cond_f]
  rw [j330 (b := [62, 0]) (n := 2) rfl (by simp) rfl, Sp.B_14_33_0_0]
  rw [s_tp, Sp.B_14_33_1_0]
  rw [(rp_pv _).2, j21, tck_v]
  rfl
theorem s_en2 : Sp.J_14_45_0_0 2 s F q1 q2 q3 q4 v = some (.e0 2 s F q1 q2 q3 q4 v) := by
  unfold Sp.J_14_45_0_0
  rw [(ent_pv _ _).1, gd_tt, (rp_pv _).1, gd_tt]
theorem s_se2 (h1 : ¬ v.1.1 = 1) : Sp.J_14_33_1_0 [16, 2] s F q1 q2 q3 q4 v = some (.e1 2 s F q1 q2 q3 q4 v) := by
  unfold Sp.J_14_33_1_0
  rw [show inB (0 : Int) (List.length ([16, 2] : List Int)) = true from rfl, gd_tt, show (List.getD ([16, 2] : List Int) (0 : Nat) (0 : Int) == (16 : Int)) = true from rfl, cond_t, show inB (1 : Int) (List.length ([16, 2] : List Int)) = true from rfl, gd_tt, show IntKind.wrap .i64 (List.getD ([16, 2] : List Int) (1 : Nat) (0 : Int)) = 2 from rfl, show ((2 : Int) == (2 : Int)) = true from rfl, cond_t, cond_eff h1, s_en2, Sp.B_14_45_0_0]
theorem rq_se2 (h : Rq s F now) (h1 : ¬ (Sp.tck s now).1 = 1) : F_14 s F [16, 2] now = some (Sp.ded (Sp.ent (Sp.tck s now) 2) now, F, [80, 2], ()) := by
  rw [rq0 h (by simp) (by simp)]
  unfold Sp.J_14_1
  rw [(tck_pv s now).1, gd_tt, (ln_pv [16, 2] (by simp)).1, gd_tt, ln_v [16, 2] (by simp), show Sp.ln [16, 2] = 2 from rfl, show ((2 : Int) == (0 : Int)) = false from rfl, cond_f, show inB (0 : Int) (List.length ([16, 2] : List Int)) = true from rfl, gd_tt, show (List.getD ([16, 2] : List Int) (0 : Nat) (0 : Int) == (20 : Int)) = false from rfl, cond_f, gd_tt, show (List.getD ([16, 2] : List Int) (0 : Nat) (0 : Int) == (39 : Int)) = false from rfl, cond_f]
  rw [j330 (b := [16, 2]) (n := 2) rfl (by simp) rfl, Sp.B_14_33_0_0]
  rw [s_se2 (v := ((Sp.v_13 s now).1, F, now, ())) (by rw [tck_v]; exact h1), Sp.B_14_33_1_0]
  rw [(rp_pv _).2, (ent_pv _ _).2, j21, tck_v]
  rfl
theorem s_en3 : Sp.J_14_45_0_0 3 s F q1 q2 q3 q4 v = some (.e0 3 s F q1 q2 q3 q4 v) := by
  unfold Sp.J_14_45_0_0
  rw [(ent_pv _ _).1, gd_tt, (rp_pv _).1, gd_tt]
theorem s_se3  : Sp.J_14_33_1_0 [16, 3] s F q1 q2 q3 q4 v = some (.e1 3 s F q1 q2 q3 q4 v) := by
  unfold Sp.J_14_33_1_0
  rw [show inB (0 : Int) (List.length ([16, 3] : List Int)) = true from rfl, gd_tt, show (List.getD ([16, 3] : List Int) (0 : Nat) (0 : Int) == (16 : Int)) = true from rfl, cond_t, show inB (1 : Int) (List.length ([16, 3] : List Int)) = true from rfl, gd_tt, show IntKind.wrap .i64 (List.getD ([16, 3] : List Int) (1 : Nat) (0 : Int)) = 3 from rfl, show ((3 : Int) == (2 : Int)) = false from rfl, cond_f, s_en3, Sp.B_14_45_0_0]
theorem rq_se3 (h : Rq s F now)  : F_14 s F [16, 3] now = some (Sp.ded (Sp.ent (Sp.tck s now) 3) now, F, [80, 3], ()) := by
  rw [rq0 h (by simp) (by simp)]
  unfold Sp.J_14_1
  rw [(tck_pv s now).1, gd_tt, (ln_pv [16, 3] (by simp)).1, gd_tt, ln_v [16, 3] (by simp), show Sp.ln [16, 3] = 2 from rfl, show ((2 : Int) == (0 : Int)) = false from rfl, cond_f, show inB (0 : Int) (List.length ([16, 3] : List Int)) = true from rfl, gd_tt, show (List.getD ([16, 3] : List Int) (0 : Nat) (0 : Int) == (20 : Int)) = false from rfl, cond_f, gd_tt, show (List.getD ([16, 3] : List Int) (0 : Nat) (0 : Int) == (39 : Int)) = false from rfl, cond_f]
  rw [j330 (b := [16, 3]) (n := 2) rfl (by simp) rfl, Sp.B_14_33_0_0]
  rw [s_se3, Sp.B_14_33_1_0]
  rw [(rp_pv _).2, (ent_pv _ _).2, j21, tck_v]
  rfl
end
end Go.Ev
set_option linter.unusedSimpArgs false
set_option linter.unusedVariables false
namespace Go.Ev
open Go
set_option maxRecDepth 100000
set_option maxHeartbeats 4000000
end Go.Ev
set_option linter.unusedSimpArgs false
set_option linter.unusedVariables false
namespace Go.Ev
open Go
set_option maxRecDepth 100000
set_option maxHeartbeats 4000000
theorem aw : F_8 = some (true, ()) := by kernel_rfl
theorem aw_pv : Sp.p_8 = true ∧ Sp.v_8 = (true, ()) := pv_8 aw
end Go.Ev
set_option linter.unusedSimpArgs false
set_option linter.unusedVariables false
namespace Go.Ev
open Go
set_option maxRecDepth 100000
set_option maxHeartbeats 4000000
namespace Sp
noncomputable def sdn (now : Int) : Int := IntKind.wrap .i64 (1 + Int.tmod (IntKind.wrap .i64 (40503 * now)) 65535)
noncomputable def kyn (x y : Int) : Int := Sp.orI .i64 (IntKind.wrap .i64 (IntKind.wrap .i64 x * 256)) (IntKind.wrap .i64 y)
noncomputable abbrev key (seed level : Int) : Int := (Sp.v_19 seed level).1
/-- A question was asked; a right key; a wrong one. -/
noncomputable def sdA (s : SvT) (now : Int) : SvT := (s.1, sdn now, s.2.2)
noncomputable def sdR (s : SvT) : SvT := (s.1, 0, 1, 0, s.2.2.2.2)
noncomputable def sdW (s : SvT) : SvT := (s.1, 0, s.2.2.1, IntKind.wrap .i64 (s.2.2.2.1 + 1), s.2.2.2.2)
noncomputable def sdX (s : SvT) (now : Int) : SvT := (s.1, 0, s.2.2.1, 0, IntKind.wrap .i64 (now + 10000000), s.2.2.2.2.2)
end Sp
section
variable {s : SvT} {F : FsT} {now x y : Int} {q1 : SvT} {q2 : IbT} {q3 : List CfT} {q4 : List FaT} {v : VvT}
theorem s_sd (hu : ¬ v.2.2.1 < v.1.2.2.2.2.1) (hl : v.1.2.2.1 = 0) : Sp.J_14_50_0_0 s F q1 q2 q3 q4 v = some (.e0 (Sp.sdn v.2.2.1) s F q1 q2 q3 q4 (Sp.sdA v.1 v.2.2.1, v.2)) := by
  unfold Sp.J_14_50_0_0
  rw [cond_ett hl]
  show Sp.B_14_50_1_0 (Sp.J_14_50_1_0 (Sp.sdn v.2.2.1) s F q1 q2 q3 q4 (Sp.sdA v.1 v.2.2.1, v.2)) _ = _
  unfold Sp.J_14_50_1_0
  rw [(by2 _).1, gd_tt, (by2 _).2]
  rfl
theorem s_51 (hk : Sp.p_19 v.1.2.1 1 = true) (K : Int) : Sp.J_14_51_0_0 K s F q1 q2 q3 q4 v = (if K = Sp.key v.1.2.1 1 then some (.e0 s F q1 q2 q3 q4 (Sp.sdR v.1, v.2)) else if (Sp.sdW v.1).2.2.2.1 < 3 then some (.e1 s F q1 q2 q3 q4 (Sp.sdW v.1, v.2)) else some (.e2 s F q1 q2 q3 q4 (Sp.sdW v.1, v.2))) := by
  unfold Sp.J_14_51_0_0
  rw [hk, gd_tt]
  unfold Sp.J_14_51_1_0
  by_cases hK : K = Sp.key v.1.2.1 1
  · rw [if_pos hK, cond_ett hK]
    unfold Sp.J_14_51_2_0
    rw [(rp_pv _).1, gd_tt]
    rfl
  · rw [if_neg hK, cond_eff hK]
    unfold Sp.J_14_51_3_0
    show Sp.B_14_51_1_0 (Sp.B_14_51_3_0 (Sp.B_14_51_4_0 (Sp.J_14_51_4_0 s F q1 q2 q3 q4 (Sp.sdW v.1, v.2)) _ _) _ _) _ _ _ = _
    unfold Sp.J_14_51_4_0
    by_cases h3 : (Sp.sdW v.1).2.2.2.1 < 3
    · rw [if_pos h3, cond_dtt h3]
      rfl
    · rw [if_neg h3, cond_dff h3]
      rfl

theorem s_k0 (h0 : v.1.2.1 = 0) : Sp.J_14_33_3_0 [39, 2, x, y] s F q1 q2 q3 q4 v = some (.e0 s F q1 q2 q3 q4 v) := by
  unfold Sp.J_14_33_3_0
  rw [show inB (2 : Int) (List.length ([39, 2, x, y] : List Int)) = true from rfl, gd_tt, show inB (3 : Int) (List.length ([39, 2, x, y] : List Int)) = true from rfl, gd_tt, cond_ett h0]
theorem s_kr (h0 : ¬ v.1.2.1 = 0) (hk : Sp.p_19 v.1.2.1 1 = true) (hK : Sp.kyn x y = Sp.key v.1.2.1 1) : Sp.J_14_33_3_0 [39, 2, x, y] s F q1 q2 q3 q4 v = some (.e1 s F q1 q2 q3 q4 (Sp.sdR v.1, v.2)) := by
  unfold Sp.J_14_33_3_0
  rw [show inB (2 : Int) (List.length ([39, 2, x, y] : List Int)) = true from rfl, gd_tt, show inB (3 : Int) (List.length ([39, 2, x, y] : List Int)) = true from rfl, gd_tt, cond_eff h0]
  show Sp.B_14_51_0_0 (Sp.J_14_51_0_0 (Sp.kyn x y) s F q1 q2 q3 q4 v) _ _ _ = _
  rw [s_51 hk]
  rw [if_pos hK]
  rfl
theorem s_kw (h0 : ¬ v.1.2.1 = 0) (hk : Sp.p_19 v.1.2.1 1 = true) (hK : ¬ Sp.kyn x y = Sp.key v.1.2.1 1) (h3 : (Sp.sdW v.1).2.2.2.1 < 3) : Sp.J_14_33_3_0 [39, 2, x, y] s F q1 q2 q3 q4 v = some (.e2 s F q1 q2 q3 q4 (Sp.sdW v.1, v.2)) := by
  unfold Sp.J_14_33_3_0
  rw [show inB (2 : Int) (List.length ([39, 2, x, y] : List Int)) = true from rfl, gd_tt, show inB (3 : Int) (List.length ([39, 2, x, y] : List Int)) = true from rfl, gd_tt, cond_eff h0]
  show Sp.B_14_51_0_0 (Sp.J_14_51_0_0 (Sp.kyn x y) s F q1 q2 q3 q4 v) _ _ _ = _
  rw [s_51 hk]
  rw [if_neg hK, if_pos h3]
  rfl
theorem s_kx (h0 : ¬ v.1.2.1 = 0) (hk : Sp.p_19 v.1.2.1 1 = true) (hK : ¬ Sp.kyn x y = Sp.key v.1.2.1 1) (h3 : ¬ (Sp.sdW v.1).2.2.2.1 < 3) : Sp.J_14_33_3_0 [39, 2, x, y] s F q1 q2 q3 q4 v = some (.e3 s F q1 q2 q3 q4 (Sp.sdW v.1, v.2)) := by
  unfold Sp.J_14_33_3_0
  rw [show inB (2 : Int) (List.length ([39, 2, x, y] : List Int)) = true from rfl, gd_tt, show inB (3 : Int) (List.length ([39, 2, x, y] : List Int)) = true from rfl, gd_tt, cond_eff h0]
  show Sp.B_14_51_0_0 (Sp.J_14_51_0_0 (Sp.kyn x y) s F q1 q2 q3 q4 v) _ _ _ = _
  rw [s_51 hk]
  rw [if_neg hK, if_neg h3]
  rfl
theorem s_q1 (hu : ¬ v.2.2.1 < v.1.2.2.2.2.1) (hl : v.1.2.2.1 = 0) : Sp.J_14_33_1_0 [39, 1] s F q1 q2 q3 q4 v = some (.e13 (Sp.sdn v.2.2.1) s F q1 q2 q3 q4 (Sp.sdA v.1 v.2.2.1, v.2)) := by
  unfold Sp.J_14_33_1_0
  rw [show inB (0 : Int) (List.length ([39, 1] : List Int)) = true from rfl, gd_tt, show (List.getD ([39, 1] : List Int) (0 : Nat) (0 : Int) == (16 : Int)) = false from rfl, cond_f, show (List.getD ([39, 1] : List Int) (0 : Nat) (0 : Int) == (17 : Int)) = false from rfl, cond_f, show (List.getD ([39, 1] : List Int) (0 : Nat) (0 : Int) == (20 : Int)) = false from rfl, cond_f, show (List.getD ([39, 1] : List Int) (0 : Nat) (0 : Int) == (25 : Int)) = false from rfl, cond_f, show (List.getD ([39, 1] : List Int) (0 : Nat) (0 : Int) == (34 : Int)) = false from rfl, cond_f, show (List.getD ([39, 1] : List Int) (0 : Nat) (0 : Int) == (39 : Int)) = true from rfl, cond_t, show inB (1 : Int) (List.length ([39, 1] : List Int)) = true from rfl, gd_tt, show (List.getD ([39, 1] : List Int) (1 : Nat) (0 : Int) == (1 : Int)) = true from rfl, cond_t, cond_dff hu, s_sd hu hl, Sp.B_14_50_0_0]
theorem s_q0 (hu : v.2.2.1 < v.1.2.2.2.2.1) : Sp.J_14_33_1_0 [39, 1] s F q1 q2 q3 q4 v = some (.e12 s F q1 q2 q3 q4 v) := by
  unfold Sp.J_14_33_1_0
  rw [show inB (0 : Int) (List.length ([39, 1] : List Int)) = true from rfl, gd_tt, show (List.getD ([39, 1] : List Int) (0 : Nat) (0 : Int) == (16 : Int)) = false from rfl, cond_f, show (List.getD ([39, 1] : List Int) (0 : Nat) (0 : Int) == (17 : Int)) = false from rfl, cond_f, show (List.getD ([39, 1] : List Int) (0 : Nat) (0 : Int) == (20 : Int)) = false from rfl, cond_f, show (List.getD ([39, 1] : List Int) (0 : Nat) (0 : Int) == (25 : Int)) = false from rfl, cond_f, show (List.getD ([39, 1] : List Int) (0 : Nat) (0 : Int) == (34 : Int)) = false from rfl, cond_f, show (List.getD ([39, 1] : List Int) (0 : Nat) (0 : Int) == (39 : Int)) = true from rfl, cond_t, show inB (1 : Int) (List.length ([39, 1] : List Int)) = true from rfl, gd_tt, show (List.getD ([39, 1] : List Int) (1 : Nat) (0 : Int) == (1 : Int)) = true from rfl, cond_t, cond_dtt hu]
theorem s_y0 (h0 : v.1.2.1 = 0) : Sp.J_14_33_1_0 [39, 2, x, y] s F q1 q2 q3 q4 v = some (.e14 s F q1 q2 q3 q4 v) := by
  unfold Sp.J_14_33_1_0
  rw [show inB (0 : Int) (List.length ([39, 2, x, y] : List Int)) = true from rfl, gd_tt, show (List.getD ([39, 2, x, y] : List Int) (0 : Nat) (0 : Int) == (16 : Int)) = false from rfl, cond_f, show (List.getD ([39, 2, x, y] : List Int) (0 : Nat) (0 : Int) == (17 : Int)) = false from rfl, cond_f, show (List.getD ([39, 2, x, y] : List Int) (0 : Nat) (0 : Int) == (20 : Int)) = false from rfl, cond_f, show (List.getD ([39, 2, x, y] : List Int) (0 : Nat) (0 : Int) == (25 : Int)) = false from rfl, cond_f, show (List.getD ([39, 2, x, y] : List Int) (0 : Nat) (0 : Int) == (34 : Int)) = false from rfl, cond_f, show (List.getD ([39, 2, x, y] : List Int) (0 : Nat) (0 : Int) == (39 : Int)) = true from rfl, cond_t, show inB (1 : Int) (List.length ([39, 2, x, y] : List Int)) = true from rfl, gd_tt, show (List.getD ([39, 2, x, y] : List Int) (1 : Nat) (0 : Int) == (1 : Int)) = false from rfl, cond_f, s_k0 h0, Sp.B_14_33_3_0]
theorem s_yr (h0 : ¬ v.1.2.1 = 0) (hk : Sp.p_19 v.1.2.1 1 = true) (hK : Sp.kyn x y = Sp.key v.1.2.1 1) : Sp.J_14_33_1_0 [39, 2, x, y] s F q1 q2 q3 q4 v = some (.e15 s F q1 q2 q3 q4 (Sp.sdR v.1, v.2)) := by
  unfold Sp.J_14_33_1_0
  rw [show inB (0 : Int) (List.length ([39, 2, x, y] : List Int)) = true from rfl, gd_tt, show (List.getD ([39, 2, x, y] : List Int) (0 : Nat) (0 : Int) == (16 : Int)) = false from rfl, cond_f, show (List.getD ([39, 2, x, y] : List Int) (0 : Nat) (0 : Int) == (17 : Int)) = false from rfl, cond_f, show (List.getD ([39, 2, x, y] : List Int) (0 : Nat) (0 : Int) == (20 : Int)) = false from rfl, cond_f, show (List.getD ([39, 2, x, y] : List Int) (0 : Nat) (0 : Int) == (25 : Int)) = false from rfl, cond_f, show (List.getD ([39, 2, x, y] : List Int) (0 : Nat) (0 : Int) == (34 : Int)) = false from rfl, cond_f, show (List.getD ([39, 2, x, y] : List Int) (0 : Nat) (0 : Int) == (39 : Int)) = true from rfl, cond_t, show inB (1 : Int) (List.length ([39, 2, x, y] : List Int)) = true from rfl, gd_tt, show (List.getD ([39, 2, x, y] : List Int) (1 : Nat) (0 : Int) == (1 : Int)) = false from rfl, cond_f, s_kr h0 hk hK, Sp.B_14_33_3_0]
theorem s_yw (h0 : ¬ v.1.2.1 = 0) (hk : Sp.p_19 v.1.2.1 1 = true) (hK : ¬ Sp.kyn x y = Sp.key v.1.2.1 1) (h3 : (Sp.sdW v.1).2.2.2.1 < 3) : Sp.J_14_33_1_0 [39, 2, x, y] s F q1 q2 q3 q4 v = some (.e16 s F q1 q2 q3 q4 (Sp.sdW v.1, v.2)) := by
  unfold Sp.J_14_33_1_0
  rw [show inB (0 : Int) (List.length ([39, 2, x, y] : List Int)) = true from rfl, gd_tt, show (List.getD ([39, 2, x, y] : List Int) (0 : Nat) (0 : Int) == (16 : Int)) = false from rfl, cond_f, show (List.getD ([39, 2, x, y] : List Int) (0 : Nat) (0 : Int) == (17 : Int)) = false from rfl, cond_f, show (List.getD ([39, 2, x, y] : List Int) (0 : Nat) (0 : Int) == (20 : Int)) = false from rfl, cond_f, show (List.getD ([39, 2, x, y] : List Int) (0 : Nat) (0 : Int) == (25 : Int)) = false from rfl, cond_f, show (List.getD ([39, 2, x, y] : List Int) (0 : Nat) (0 : Int) == (34 : Int)) = false from rfl, cond_f, show (List.getD ([39, 2, x, y] : List Int) (0 : Nat) (0 : Int) == (39 : Int)) = true from rfl, cond_t, show inB (1 : Int) (List.length ([39, 2, x, y] : List Int)) = true from rfl, gd_tt, show (List.getD ([39, 2, x, y] : List Int) (1 : Nat) (0 : Int) == (1 : Int)) = false from rfl, cond_f, s_kw h0 hk hK h3, Sp.B_14_33_3_0]
theorem s_yx (h0 : ¬ v.1.2.1 = 0) (hk : Sp.p_19 v.1.2.1 1 = true) (hK : ¬ Sp.kyn x y = Sp.key v.1.2.1 1) (h3 : ¬ (Sp.sdW v.1).2.2.2.1 < 3) : Sp.J_14_33_1_0 [39, 2, x, y] s F q1 q2 q3 q4 v = some (.e17 s F q1 q2 q3 q4 (Sp.sdW v.1, v.2)) := by
  unfold Sp.J_14_33_1_0
  rw [show inB (0 : Int) (List.length ([39, 2, x, y] : List Int)) = true from rfl, gd_tt, show (List.getD ([39, 2, x, y] : List Int) (0 : Nat) (0 : Int) == (16 : Int)) = false from rfl, cond_f, show (List.getD ([39, 2, x, y] : List Int) (0 : Nat) (0 : Int) == (17 : Int)) = false from rfl, cond_f, show (List.getD ([39, 2, x, y] : List Int) (0 : Nat) (0 : Int) == (20 : Int)) = false from rfl, cond_f, show (List.getD ([39, 2, x, y] : List Int) (0 : Nat) (0 : Int) == (25 : Int)) = false from rfl, cond_f, show (List.getD ([39, 2, x, y] : List Int) (0 : Nat) (0 : Int) == (34 : Int)) = false from rfl, cond_f, show (List.getD ([39, 2, x, y] : List Int) (0 : Nat) (0 : Int) == (39 : Int)) = true from rfl, cond_t, show inB (1 : Int) (List.length ([39, 2, x, y] : List Int)) = true from rfl, gd_tt, show (List.getD ([39, 2, x, y] : List Int) (1 : Nat) (0 : Int) == (1 : Int)) = false from rfl, cond_f, s_kx h0 hk hK h3, Sp.B_14_33_3_0]
theorem rq_q1 (h : Rq s F now) (h1 : ¬ (Sp.tck s now).1 = 1) (hu : ¬ now < (Sp.tck s now).2.2.2.2.1) (hl : (Sp.tck s now).2.2.1 = 0) : F_14 s F [39, 1] now = some (Sp.ded (Sp.sdA (Sp.tck s now) now) now, F, [103, 1, IntKind.wrap .u8 (Int.fdiv (Sp.sdn now) 256), IntKind.wrap .u8 (Sp.sdn now)], ()) := by
  rw [rq0 h (by simp) (by simp)]
  unfold Sp.J_14_1
  rw [(tck_pv s now).1, gd_tt, (ln_pv [39, 1] (by simp)).1, gd_tt, ln_v [39, 1] (by simp), show Sp.ln [39, 1] = 2 from rfl, show ((2 : Int) == (0 : Int)) = false from rfl, cond_f, show inB (0 : Int) (List.length ([39, 1] : List Int)) = true from rfl, gd_tt, show (List.getD ([39, 1] : List Int) (0 : Nat) (0 : Int) == (20 : Int)) = false from rfl, cond_f, gd_tt, show (List.getD ([39, 1] : List Int) (0 : Nat) (0 : Int) == (39 : Int)) = true from rfl, cond_t, tck_v, show ((Sp.tck s now).1 == (1 : Int)) = false from by simpa using h1]
  rw [j330 (b := [39, 1]) (n := 2) rfl (by simp) rfl, Sp.B_14_33_0_0]
  rw [s_q1 (v := (Sp.tck s now, F, now, ())) hu hl, Sp.B_14_33_1_0]
  rw [(by2 _).2, j20]
  rfl
theorem rq_q0 (h : Rq s F now) (h1 : ¬ (Sp.tck s now).1 = 1) (hu : now < (Sp.tck s now).2.2.2.2.1) : F_14 s F [39, 1] now = some (Sp.ded ((Sp.tck s now)) now, F, [127, 39, 55], ()) := by
  rw [rq0 h (by simp) (by simp)]
  unfold Sp.J_14_1
  rw [(tck_pv s now).1, gd_tt, (ln_pv [39, 1] (by simp)).1, gd_tt, ln_v [39, 1] (by simp), show Sp.ln [39, 1] = 2 from rfl, show ((2 : Int) == (0 : Int)) = false from rfl, cond_f, show inB (0 : Int) (List.length ([39, 1] : List Int)) = true from rfl, gd_tt, show (List.getD ([39, 1] : List Int) (0 : Nat) (0 : Int) == (20 : Int)) = false from rfl, cond_f, gd_tt, show (List.getD ([39, 1] : List Int) (0 : Nat) (0 : Int) == (39 : Int)) = true from rfl, cond_t, tck_v, show ((Sp.tck s now).1 == (1 : Int)) = false from by simpa using h1]
  rw [j330 (b := [39, 1]) (n := 2) rfl (by simp) rfl, Sp.B_14_33_0_0]
  rw [s_q0 (v := (Sp.tck s now, F, now, ())) hu, Sp.B_14_33_1_0]
  rw [j2n (by decide) (by simp)]
  rfl
theorem rq_y0 (h : Rq s F now) (h1 : ¬ (Sp.tck s now).1 = 1) (h0 : (Sp.tck s now).2.1 = 0) : F_14 s F [39, 2, x, y] now = some (Sp.ded ((Sp.tck s now)) now, F, [127, 39, 36], ()) := by
  rw [rq0 h (by simp) (by simp)]
  unfold Sp.J_14_1
  rw [(tck_pv s now).1, gd_tt, (ln_pv [39, 2, x, y] (by simp)).1, gd_tt, ln_v [39, 2, x, y] (by simp), show Sp.ln [39, 2, x, y] = 4 from rfl, show ((4 : Int) == (0 : Int)) = false from rfl, cond_f, show inB (0 : Int) (List.length ([39, 2, x, y] : List Int)) = true from rfl, gd_tt, show (List.getD ([39, 2, x, y] : List Int) (0 : Nat) (0 : Int) == (20 : Int)) = false from rfl, cond_f, gd_tt, show (List.getD ([39, 2, x, y] : List Int) (0 : Nat) (0 : Int) == (39 : Int)) = true from rfl, cond_t, tck_v, show ((Sp.tck s now).1 == (1 : Int)) = false from by simpa using h1]
  rw [j330 (b := [39, 2, x, y]) (n := 4) rfl (by simp) rfl, Sp.B_14_33_0_0]
  rw [s_y0 (v := (Sp.tck s now, F, now, ())) h0, Sp.B_14_33_1_0]
  rw [j2n (by decide) (by simp)]
  rfl
theorem rq_yr (h : Rq s F now) (h1 : ¬ (Sp.tck s now).1 = 1) (h0 : ¬ (Sp.tck s now).2.1 = 0) (hk : Sp.p_19 (Sp.tck s now).2.1 1 = true) (hK : Sp.kyn x y = Sp.key (Sp.tck s now).2.1 1) : F_14 s F [39, 2, x, y] now = some (Sp.ded (Sp.sdR (Sp.tck s now)) now, F, [103, 2], ()) := by
  rw [rq0 h (by simp) (by simp)]
  unfold Sp.J_14_1
  rw [(tck_pv s now).1, gd_tt, (ln_pv [39, 2, x, y] (by simp)).1, gd_tt, ln_v [39, 2, x, y] (by simp), show Sp.ln [39, 2, x, y] = 4 from rfl, show ((4 : Int) == (0 : Int)) = false from rfl, cond_f, show inB (0 : Int) (List.length ([39, 2, x, y] : List Int)) = true from rfl, gd_tt, show (List.getD ([39, 2, x, y] : List Int) (0 : Nat) (0 : Int) == (20 : Int)) = false from rfl, cond_f, gd_tt, show (List.getD ([39, 2, x, y] : List Int) (0 : Nat) (0 : Int) == (39 : Int)) = true from rfl, cond_t, tck_v, show ((Sp.tck s now).1 == (1 : Int)) = false from by simpa using h1]
  rw [j330 (b := [39, 2, x, y]) (n := 4) rfl (by simp) rfl, Sp.B_14_33_0_0]
  rw [s_yr (v := (Sp.tck s now, F, now, ())) h0 hk hK, Sp.B_14_33_1_0]
  rw [(rp_pv _).2, j21]
  rfl
theorem rq_yw (h : Rq s F now) (h1 : ¬ (Sp.tck s now).1 = 1) (h0 : ¬ (Sp.tck s now).2.1 = 0) (hk : Sp.p_19 (Sp.tck s now).2.1 1 = true) (hK : ¬ Sp.kyn x y = Sp.key (Sp.tck s now).2.1 1) (h3 : (Sp.sdW (Sp.tck s now)).2.2.2.1 < 3) : F_14 s F [39, 2, x, y] now = some (Sp.ded (Sp.sdW (Sp.tck s now)) now, F, [127, 39, 53], ()) := by
  rw [rq0 h (by simp) (by simp)]
  unfold Sp.J_14_1
  rw [(tck_pv s now).1, gd_tt, (ln_pv [39, 2, x, y] (by simp)).1, gd_tt, ln_v [39, 2, x, y] (by simp), show Sp.ln [39, 2, x, y] = 4 from rfl, show ((4 : Int) == (0 : Int)) = false from rfl, cond_f, show inB (0 : Int) (List.length ([39, 2, x, y] : List Int)) = true from rfl, gd_tt, show (List.getD ([39, 2, x, y] : List Int) (0 : Nat) (0 : Int) == (20 : Int)) = false from rfl, cond_f, gd_tt, show (List.getD ([39, 2, x, y] : List Int) (0 : Nat) (0 : Int) == (39 : Int)) = true from rfl, cond_t, tck_v, show ((Sp.tck s now).1 == (1 : Int)) = false from by simpa using h1]
  rw [j330 (b := [39, 2, x, y]) (n := 4) rfl (by simp) rfl, Sp.B_14_33_0_0]
  rw [s_yw (v := (Sp.tck s now, F, now, ())) h0 hk hK h3, Sp.B_14_33_1_0]
  rw [j2n (by decide) (by simp)]
  rfl
theorem rq_yx (h : Rq s F now) (h1 : ¬ (Sp.tck s now).1 = 1) (h0 : ¬ (Sp.tck s now).2.1 = 0) (hk : Sp.p_19 (Sp.tck s now).2.1 1 = true) (hK : ¬ Sp.kyn x y = Sp.key (Sp.tck s now).2.1 1) (h3 : ¬ (Sp.sdW (Sp.tck s now)).2.2.2.1 < 3) : F_14 s F [39, 2, x, y] now = some (Sp.ded (Sp.sdX (Sp.tck s now) now) now, F, [127, 39, 54], ()) := by
  rw [rq0 h (by simp) (by simp)]
  unfold Sp.J_14_1
  rw [(tck_pv s now).1, gd_tt, (ln_pv [39, 2, x, y] (by simp)).1, gd_tt, ln_v [39, 2, x, y] (by simp), show Sp.ln [39, 2, x, y] = 4 from rfl, show ((4 : Int) == (0 : Int)) = false from rfl, cond_f, show inB (0 : Int) (List.length ([39, 2, x, y] : List Int)) = true from rfl, gd_tt, show (List.getD ([39, 2, x, y] : List Int) (0 : Nat) (0 : Int) == (20 : Int)) = false from rfl, cond_f, gd_tt, show (List.getD ([39, 2, x, y] : List Int) (0 : Nat) (0 : Int) == (39 : Int)) = true from rfl, cond_t, tck_v, show ((Sp.tck s now).1 == (1 : Int)) = false from by simpa using h1]
  rw [j330 (b := [39, 2, x, y]) (n := 4) rfl (by simp) rfl, Sp.B_14_33_0_0]
  rw [s_yx (v := (Sp.tck s now, F, now, ())) h0 hk hK h3, Sp.B_14_33_1_0]
  rw [j2n (by decide) (by simp)]
  rfl
end
end Go.Ev
set_option linter.unusedSimpArgs false
set_option linter.unusedVariables false
namespace Go.Ev
open Go
set_option maxRecDepth 100000
set_option maxHeartbeats 4000000
theorem andI_lo (x : Int) : 0 ≤ Sp.andI .i64 x 65535 ∧ Sp.andI .i64 x 65535 ≤ 65535 := by
  unfold Sp.andI
  have h : (BitVec.ofInt IntKind.i64.bits x &&& BitVec.ofInt IntKind.i64.bits 65535).toNat ≤ 65535 := by
    rw [BitVec.toNat_and]
    exact Nat.and_le_right
  have e : IntKind.wrap .i64 ((BitVec.ofInt IntKind.i64.bits x &&& BitVec.ofInt IntKind.i64.bits 65535).toNat : Int) = ((BitVec.ofInt IntKind.i64.bits x &&& BitVec.ofInt IntKind.i64.bits 65535).toNat : Int) := wi64 (by omega) (by omega)
  first | (rw [e]; omega) | omega
theorem key_ok {seed : Int} (h0 : 0 ≤ seed) (h1 : seed ≤ 65535) : Sp.p_19 seed 1 = true ∧ 0 ≤ Sp.key seed 1 ∧ Sp.key seed 1 ≤ 65535 := by
  have hF : ∃ z, F_19 seed 1 = some (z, ()) ∧ 0 ≤ z ∧ z ≤ 65535 := by
    unfold F_19
    rw [(din_pv _ _ _).1, (din_pv _ _ _).2, gd_tt, inr_iff.2 ⟨h0, h1⟩, Bool.not_true, cond_f, (din_pv _ _ _).1, (din_pv _ _ _).2, gd_tt, inr_iff.2 ⟨by decide, by decide⟩, Bool.not_true, cond_f]
    exact ⟨_, rfl, andI_lo _⟩
  obtain ⟨z, hz, a, b⟩ := hF
  have hq := pv_19 _ _ hz
  refine ⟨hq.1, ?_⟩
  rw [Sp.key, hq.2]
  exact ⟨a, b⟩
end Go.Ev
set_option linter.unusedSimpArgs false
set_option linter.unusedVariables false
namespace Go.Ev
open Go
set_option maxRecDepth 100000
set_option maxHeartbeats 4000000
abbrev Fz : FsT := ([], [], (0 : Int), false, ())
theorem new_pv : Sp.p_12 = true ∧ Sp.v_12 = ((1, 0, 0, 0, 0, 0, ()), ()) := pv_12 rfl
theorem ded_sv {s : SvT} {now : Int} (h : Sv s) (h0 : 0 ≤ now) (h1 : now ≤ 1099511627776 - 5000000) : Sv (Sp.ded s now) := by
  unfold Sp.ded
  refine ⟨h.s0, h.s1, h.e0, h.e1, h.l0, h.l1, h.t0, h.t1, h.u0, h.u1, ?_, ?_, ?_⟩ <;> dsimp only
  · split
    · omega
    · rw [wi64 (by omega) (by omega)]; omega
  · split
    · omega
    · rw [wi64 (by omega) (by omega)]; omega
  · intro e
    rw [if_pos e]
    exact ⟨(h.z e).1, (h.z e).2.1, rfl⟩
end Go.Ev
set_option linter.unusedSimpArgs false
set_option linter.unusedVariables false
namespace Go.Ev
open Go
set_option maxRecDepth 100000
set_option maxHeartbeats 4000000
theorem num_pv (l : List Int) (h : l.length < 4611686018427387904) : Sp.p_52 l l = true ∧ Sp.v_52 l l = (true, ()) := by
  refine pv_52 l l ?_
  unfold F_52
  rw [cond_nff rfl]
  have h1 := run0 (fun m i (_ : Unit) => Sp.L_52_0 m l l i) (n := l.length) (fun _ => ()) (r := some .e1) h (fun m j hj => by
    show Sp.L_52_0 (m + 1) l l (j : Int) = Sp.L_52_0 m l l ((j + 1 : Nat) : Int)
    rw [Sp.L_52_0, cond_dtt (by omega), gd_inB (by omega) (by omega), gd_inB (by omega) (by omega), cond_nff rfl, wi64 (by omega) (by omega)]
    push_cast
    rfl) (fun m => by
    show Sp.L_52_0 (m + 1) l l l.length = _
    rw [Sp.L_52_0, cond_dff (by omega)])
  have e1 : Sp.L_52_0 4611686018427387904 l l 0 = _ := h1
  rw [e1]
  rfl
theorem fsame_pv (f : FaT) (h : f.2.2.2.2.2.1.length < 4611686018427387904) : Sp.p_34 f f = true ∧ Sp.v_34 f f = (true, ()) := by
  refine pv_34 f f ?_
  unfold F_34
  simp only [beq_self_eq_true, cond_t, num_pv _ h, gd_tt]
theorem cfg_beq (c : CfT) : Ty.beq (.pair (.int .i64) (.pair (.int .i64) (.pair (.int .i64) (.pair (.int .i64) (.pair (.int .i64) (.pair (.int .i64) (.pair .bool (.pair (.int .i64) .unit)))))))) c c = true := by
  simp [Ty.beq]
theorem same_pv {F : FsT} (hs : Sm F) (h : F.1.length < 4611686018427387904) : Sp.p_17 F F = true ∧ Sp.v_17 F F = (true, ()) := by
  refine pv_17 F F ?_
  unfold F_17
  rw [cond_nff rfl, cond_nff rfl, cond_nff rfl, beq_self_eq_true, Bool.not_true, cond_f]
  have h1 := run0 (fun m i (_ : Unit) => Sp.L_17_0 m i F F) (n := F.1.length) (fun _ => ()) (r := some (.e1 F F)) h (fun m j hj => by
    show Sp.L_17_0 (m + 1) (j : Int) F F = Sp.L_17_0 m ((j + 1 : Nat) : Int) F F
    rw [Sp.L_17_0, cond_dtt (by omega), gd_inB (by omega) (by omega), gd_inB (by omega) (by omega), cfg_beq, Bool.not_true, cond_f, wi64 (by omega) (by omega)]
    push_cast
    rfl) (fun m => by
    show Sp.L_17_0 (m + 1) F.1.length F F = _
    rw [Sp.L_17_0, cond_dff (by omega)])
  have h2 := run0 (fun m i (_ : Unit) => Sp.L_17_1 m i F F) (n := F.2.1.length) (fun _ => ()) (r := some .e1) hs.l (fun m j hj => by
    show Sp.L_17_1 (m + 1) (j : Int) F F = Sp.L_17_1 m ((j + 1 : Nat) : Int) F F
    have hx := hs.l
    have hq := fsame_pv (F.2.1.getD j Zd1) (hs.f j hj)
    rw [Sp.L_17_1, cond_dtt (by omega), gd_inB (by omega) (by omega), gd_inB (by omega) (by omega), Int.toNat_natCast, hq.1, hq.2, gd_tt, wi64 (by omega) (by omega)]
    push_cast
    rfl) (fun m => by
    show Sp.L_17_1 (m + 1) F.2.1.length F F = _
    rw [Sp.L_17_1, cond_dff (by omega)])
  have e1 : Sp.L_17_0 4611686018427387904 0 F F = _ := h1
  have e2 : Sp.L_17_1 4611686018427387904 0 F F = _ := h2
  rw [e1]
  simp only [Sp.B_17_0]
  rw [e2]
  rfl
end Go.Ev
set_option linter.unusedSimpArgs false
set_option linter.unusedVariables false
namespace Go.Ev
open Go
set_option maxRecDepth 100000
set_option maxHeartbeats 4000000
namespace Sp
/-- The fault's status has a bit of the mask. -/
noncomputable def ht (F : FsT) (k : Int) (j : Nat) : Bool := andI .i64 (F.2.1.getD j Zd1).1 k != 0
noncomputable def hs (F : FsT) (k : Int) (n : Nat) : List Nat := (List.range n).filter (ht F k)
noncomputable def rcd (F : FsT) (j : Nat) : Int := (F.1.getD j Zd0).1
noncomputable def rby (F : FsT) (j : Nat) : List Int := [IntKind.wrap .u8 (Int.fdiv (Int.fdiv (rcd F j) 256) 256), IntKind.wrap .u8 (Int.fdiv (rcd F j) 256), IntKind.wrap .u8 (rcd F j), IntKind.wrap .u8 (F.2.1.getD j Zd1).1]
noncomputable def rcs (F : FsT) (k : Int) (n : Nat) : List Int := (hs F k n).map (rcd F)
noncomputable def rbs (F : FsT) (k : Int) (n : Nat) : List Int := [89, 2, 31] ++ (hs F k n).flatMap (rby F)
end Sp
theorem hs_succ (F : FsT) (k : Int) (n : Nat) : Sp.hs F k (n + 1) = if Sp.ht F k n = true then Sp.hs F k n ++ [n] else Sp.hs F k n := by
  unfold Sp.hs
  rw [List.range_succ, List.filter_append]
  split
  · rename_i h; simp [h]
  · rename_i h; simp [h]
theorem hs_len (F : FsT) (k : Int) (n : Nat) : (Sp.hs F k n).length ≤ n := by
  unfold Sp.hs
  exact Nat.le_trans (List.length_filter_le _ _) (by simp)
theorem fm_len (F : FsT) (l : List Nat) : (l.flatMap (Sp.rby F)).length = 4 * l.length := by
  induction l with
  | nil => rfl
  | cons a l ih => rw [List.flatMap_cons, List.length_append, ih]; simp [Sp.rby]; omega
theorem rbs_len (F : FsT) (k : Int) (n : Nat) : (Sp.rbs F k n).length = 3 + 4 * (Sp.hs F k n).length := by
  unfold Sp.rbs
  rw [List.length_append, fm_len]; rfl
/-- What a valid state says. -/
structure Vq (F : FsT) : Prop where
  n : F.1.length ≤ 64
  l : F.2.1.length = F.1.length
  c : ∀ j, j < F.1.length → 1 ≤ Sp.rcd F j ∧ Sp.rcd F j ≤ 16777215
  s : ∀ j, j < F.1.length → 0 ≤ (F.2.1.getD j Zd1).1 ∧ (F.2.1.getD j Zd1).1 ≤ 31
  d : ∀ a b, a < F.1.length → b < F.1.length → Sp.rcd F a = Sp.rcd F b → a = b
theorem vf_vq {F : FsT} (h : Sp.vf F = true) : Vq F := by
  unfold Sp.vf at h
  simp only [Bool.and_eq_true, decide_eq_true_eq, beq_iff_eq] at h
  obtain ⟨h1, h2, h3, h4, h5, h6, h7⟩ := h
  have hl : F.2.1.length = F.1.length := by omega
  refine ⟨h1, hl, fun j hj => ?_, fun j hj => ?_, fun a b ha hb e => ?_⟩
  · have := cfgs_at h2 hj
    unfold Sp.cfg at this
    simp only [Bool.and_eq_true, inr_iff] at this
    exact this.1
  · unfold Sp.rgts at h7
    rw [List.all_eq_true] at h7
    have := h7 j (by rw [List.mem_range]; omega)
    unfold Sp.rgt Sp.rngs at this
    simp only [Bool.and_eq_true, inr_iff] at this
    exact this.1.1
  · have hd := (Sp.dst_nodup _).1 h3
    have hm : ∀ j, j < F.1.length → (F.1.map fun c => c.1).getD j 0 = Sp.rcd F j := fun j hj => by
      unfold Sp.rcd
      simp [List.getD_eq_getElem?_getD, hj]
    have ga := getD_at (l := F.1.map fun c => c.1) (j := a) 0 (by simpa using ha)
    have gb := getD_at (l := F.1.map fun c => c.1) (j := b) 0 (by simpa using hb)
    rw [hm a ha] at ga
    rw [hm b hb] at gb
    have hp := List.pairwise_iff_getElem.1 hd
    rcases Nat.lt_trichotomy a b with h | h | h
    · exact absurd (by rw [← ga, ← gb, e]) (hp a b (by simpa using ha) (by simpa using hb) h)
    · exact h
    · exact absurd (by rw [← ga, ← gb, e]) (hp b a (by simpa using hb) (by simpa using ha) h)
section
variable {s : SvT} {F : FsT} {now x y : Int} {q1 : SvT} {q2 : IbT} {q3 : List CfT} {q4 : List FaT} {v : VvT}
theorem s_rpl (hv : Sp.vf F = true) (hF : v.2.1 = F) (k : Int) : Sp.L_14_48_0_0 4611686018427387904 k F.2.1 F.2.1.length 0 s F q1 q2 q3 q4 v [89, 2, 31] = some (.e0 s F q1 q2 q3 q4 v (Sp.rbs F k F.2.1.length)) := by
  have hq := vf_vq hv
  have hr := run0 (fun m i l => Sp.L_14_48_0_0 m k F.2.1 F.2.1.length i s F q1 q2 q3 q4 v l) (n := F.2.1.length) (fun j => Sp.rbs F k j) (r := some (.e0 s F q1 q2 q3 q4 v (Sp.rbs F k F.2.1.length))) (by have := hq.n; have := hq.l; omega) (fun m j hj => by
    show Sp.L_14_48_0_0 (m + 1) k F.2.1 F.2.1.length (j : Int) s F q1 q2 q3 q4 v (Sp.rbs F k j) = Sp.L_14_48_0_0 m k F.2.1 F.2.1.length ((j + 1 : Nat) : Int) s F q1 q2 q3 q4 v (Sp.rbs F k (j + 1))
    have := hq.n; have := hq.l
    have hl := hs_len F k j
    have hrl := rbs_len F k j
    rw [Sp.L_14_48_0_0, cond_dtt (by omega), gd_inB (by omega) (by omega), hF, gd_inB (by omega) (by omega), Int.toNat_natCast, (by3 _).1, (by3 _).2, gd_tt, gd_room (by simp; omega) (by simp; omega), gd_room (by simp; omega) (by simp; omega), wi64 (by omega) (by omega)]
    change (bif Sp.ht F k j then Sp.L_14_48_0_0 m k F.2.1 F.2.1.length ((j : Int) + 1) s F q1 q2 q3 q4 v (Sp.rbs F k j ++ _ ++ _) else _) = _
    have e : Sp.rbs F k (j + 1) = if Sp.ht F k j = true then Sp.rbs F k j ++ Sp.rby F j else Sp.rbs F k j := by
      unfold Sp.rbs
      rw [hs_succ]
      split <;> simp
    rw [e, List.append_assoc]
    push_cast
    cases Sp.ht F k j <;> rfl) (fun m => by
    show Sp.L_14_48_0_0 (m + 1) k F.2.1 F.2.1.length F.2.1.length s F q1 q2 q3 q4 v (Sp.rbs F k F.2.1.length) = _
    rw [Sp.L_14_48_0_0, cond_dff (by omega)])
  exact hr
theorem s_rp (hv : Sp.vf F = true) (hF : v.2.1 = F) (hx : IntKind.wrap .i64 x = x) : Sp.J_14_33_1_0 [25, 2, x] s F q1 q2 q3 q4 v = some (.e6 s F q1 q2 q3 q4 v (Sp.rbs F x F.2.1.length)) := by
  unfold Sp.J_14_33_1_0
  rw [show inB (0 : Int) (List.length ([25, 2, x] : List Int)) = true from rfl, gd_tt, show (List.getD ([25, 2, x] : List Int) (0 : Nat) (0 : Int) == (16 : Int)) = false from rfl, cond_f, show (List.getD ([25, 2, x] : List Int) (0 : Nat) (0 : Int) == (17 : Int)) = false from rfl, cond_f, show (List.getD ([25, 2, x] : List Int) (0 : Nat) (0 : Int) == (20 : Int)) = false from rfl, cond_f, show (List.getD ([25, 2, x] : List Int) (0 : Nat) (0 : Int) == (25 : Int)) = true from rfl, cond_t, show inB (2 : Int) (List.length ([25, 2, x] : List Int)) = true from rfl, gd_tt, show List.getD ([25, 2, x] : List Int) (2 : Nat) (0 : Int) = x from rfl, hx, hF, s_rpl hv hF, Sp.B_14_48_0_0]
theorem rq_rp (h : Rq s F now) (hv : Sp.vf F = true) (hx : IntKind.wrap .i64 x = x) : F_14 s F [25, 2, x] now = some (Sp.ded (Sp.tck s now) now, F, Sp.rbs F x F.2.1.length, ()) := by
  rw [rq0 h (by simp) (by simp)]
  unfold Sp.J_14_1
  rw [(tck_pv s now).1, gd_tt, (ln_pv [25, 2, x] (by simp)).1, gd_tt, ln_v [25, 2, x] (by simp), show Sp.ln [25, 2, x] = 3 from rfl, show ((3 : Int) == (0 : Int)) = false from rfl, cond_f, show inB (0 : Int) (List.length ([25, 2, x] : List Int)) = true from rfl, gd_tt, show (List.getD ([25, 2, x] : List Int) (0 : Nat) (0 : Int) == (20 : Int)) = false from rfl, cond_f, gd_tt, show (List.getD ([25, 2, x] : List Int) (0 : Nat) (0 : Int) == (39 : Int)) = false from rfl, cond_f]
  rw [j330 (b := [25, 2, x]) (n := 3) rfl (by simp) rfl, Sp.B_14_33_0_0]
  rw [s_rp (v := ((Sp.v_13 s now).1, F, now, ())) hv rfl hx, Sp.B_14_33_1_0]
  rw [j20, tck_v]
  rfl
end
end Go.Ev
set_option linter.unusedSimpArgs false
set_option linter.unusedVariables false
namespace Go.Ev
open Go
set_option maxRecDepth 100000
set_option maxHeartbeats 4000000
namespace Sp
noncomputable def clF (F : FsT) : FsT := (F.1, List.replicate F.2.1.length Zd1, F.2.2)
end Sp
theorem rgt_dF {c : CfT} {cyc : Int} (h : Sp.cfg c = true) (hc : 0 ≤ cyc) : Sp.rgt c Zd1 cyc = true := by
  unfold Sp.cfg at h
  simp only [Bool.and_eq_true, inr_iff] at h
  have h1 : Sp.rngs c Zd1 cyc = true := by
    show (Sp.inr 0 0 31 && (Sp.inr 0 (0 - c.2.2.1) c.2.1 && (Sp.inr 0 0 2 && (Sp.inr 0 0 (c.2.2.2.2.1 - 1) && (Sp.inr 0 0 255 && Sp.inr 0 0 cyc))))) = true
    simp only [Bool.and_eq_true, inr_iff]
    omega
  have h2 : Sp.frq c Zd1 = true := rfl
  have h3 : Sp.q0 cyc Zd1 = true := by kernel_rfl
  have h4 : Sp.q1 c Zd1 = true := by kernel_rfl
  have h5 : Sp.q2 Zd1 = true := by kernel_rfl
  have h6 : Sp.fin c Zd1 = true := by kernel_rfl
  unfold Sp.rgt
  rw [h1, h2, h3, h4, h5, h6]
  rfl
theorem clF_vf {F : FsT} (h : Sp.vf F = true) : Sp.vf (Sp.clF F) = true := by
  unfold Sp.vf at h ⊢
  simp only [Bool.and_eq_true, decide_eq_true_eq, beq_iff_eq] at h ⊢
  obtain ⟨h1, h2, h3, h4, h5, h6, h7⟩ := h
  refine ⟨h1, h2, h3, by simpa [Sp.clF] using h4, h5, h6, ?_⟩
  unfold Sp.rgts
  rw [List.all_eq_true]
  intro j hj
  rw [List.mem_range] at hj
  have hj' : j < F.2.1.length := by simpa [Sp.clF] using hj
  have e : (Sp.clF F).2.1.getD j Zd1 = Zd1 := by
    unfold Sp.clF
    simp [List.getD_eq_getElem?_getD, hj']
  rw [e]
  exact rgt_dF (cfgs_at h2 (by omega)) (inr_iff.1 h5).1
theorem clF_sm {F : FsT} (h : Sm F) : Sm (Sp.clF F) := by
  refine ⟨by simpa [Sp.clF] using h.l, fun j hj => ?_⟩
  have hj' : j < F.2.1.length := by simpa [Sp.clF] using hj
  have e : (Sp.clF F).2.1.getD j Zd1 = Zd1 := by
    unfold Sp.clF
    simp [List.getD_eq_getElem?_getD, hj']
  rw [e]
  decide
theorem clr_pv {F : FsT} (hs : Sm F) (hv : Sp.vf F = true) : Sp.p_16 F = true ∧ Sp.v_16 F = (Sp.clF F, 0, ()) := by
  refine pv_16 F ?_
  have hq := vf_vq hv
  have := hq.n; have := hq.l
  unfold F_16
  rw [(vf_pv hs).1, (vf_pv hs).2, hv, gd_tt, Bool.not_true, cond_f, beq_self_eq_true, Int.toNat_natCast, Bool.true_and, gd_room (by omega) (by omega)]
  rfl
section
variable {s : SvT} {F : FsT} {now x y z : Int} {q1 : SvT} {q2 : IbT} {q3 : List CfT} {q4 : List FaT} {v : VvT} {b : List Int}
theorem j33a {n : Int} : Sp.J_14_33_0_0 b n true s F q1 q2 q3 q4 v = some (.e0 s F q1 q2 q3 q4 v) := by
  unfold Sp.J_14_33_0_0; rw [cond_t]
theorem j33b {n : Int} (h : ¬ (b.length : Int) = n) : Sp.J_14_33_0_0 b n false s F q1 q2 q3 q4 v = some (.e1 s F q1 q2 q3 q4 v) := by
  unfold Sp.J_14_33_0_0; rw [cond_f, cond_ntt h]
theorem j33c {n : Int} (h : (b.length : Int) = n) (h1 : 1 < b.length) (hf : Sp.fnc b = false) : Sp.J_14_33_0_0 b n false s F q1 q2 q3 q4 v = some (.e2 s F q1 q2 q3 q4 v) := by
  unfold Sp.J_14_33_0_0; rw [cond_f, cond_nff h, (fnc_pv b h1).1, (fnc_pv b h1).2, gd_tt, hf]; rfl

theorem rq_ns (h : Rq s F now) (hb0 : 1 ≤ b.length) (hb1 : b.length ≤ 1023) (hl : Sp.ln b = 0) : F_14 s F b now = some (Sp.ded (Sp.tck s now) now, F, [127, b.getD 0 0, 17], ()) := by
  rw [rq0 h hb0 hb1]
  unfold Sp.J_14_1
  rw [(tck_pv s now).1, gd_tt, (ln_pv b hb0).1, gd_tt, ln_v b hb0]
  rw [cond_ett hl, j2n (by decide) hb0, tck_v]
  rfl
theorem rq_nis (h : Rq s F now) (hb0 : 1 ≤ b.length) (hb1 : b.length ≤ 1023) (hl : ¬ Sp.ln b = 0) (h2 : b.getD 0 0 = 20 ∨ b.getD 0 0 = 39) (h1 : (Sp.tck s now).1 = 1) : F_14 s F b now = some (Sp.ded (Sp.tck s now) now, F, [127, b.getD 0 0, 127], ()) := by
  rw [rq0 h hb0 hb1]
  unfold Sp.J_14_1
  rw [(tck_pv s now).1, gd_tt, (ln_pv b hb0).1, gd_tt, ln_v b hb0]
  rw [cond_eff hl, gd_inB (by decide) (by omega), gd_inB (by decide) (by omega), tck_v]
  have e1 : ((Sp.tck s now).1 == 1) = true := beq_iff_eq.2 h1
  rcases h2 with h2 | h2
  · rw [cond_ett h2, e1, j33a, Sp.B_14_33_0_0, j2n (by decide) hb0]
    rfl
  · rw [cond_eff (by omega), cond_ett h2, e1, j33a, Sp.B_14_33_0_0, j2n (by decide) hb0]
    rfl
theorem rq_len (h : Rq s F now) (hb0 : 1 ≤ b.length) (hb1 : b.length ≤ 1023) (hl : ¬ Sp.ln b = 0) (h2 : b.getD 0 0 = 20 ∨ b.getD 0 0 = 39 → ¬ (Sp.tck s now).1 = 1) (h3 : ¬ (b.length : Int) = Sp.ln b) : F_14 s F b now = some (Sp.ded (Sp.tck s now) now, F, [127, b.getD 0 0, 19], ()) := by
  rw [rq0 h hb0 hb1]
  unfold Sp.J_14_1
  rw [(tck_pv s now).1, gd_tt, (ln_pv b hb0).1, gd_tt, ln_v b hb0]
  rw [cond_eff hl, gd_inB (by decide) (by omega), gd_inB (by decide) (by omega), tck_v]
  by_cases c1 : b.getD 0 0 = 20
  · rw [cond_ett c1, beq_eq_false_iff_ne.2 (h2 (Or.inl c1)), j33b h3, Sp.B_14_33_0_0, j2n (by decide) hb0]
    rfl
  by_cases c2 : b.getD 0 0 = 39
  · rw [cond_eff c1, cond_ett c2, beq_eq_false_iff_ne.2 (h2 (Or.inr c2)), j33b h3, Sp.B_14_33_0_0, j2n (by decide) hb0]
    rfl
  · rw [cond_eff c1, cond_eff c2, j33b h3, Sp.B_14_33_0_0, j2n (by decide) hb0]
    rfl
theorem rq_fn (h : Rq s F now) (hb0 : 1 ≤ b.length) (hb1 : b.length ≤ 1023) (hl : ¬ Sp.ln b = 0) (h2 : b.getD 0 0 = 20 ∨ b.getD 0 0 = 39 → ¬ (Sp.tck s now).1 = 1) (h3 : (b.length : Int) = Sp.ln b) (h4 : 1 < b.length) (h5 : Sp.fnc b = false) : F_14 s F b now = some (Sp.ded (Sp.tck s now) now, F, [127, b.getD 0 0, 18], ()) := by
  rw [rq0 h hb0 hb1]
  unfold Sp.J_14_1
  rw [(tck_pv s now).1, gd_tt, (ln_pv b hb0).1, gd_tt, ln_v b hb0]
  rw [cond_eff hl, gd_inB (by decide) (by omega), gd_inB (by decide) (by omega), tck_v]
  by_cases c1 : b.getD 0 0 = 20
  · rw [cond_ett c1, beq_eq_false_iff_ne.2 (h2 (Or.inl c1)), j33c h3 h4 h5, Sp.B_14_33_0_0, j2n (by decide) hb0]
    rfl
  by_cases c2 : b.getD 0 0 = 39
  · rw [cond_eff c1, cond_ett c2, beq_eq_false_iff_ne.2 (h2 (Or.inr c2)), j33c h3 h4 h5, Sp.B_14_33_0_0, j2n (by decide) hb0]
    rfl
  · rw [cond_eff c1, cond_eff c2, j33c h3 h4 h5, Sp.B_14_33_0_0, j2n (by decide) hb0]
    rfl
theorem s_en1 : Sp.J_14_45_0_0 1 s F q1 q2 q3 q4 v = some (.e0 1 s F q1 q2 q3 q4 v) := by
  unfold Sp.J_14_45_0_0
  rw [(ent_pv _ _).1, gd_tt, (rp_pv _).1, gd_tt]
theorem s_se1  : Sp.J_14_33_1_0 [16, 1] s F q1 q2 q3 q4 v = some (.e1 1 s F q1 q2 q3 q4 v) := by
  unfold Sp.J_14_33_1_0
  rw [show inB (0 : Int) (List.length ([16, 1] : List Int)) = true from rfl, gd_tt, show (List.getD ([16, 1] : List Int) (0 : Nat) (0 : Int) == (16 : Int)) = true from rfl, cond_t, show inB (1 : Int) (List.length ([16, 1] : List Int)) = true from rfl, gd_tt, show IntKind.wrap .i64 (List.getD ([16, 1] : List Int) (1 : Nat) (0 : Int)) = 1 from rfl, show ((1 : Int) == (2 : Int)) = false from rfl, cond_f, s_en1, Sp.B_14_45_0_0]
theorem rq_se1 (h : Rq s F now)  : F_14 s F [16, 1] now = some (Sp.ded (Sp.ent (Sp.tck s now) 1) now, F, [80, 1], ()) := by
  rw [rq0 h (by simp) (by simp)]
  unfold Sp.J_14_1
  rw [(tck_pv s now).1, gd_tt, (ln_pv [16, 1] (by simp)).1, gd_tt, ln_v [16, 1] (by simp), show Sp.ln [16, 1] = 2 from rfl, show ((2 : Int) == (0 : Int)) = false from rfl, cond_f, show inB (0 : Int) (List.length ([16, 1] : List Int)) = true from rfl, gd_tt, show (List.getD ([16, 1] : List Int) (0 : Nat) (0 : Int) == (20 : Int)) = false from rfl, cond_f, gd_tt, show (List.getD ([16, 1] : List Int) (0 : Nat) (0 : Int) == (39 : Int)) = false from rfl, cond_f]
  rw [j330 (b := [16, 1]) (n := 2) rfl (by simp) rfl, Sp.B_14_33_0_0]
  rw [s_se1, Sp.B_14_33_1_0]
  rw [(rp_pv _).2, (ent_pv _ _).2, j21, tck_v]
  rfl
theorem s_se4 (h1 : v.1.1 = 1) : Sp.J_14_33_1_0 [16, 2] s F q1 q2 q3 q4 v = some (.e0 s F q1 q2 q3 q4 v) := by
  unfold Sp.J_14_33_1_0
  rw [show inB (0 : Int) (List.length ([16, 2] : List Int)) = true from rfl, gd_tt, show (List.getD ([16, 2] : List Int) (0 : Nat) (0 : Int) == (16 : Int)) = true from rfl, cond_t, show inB (1 : Int) (List.length ([16, 2] : List Int)) = true from rfl, gd_tt, show IntKind.wrap .i64 (List.getD ([16, 2] : List Int) (1 : Nat) (0 : Int)) = 2 from rfl, show ((2 : Int) == (2 : Int)) = true from rfl, cond_t, cond_ett h1]
theorem rq_se4 (h : Rq s F now) (h1 : (Sp.tck s now).1 = 1) : F_14 s F [16, 2] now = some (Sp.ded (Sp.tck s now) now, F, [127, 16, 34], ()) := by
  rw [rq0 h (by simp) (by simp)]
  unfold Sp.J_14_1
  rw [(tck_pv s now).1, gd_tt, (ln_pv [16, 2] (by simp)).1, gd_tt, ln_v [16, 2] (by simp), show Sp.ln [16, 2] = 2 from rfl, show ((2 : Int) == (0 : Int)) = false from rfl, cond_f, show inB (0 : Int) (List.length ([16, 2] : List Int)) = true from rfl, gd_tt, show (List.getD ([16, 2] : List Int) (0 : Nat) (0 : Int) == (20 : Int)) = false from rfl, cond_f, gd_tt, show (List.getD ([16, 2] : List Int) (0 : Nat) (0 : Int) == (39 : Int)) = false from rfl, cond_f]
  rw [j330 (b := [16, 2]) (n := 2) rfl (by simp) rfl, Sp.B_14_33_0_0]
  rw [s_se4 (v := ((Sp.v_13 s now).1, F, now, ())) (by rw [tck_v]; exact h1), Sp.B_14_33_1_0]
  rw [j2n (by decide) (by simp), tck_v]
  rfl
theorem s_rs0 : Sp.J_14_33_2_0 s F q1 q2 q3 q4 v = some (.e0 s F q1 q2 q3 q4 v) := by
  unfold Sp.J_14_33_2_0
  rw [(rp_pv _).1, gd_tt]
theorem s_rs  : Sp.J_14_33_1_0 [17, 1] s F q1 q2 q3 q4 v = some (.e2 s F q1 q2 q3 q4 (Sp.ent v.1 1, v.2)) := by
  unfold Sp.J_14_33_1_0
  rw [show inB (0 : Int) (List.length ([17, 1] : List Int)) = true from rfl, gd_tt, show (List.getD ([17, 1] : List Int) (0 : Nat) (0 : Int) == (16 : Int)) = false from rfl, cond_f, show (List.getD ([17, 1] : List Int) (0 : Nat) (0 : Int) == (17 : Int)) = true from rfl, cond_t, (ent_pv _ _).1, gd_tt, (ent_pv _ _).2, s_rs0, Sp.B_14_33_2_0]
theorem rq_rs (h : Rq s F now)  : F_14 s F [17, 1] now = some (Sp.ded (Sp.ent (Sp.tck s now) 1) now, F, [81, 1], ()) := by
  rw [rq0 h (by simp) (by simp)]
  unfold Sp.J_14_1
  rw [(tck_pv s now).1, gd_tt, (ln_pv [17, 1] (by simp)).1, gd_tt, ln_v [17, 1] (by simp), show Sp.ln [17, 1] = 2 from rfl, show ((2 : Int) == (0 : Int)) = false from rfl, cond_f, show inB (0 : Int) (List.length ([17, 1] : List Int)) = true from rfl, gd_tt, show (List.getD ([17, 1] : List Int) (0 : Nat) (0 : Int) == (20 : Int)) = false from rfl, cond_f, gd_tt, show (List.getD ([17, 1] : List Int) (0 : Nat) (0 : Int) == (39 : Int)) = false from rfl, cond_f]
  rw [j330 (b := [17, 1]) (n := 2) rfl (by simp) rfl, Sp.B_14_33_0_0]
  rw [s_rs, Sp.B_14_33_1_0]
  rw [(rp_pv _).2, j21, tck_v]
  rfl
theorem s_tq0 : Sp.J_14_33_4_0 [62, 128] s F q1 q2 q3 q4 v = some (.e0 s F q1 q2 q3 q4 v) := by
  unfold Sp.J_14_33_4_0
  rw [show inB (1 : Int) (List.length ([62, 128] : List Int)) = true from rfl, gd_tt, show (List.getD ([62, 128] : List Int) (1 : Nat) (0 : Int) == (128 : Int)) = true from rfl, cond_t]
theorem s_tq  : Sp.J_14_33_1_0 [62, 128] s F q1 q2 q3 q4 v = some (.e18 s F q1 q2 q3 q4 v) := by
  unfold Sp.J_14_33_1_0
  rw [show inB (0 : Int) (List.length ([62, 128] : List Int)) = true from rfl, gd_tt, show (List.getD ([62, 128] : List Int) (0 : Nat) (0 : Int) == (16 : Int)) = false from rfl, cond_f, show (List.getD ([62, 128] : List Int) (0 : Nat) (0 : Int) == (17 : Int)) = false from rfl, cond_f, show (List.getD ([62, 128] : List Int) (0 : Nat) (0 : Int) == (20 : Int)) = false from rfl, cond_f, show (List.getD ([62, 128] : List Int) (0 : Nat) (0 : Int) == (25 : Int)) = false from rfl, cond_f, show (List.getD ([62, 128] : List Int) (0 : Nat) (0 : Int) == (34 : Int)) = false from rfl, cond_f, show (List.getD ([62, 128] : List Int) (0 : Nat) (0 : Int) == (39 : Int)) = false from rfl, cond_f, s_tq0, Sp.B_14_33_4_0]
theorem rq_tq (h : Rq s F now)  : F_14 s F [62, 128] now = some (Sp.ded (Sp.tck s now) now, F, [], ()) := by
  rw [rq0 h (by simp) (by simp)]
  unfold Sp.J_14_1
  rw [(tck_pv s now).1, gd_tt, (ln_pv [62, 128] (by simp)).1, gd_tt, ln_v [62, 128] (by simp), show Sp.ln [62, 128] = 2 from rfl, show ((2 : Int) == (0 : Int)) = false from rfl, cond_f, show inB (0 : Int) (List.length ([62, 128] : List Int)) = true from rfl, gd_tt, show (List.getD ([62, 128] : List Int) (0 : Nat) (0 : Int) == (20 : Int)) = false from rfl, cond_f, gd_tt, show (List.getD ([62, 128] : List Int) (0 : Nat) (0 : Int) == (39 : Int)) = false from rfl, cond_f]
  rw [j330 (b := [62, 128]) (n := 2) rfl (by simp) rfl, Sp.B_14_33_0_0]
  rw [s_tq, Sp.B_14_33_1_0]
  rw [j20, tck_v]
  rfl
theorem s_sz (hu : ¬ v.2.2.1 < v.1.2.2.2.2.1) (hl : ¬ v.1.2.2.1 = 0) : Sp.J_14_50_0_0 s F q1 q2 q3 q4 v = some (.e0 0 s F q1 q2 q3 q4 v) := by
  unfold Sp.J_14_50_0_0
  rw [cond_eff hl]
  unfold Sp.J_14_50_1_0
  rw [(by2 _).1, gd_tt, (by2 _).2]
  rfl
theorem s_qz (hu : ¬ v.2.2.1 < v.1.2.2.2.2.1) (hl : ¬ v.1.2.2.1 = 0) : Sp.J_14_33_1_0 [39, 1] s F q1 q2 q3 q4 v = some (.e13 0 s F q1 q2 q3 q4 v) := by
  unfold Sp.J_14_33_1_0
  rw [show inB (0 : Int) (List.length ([39, 1] : List Int)) = true from rfl, gd_tt, show (List.getD ([39, 1] : List Int) (0 : Nat) (0 : Int) == (16 : Int)) = false from rfl, cond_f, show (List.getD ([39, 1] : List Int) (0 : Nat) (0 : Int) == (17 : Int)) = false from rfl, cond_f, show (List.getD ([39, 1] : List Int) (0 : Nat) (0 : Int) == (20 : Int)) = false from rfl, cond_f, show (List.getD ([39, 1] : List Int) (0 : Nat) (0 : Int) == (25 : Int)) = false from rfl, cond_f, show (List.getD ([39, 1] : List Int) (0 : Nat) (0 : Int) == (34 : Int)) = false from rfl, cond_f, show (List.getD ([39, 1] : List Int) (0 : Nat) (0 : Int) == (39 : Int)) = true from rfl, cond_t, show inB (1 : Int) (List.length ([39, 1] : List Int)) = true from rfl, gd_tt, show (List.getD ([39, 1] : List Int) (1 : Nat) (0 : Int) == (1 : Int)) = true from rfl, cond_t, cond_dff hu, s_sz hu hl, Sp.B_14_50_0_0]
theorem rq_qz (h : Rq s F now) (h1 : ¬ (Sp.tck s now).1 = 1) (hu : ¬ now < (Sp.tck s now).2.2.2.2.1) (hl : ¬ (Sp.tck s now).2.2.1 = 0) : F_14 s F [39, 1] now = some (Sp.ded (Sp.tck s now) now, F, [103, 1, 0, 0], ()) := by
  rw [rq0 h (by simp) (by simp)]
  unfold Sp.J_14_1
  rw [(tck_pv s now).1, gd_tt, (ln_pv [39, 1] (by simp)).1, gd_tt, ln_v [39, 1] (by simp), show Sp.ln [39, 1] = 2 from rfl, show ((2 : Int) == (0 : Int)) = false from rfl, cond_f, show inB (0 : Int) (List.length ([39, 1] : List Int)) = true from rfl, gd_tt, show (List.getD ([39, 1] : List Int) (0 : Nat) (0 : Int) == (20 : Int)) = false from rfl, cond_f, gd_tt, show (List.getD ([39, 1] : List Int) (0 : Nat) (0 : Int) == (39 : Int)) = true from rfl, cond_t, tck_v, show ((Sp.tck s now).1 == (1 : Int)) = false from by simpa using h1]
  rw [j330 (b := [39, 1]) (n := 2) rfl (by simp) rfl, Sp.B_14_33_0_0]
  rw [s_qz (v := ((Sp.tck s now), F, now, ())) hu hl, Sp.B_14_33_1_0]
  rw [(by2 _).2, j20]
  rfl
theorem s_cl : Sp.L_14_47_0_0 4611686018427387904 [x, y, z] 3 0 s F q1 q2 q3 q4 v = if x = 255 ∧ y = 255 ∧ z = 255 then some (.e1 s F q1 q2 q3 q4 v) else some (.e0 s F q1 q2 q3 q4 v) := by
  show Sp.L_14_47_0_0 (4611686018427387900 + 1 + 1 + 1 + 1) [x, y, z] 3 0 s F q1 q2 q3 q4 v = _
  rw [Sp.L_14_47_0_0, cond_dtt (by decide), show inB 0 (List.length [x, y, z]) = true from rfl, gd_tt, show List.getD [x, y, z] (Int.toNat 0) 0 = x from rfl]
  by_cases hx : x = 255
  rotate_left
  · rw [cond_ntt hx, if_neg (fun h => hx h.1)]
  rw [cond_nff hx, show IntKind.wrap .i64 (0 + 1) = 1 from rfl, Sp.L_14_47_0_0, cond_dtt (by decide), show inB 1 (List.length [x, y, z]) = true from rfl, gd_tt, show List.getD [x, y, z] (Int.toNat 1) 0 = y from rfl]
  by_cases hy : y = 255
  rotate_left
  · rw [cond_ntt hy, if_neg (fun h => hy h.2.1)]
  rw [cond_nff hy, show IntKind.wrap .i64 (1 + 1) = 2 from rfl, Sp.L_14_47_0_0, cond_dtt (by decide), show inB 2 (List.length [x, y, z]) = true from rfl, gd_tt, show List.getD [x, y, z] (Int.toNat 2) 0 = z from rfl]
  by_cases hz : z = 255
  rotate_left
  · rw [cond_ntt hz, if_neg (fun h => hz h.2.2)]
  rw [cond_nff hz, show IntKind.wrap .i64 (2 + 1) = 3 from rfl, Sp.L_14_47_0_0, cond_dff (by decide), if_pos ⟨hx, hy, hz⟩]
theorem s_c0 (hx : ¬ (x = 255 ∧ y = 255 ∧ z = 255)) : Sp.J_14_33_1_0 [20, x, y, z] s F q1 q2 q3 q4 v = some (.e3 s F q1 q2 q3 q4 v) := by
  unfold Sp.J_14_33_1_0
  rw [show inB (0 : Int) (List.length ([20, x, y, z] : List Int)) = true from rfl, gd_tt, show (List.getD ([20, x, y, z] : List Int) (0 : Nat) (0 : Int) == (16 : Int)) = false from rfl, cond_f, show (List.getD ([20, x, y, z] : List Int) (0 : Nat) (0 : Int) == (17 : Int)) = false from rfl, cond_f, show (List.getD ([20, x, y, z] : List Int) (0 : Nat) (0 : Int) == (20 : Int)) = true from rfl, cond_t, show sl3 (1 : Int) ((List.length ([20, x, y, z] : List Int) : Nat) : Int) ((List.length ([20, x, y, z] : List Int) : Nat) : Int) = true from rfl, gd_tt]
  change Sp.B_14_47_0_0 (Sp.L_14_47_0_0 4611686018427387904 [x, y, z] 3 0 s F q1 q2 q3 q4 v) _ _ = _
  rw [s_cl, if_neg hx, Sp.B_14_47_0_0]
theorem s_c1 (hx : x = 255 ∧ y = 255 ∧ z = 255) (hs : Sm F) (hv : Sp.vf F = true) (hF : v.2.1 = F) : Sp.J_14_33_1_0 [20, x, y, z] s F q1 q2 q3 q4 v = some (.e4 s F q1 q2 q3 q4 v) := by
  unfold Sp.J_14_33_1_0
  rw [show inB (0 : Int) (List.length ([20, x, y, z] : List Int)) = true from rfl, gd_tt, show (List.getD ([20, x, y, z] : List Int) (0 : Nat) (0 : Int) == (16 : Int)) = false from rfl, cond_f, show (List.getD ([20, x, y, z] : List Int) (0 : Nat) (0 : Int) == (17 : Int)) = false from rfl, cond_f, show (List.getD ([20, x, y, z] : List Int) (0 : Nat) (0 : Int) == (20 : Int)) = true from rfl, cond_t, show sl3 (1 : Int) ((List.length ([20, x, y, z] : List Int) : Nat) : Int) ((List.length ([20, x, y, z] : List Int) : Nat) : Int) = true from rfl, gd_tt]
  change Sp.B_14_47_0_0 (Sp.L_14_47_0_0 4611686018427387904 [x, y, z] 3 0 s F q1 q2 q3 q4 v) _ _ = _
  rw [s_cl, if_pos hx, Sp.B_14_47_0_0, hF, (clr_pv hs hv).1, gd_tt, (clr_pv hs hv).2, cond_ett rfl, (rp_pv _).1, gd_tt]
theorem rq_c0 (h : Rq s F now) (h1 : ¬ (Sp.tck s now).1 = 1) (hx : ¬ (x = 255 ∧ y = 255 ∧ z = 255)) : F_14 s F [20, x, y, z] now = some (Sp.ded (Sp.tck s now) now, F, [127, 20, 49], ()) := by
  rw [rq0 h (by simp) (by simp)]
  unfold Sp.J_14_1
  rw [(tck_pv s now).1, gd_tt, (ln_pv [20, x, y, z] (by simp)).1, gd_tt, ln_v [20, x, y, z] (by simp), show Sp.ln [20, x, y, z] = 4 from rfl, show ((4 : Int) == (0 : Int)) = false from rfl, cond_f, show inB (0 : Int) (List.length ([20, x, y, z] : List Int)) = true from rfl, gd_tt, show (List.getD ([20, x, y, z] : List Int) (0 : Nat) (0 : Int) == (20 : Int)) = true from rfl, cond_t, tck_v, show ((Sp.tck s now).1 == (1 : Int)) = false from by simpa using h1]
  rw [j330 (b := [20, x, y, z]) (n := 4) rfl (by simp) rfl, Sp.B_14_33_0_0]
  rw [s_c0 hx, Sp.B_14_33_1_0]
  rw [j2n (by decide) (by simp)]
  rfl
theorem rq_c1 (h : Rq s F now) (h1 : ¬ (Sp.tck s now).1 = 1) (hx : x = 255 ∧ y = 255 ∧ z = 255) (hs : Sm F) (hv : Sp.vf F = true) : F_14 s F [20, x, y, z] now = some (Sp.ded (Sp.tck s now) now, Sp.clF F, [84], ()) := by
  rw [rq0 h (by simp) (by simp)]
  unfold Sp.J_14_1
  rw [(tck_pv s now).1, gd_tt, (ln_pv [20, x, y, z] (by simp)).1, gd_tt, ln_v [20, x, y, z] (by simp), show Sp.ln [20, x, y, z] = 4 from rfl, show ((4 : Int) == (0 : Int)) = false from rfl, cond_f, show inB (0 : Int) (List.length ([20, x, y, z] : List Int)) = true from rfl, gd_tt, show (List.getD ([20, x, y, z] : List Int) (0 : Nat) (0 : Int) == (20 : Int)) = true from rfl, cond_t, tck_v, show ((Sp.tck s now).1 == (1 : Int)) = false from by simpa using h1]
  rw [j330 (b := [20, x, y, z]) (n := 4) rfl (by simp) rfl, Sp.B_14_33_0_0]
  rw [s_c1 (v := (Sp.tck s now, F, now, ())) hx hs hv rfl, Sp.B_14_33_1_0]
  rw [(rp_pv _).2, j21]
  dsimp only
  rw [(clr_pv hs hv).2]
  rfl
end
end Go.Ev
set_option linter.unusedSimpArgs false
set_option linter.unusedVariables false
namespace Go.Ev
open Go
set_option maxRecDepth 100000
set_option maxHeartbeats 4000000
/-- What is said of an answer. -/
structure Oua (s : SvT) (F : FsT) (now : Int) (b : List Int) (x : SvT) (g : FsT) (a : List Int) : Prop where
  sv : Sv x
  len : a.length ≤ 1023
  hd : a = [] ∨ a.getD 0 0 = IntKind.wrap .u8 (b.getD 0 0 + 64) ∨ ∃ c, a = [127, b.getD 0 0, c]
  f : (g = F ∧ ¬ (a.length = 1 ∧ a.getD 0 0 = 84)) ∨ (a = [84] ∧ g = Sp.clF F ∧ ¬ (Sp.tck s now).1 = 1)
section
variable {s : SvT} {F : FsT} {now : Int} {b : List Int}
theorem out_neg {x : SvT} {c : Int} (hx : Sv x) : Oua s F now b x F [127, b.getD 0 0, c] := ⟨hx, by simp, Or.inr (Or.inr ⟨c, rfl⟩), Or.inl ⟨rfl, by simp⟩⟩
theorem out_pos {x : SvT} {a : List Int} (hx : Sv x) (h1 : a.length ≤ 1023) (h2 : a.getD 0 0 = IntKind.wrap .u8 (b.getD 0 0 + 64)) (h3 : ¬ a.length = 1) : Oua s F now b x F a := ⟨hx, h1, Or.inr (Or.inl h2), Or.inl ⟨rfl, fun h => h3 h.1⟩⟩
theorem sv_seed {s : SvT} {n : Int} (h : Sv s) (h1 : ¬ s.1 = 1) (n0 : 0 ≤ n) (n1 : n ≤ 65535) : Sv (s.1, n, s.2.2) := ⟨h.s0, h.s1, n0, n1, h.l0, h.l1, h.t0, h.t1, h.u0, h.u1, h.d0, h.d1, fun e => absurd e h1⟩
theorem sv_mk {s : SvT} {l t : Int} (h : Sv s) (h1 : ¬ s.1 = 1) (l0 : 0 ≤ l) (l1 : l ≤ 1) (t0 : 0 ≤ t) (t1 : t ≤ 2) : Sv (s.1, 0, l, t, s.2.2.2.2) := ⟨h.s0, h.s1, by show (0 : Int) ≤ 0; decide, by show (0 : Int) ≤ 65535; decide, l0, l1, t0, t1, h.u0, h.u1, h.d0, h.d1, fun e => absurd e h1⟩
theorem sv_mku {s : SvT} {l t u : Int} (h : Sv s) (h1 : ¬ s.1 = 1) (l0 : 0 ≤ l) (l1 : l ≤ 1) (t0 : 0 ≤ t) (t1 : t ≤ 2) (u0 : 0 ≤ u) (u1 : u ≤ 1000000000000) : Sv (s.1, 0, l, t, u, s.2.2.2.2.2) := ⟨h.s0, h.s1, by show (0 : Int) ≤ 0; decide, by show (0 : Int) ≤ 65535; decide, l0, l1, t0, t1, u0, by show u ≤ _; omega, h.d0, h.d1, fun e => absurd e h1⟩
theorem sdn_b2 {t : Int} (h0 : 0 ≤ t) (h1 : t ≤ 200000000000) : 1 ≤ Sp.sdn t ∧ Sp.sdn t ≤ 65535 := by
  unfold Sp.sdn
  rw [wi64 (n := 40503 * t) (by omega) (by omega)]
  have a := Int.tmod_nonneg (a := 40503 * t) 65535 (by omega)
  have b := Int.tmod_lt_of_pos (40503 * t) (b := 65535) (by decide)
  rw [wi64 (by omega) (by omega)]
  omega
theorem l2 {b : List Int} (h : (b.length : Int) = 2) : ∃ x y, b = [x, y] := by
  match b, h with
  | [x, y], _ => exact ⟨x, y, rfl⟩
  | [], h => simp at h
  | [_], h => simp at h
  | _ :: _ :: _ :: _, h => simp at h; omega
theorem l3 {b : List Int} (h : (b.length : Int) = 3) : ∃ x y z, b = [x, y, z] := by
  match b, h with
  | [x, y, z], _ => exact ⟨x, y, z, rfl⟩
  | [], h => simp at h
  | [_], h => simp at h
  | [_, _], h => simp at h
  | _ :: _ :: _ :: _ :: _, h => simp at h; omega
theorem l4 {b : List Int} (h : (b.length : Int) = 4) : ∃ x y z u, b = [x, y, z, u] := by
  match b, h with
  | [x, y, z, u], _ => exact ⟨x, y, z, u, rfl⟩
  | [], h => simp at h
  | [_], h => simp at h
  | [_, _], h => simp at h
  | [_, _, _], h => simp at h
  | _ :: _ :: _ :: _ :: _ :: _, h => simp at h; omega
theorem fnc_16 {y : Int} (h : Sp.fnc [16, y] = true) : y = 1 ∨ y = 2 ∨ y = 3 := by
  have : (bif decide (y ≥ 1) then decide (y ≤ 3) else false) = true := h
  by_cases h1 : y ≥ 1
  · rw [cond_dtt h1] at this
    have := of_decide_eq_true this
    omega
  · rw [cond_dff h1] at this; cases this
theorem fnc_17 {y : Int} (h : Sp.fnc [17, y] = true) : y = 1 := by
  have : (y == 1) = true := h
  simpa using this
theorem fnc_25 {y z : Int} (h : Sp.fnc [25, y, z] = true) : y = 2 := by
  have : (y == 2) = true := h
  simpa using this
theorem fnc_62 {y : Int} (h : Sp.fnc [62, y] = true) : y = 0 ∨ y = 128 := by
  have : (bif y == 0 then true else y == 128) = true := h
  by_cases h1 : y = 0
  · exact Or.inl h1
  · rw [cond_eff h1] at this; exact Or.inr (by simpa using this)
theorem fnc_39 {b : List Int} (h0 : b.getD 0 0 = 39) (h : Sp.fnc b = true) : b.getD 1 0 = 1 ∨ b.getD 1 0 = 2 := by
  unfold Sp.fnc at h
  rw [h0, show ((39 : Int) == 16) = false from rfl, show ((39 : Int) == 17) = false from rfl, show ((39 : Int) == 25) = false from rfl, show ((39 : Int) == 39) = true from rfl, cond_f, cond_f, cond_f, cond_t] at h
  by_cases h1 : b.getD 1 0 = 1
  · exact Or.inl h1
  · rw [cond_eff h1] at h; exact Or.inr (by simpa using h)
theorem ln_39 {b : List Int} (h0 : b.getD 0 0 = 39) (hb : 1 < b.length) : Sp.ln b = if b.getD 1 0 = 2 then 4 else 2 := by
  unfold Sp.ln
  rw [h0, show ((39 : Int) == 16) = false from rfl, show ((39 : Int) == 17) = false from rfl, show ((39 : Int) == 62) = false from rfl, show ((39 : Int) == 20) = false from rfl, show ((39 : Int) == 25) = false from rfl, show ((39 : Int) == 34) = false from rfl, show ((39 : Int) == 39) = true from rfl, cond_f, cond_f, cond_f, cond_f, cond_f, cond_f, cond_t, cond_dtt (by omega)]
  by_cases h1 : b.getD 1 0 = 2
  · rw [cond_ett h1, if_pos h1]
  · rw [cond_eff h1, if_neg h1]
theorem rq_all (h : Rq s F now) (hs : Sm F) (hv : Sp.vf F = true) (hn : now ≤ 200000000000) (hb0 : 1 ≤ b.length) (hb1 : b.length ≤ 8) (hb : ∀ y ∈ b, 0 ≤ y ∧ y < 256) : ∃ x g a, F_14 s F b now = some (x, g, a, ()) ∧ Oua s F now b x g a := by
  have n0 := h.n0
  have hT := tck_sv now h.s
  have hD := ded_sv hT n0 (by omega)
  have hq := vf_vq hv
  by_cases c0 : Sp.ln b = 0
  · exact ⟨_, _, _, rq_ns h hb0 (by omega) c0, out_neg hD⟩
  by_cases c1 : (b.getD 0 0 = 20 ∨ b.getD 0 0 = 39) ∧ (Sp.tck s now).1 = 1
  · exact ⟨_, _, _, rq_nis h hb0 (by omega) c0 c1.1 c1.2, out_neg hD⟩
  have c1' : b.getD 0 0 = 20 ∨ b.getD 0 0 = 39 → ¬ (Sp.tck s now).1 = 1 := fun h1 h2 => c1 ⟨h1, h2⟩
  by_cases c2 : (b.length : Int) = Sp.ln b
  rotate_left
  · exact ⟨_, _, _, rq_len h hb0 (by omega) c0 c1' c2, out_neg hD⟩
  have c4 : 1 < b.length := by
    rcases Nat.lt_or_ge 1 b.length with h4 | h4
    · exact h4
    · exfalso
      obtain ⟨z, rfl⟩ : ∃ z, b = [z] := by
        match b, hb0, h4 with
        | [z], _, _ => exact ⟨z, rfl⟩
      unfold Sp.ln at c2
      simp only [List.length_singleton, List.getD_cons_zero] at c2
      revert c2
      cases z == 16 <;> cases z == 17 <;> cases z == 62 <;> cases z == 20 <;> cases z == 25 <;> cases z == 34 <;> cases z == 39 <;> simp
  by_cases c5 : Sp.fnc b = true
  rotate_left
  · exact ⟨_, _, _, rq_fn h hb0 (by omega) c0 c1' c2 c4 (by simpa using c5), out_neg hD⟩
  have e8 : ∀ n : Int, n = 16 ∨ n = 17 ∨ n = 62 ∨ n = 25 ∨ n = 34 → True := fun _ _ => trivial
  by_cases s16 : b.getD 0 0 = 16
  · have hl : Sp.ln b = 2 := by unfold Sp.ln; rw [cond_ett s16]
    obtain ⟨x, y, rfl⟩ := l2 (c2.trans hl)
    have hx : x = 16 := s16
    subst hx
    rcases fnc_16 c5 with rfl | rfl | rfl
    · exact ⟨_, _, _, rq_se1 h, out_pos (ded_sv (ent_sv hT (by decide) (by decide)) n0 (by omega)) (by simp) rfl (by simp)⟩
    · by_cases h1 : (Sp.tck s now).1 = 1
      · exact ⟨_, _, _, rq_se4 h h1, out_neg hD⟩
      · exact ⟨_, _, _, rq_se2 h h1, out_pos (ded_sv (ent_sv hT (by decide) (by decide)) n0 (by omega)) (by simp) rfl (by simp)⟩
    · exact ⟨_, _, _, rq_se3 h, out_pos (ded_sv (ent_sv hT (by decide) (by decide)) n0 (by omega)) (by simp) rfl (by simp)⟩
  by_cases s17 : b.getD 0 0 = 17
  · have hl : Sp.ln b = 2 := by unfold Sp.ln; rw [cond_eff s16, cond_ett s17]
    obtain ⟨x, y, rfl⟩ := l2 (c2.trans hl)
    have hx : x = 17 := s17
    subst hx
    have hy := fnc_17 c5
    subst hy
    exact ⟨_, _, _, rq_rs h, out_pos (ded_sv (ent_sv hT (by decide) (by decide)) n0 (by omega)) (by simp) rfl (by simp)⟩
  by_cases s62 : b.getD 0 0 = 62
  · have hl : Sp.ln b = 2 := by unfold Sp.ln; rw [cond_eff s16, cond_eff s17, cond_ett s62]
    obtain ⟨x, y, rfl⟩ := l2 (c2.trans hl)
    have hx : x = 62 := s62
    subst hx
    rcases fnc_62 c5 with rfl | rfl
    · exact ⟨_, _, _, rq_tp h, out_pos hD (by simp) rfl (by simp)⟩
    · exact ⟨_, _, _, rq_tq h, ⟨hD, by simp, Or.inl rfl, Or.inl ⟨rfl, by simp⟩⟩⟩
  by_cases s20 : b.getD 0 0 = 20
  · have h1 := c1' (Or.inl s20)
    have hl : Sp.ln b = 4 := by unfold Sp.ln; rw [cond_eff s16, cond_eff s17, cond_eff s62, cond_ett s20]
    obtain ⟨w, x, y, z, rfl⟩ := l4 (c2.trans hl)
    have hx : w = 20 := s20
    subst hx
    by_cases hc : x = 255 ∧ y = 255 ∧ z = 255
    · exact ⟨_, _, _, rq_c1 h h1 hc hs hv, ⟨hD, by simp, Or.inr (Or.inl rfl), Or.inr ⟨rfl, rfl, h1⟩⟩⟩
    · exact ⟨_, _, _, rq_c0 h h1 hc, out_neg hD⟩
  by_cases s25 : b.getD 0 0 = 25
  · have hl : Sp.ln b = 3 := by unfold Sp.ln; rw [cond_eff s16, cond_eff s17, cond_eff s62, cond_eff s20, cond_ett s25]
    obtain ⟨x, y, z, rfl⟩ := l3 (c2.trans hl)
    have hx : x = 25 := s25
    subst hx
    have hy := fnc_25 c5
    subst hy
    have hz := hb z (by simp)
    have hl := rbs_len F z F.2.1.length
    have hl2 := hs_len F z F.2.1.length
    have := hq.n; have := hq.l
    exact ⟨_, _, _, rq_rp h hv (wi64 (by omega) (by omega)), out_pos hD (by omega) rfl (by omega)⟩
  by_cases s34 : b.getD 0 0 = 34
  · have hl : Sp.ln b = 3 := by unfold Sp.ln; rw [cond_eff s16, cond_eff s17, cond_eff s62, cond_eff s20, cond_eff s25, cond_ett s34]
    obtain ⟨x, y, z, rfl⟩ := l3 (c2.trans hl)
    have hx : x = 34 := s34
    subst hx
    by_cases o0 : Sp.orI .i64 (IntKind.wrap .i64 (IntKind.wrap .i64 (List.getD [34, y, z] 1 0) * 256)) (IntKind.wrap .i64 (List.getD [34, y, z] 2 0)) = 256
    · exact ⟨_, _, _, rq_id0 h o0, out_pos hD (by simp) rfl (by simp)⟩
    by_cases o1 : Sp.orI .i64 (IntKind.wrap .i64 (IntKind.wrap .i64 (List.getD [34, y, z] 1 0) * 256)) (IntKind.wrap .i64 (List.getD [34, y, z] 2 0)) = 257
    · exact ⟨_, _, _, rq_id1 h o1, out_pos hD (by simp) rfl (by simp)⟩
    by_cases o2 : Sp.orI .i64 (IntKind.wrap .i64 (IntKind.wrap .i64 (List.getD [34, y, z] 1 0) * 256)) (IntKind.wrap .i64 (List.getD [34, y, z] 2 0)) = 258
    · exact ⟨_, _, _, rq_id2 h o2, out_pos hD (by simp) rfl (by simp)⟩
    by_cases o3 : Sp.orI .i64 (IntKind.wrap .i64 (IntKind.wrap .i64 (List.getD [34, y, z] 1 0) * 256)) (IntKind.wrap .i64 (List.getD [34, y, z] 2 0)) = 259
    · exact ⟨_, _, _, rq_id3 h o3, out_pos hD (by simp) rfl (by simp)⟩
    exact ⟨_, _, _, rq_idx h o0 o1 o2 o3, out_neg hD⟩
  by_cases s39 : b.getD 0 0 = 39
  rotate_left
  · exfalso
    apply c0
    unfold Sp.ln
    rw [cond_eff s16, cond_eff s17, cond_eff s62, cond_eff s20, cond_eff s25, cond_eff s34, cond_eff s39]
  have h1 := c1' (Or.inr s39)
  obtain ⟨e0, e1⟩ := sdn_b2 n0 hn
  rcases fnc_39 s39 c5 with hk | hk
  · have hl : Sp.ln b = 2 := by rw [ln_39 s39 c4, if_neg (by omega)]
    obtain ⟨x, y, rfl⟩ := l2 (c2.trans hl)
    have hx : x = 39 := s39
    subst hx
    have hy : y = 1 := hk
    subst hy
    by_cases hu : now < (Sp.tck s now).2.2.2.2.1
    · exact ⟨_, _, _, rq_q0 h h1 hu, out_neg hD⟩
    by_cases hl0 : (Sp.tck s now).2.2.1 = 0
    · exact ⟨_, _, _, rq_q1 h h1 hu hl0, out_pos (ded_sv (sv_seed hT h1 (by omega) e1) n0 (by omega)) (by simp) rfl (by simp)⟩
    · exact ⟨_, _, _, rq_qz h h1 hu hl0, out_pos hD (by simp) rfl (by simp)⟩
  · have hl : Sp.ln b = 4 := by rw [ln_39 s39 c4, if_pos hk]
    obtain ⟨w, x, y, z, rfl⟩ := l4 (c2.trans hl)
    have hx : w = 39 := s39
    subst hx
    have hy : x = 2 := hk
    subst hy
    by_cases hz : (Sp.tck s now).2.1 = 0
    · exact ⟨_, _, _, rq_y0 h h1 hz, out_neg hD⟩
    have hkp := (key_ok hT.e0 hT.e1).1
    have t0 := hT.t0; have t1 := hT.t1
    by_cases hK : Sp.kyn y z = Sp.key (Sp.tck s now).2.1 1
    · exact ⟨_, _, _, rq_yr h h1 hz hkp hK, out_pos (ded_sv (sv_mk hT h1 (by decide) (by decide) (by decide) (by decide)) n0 (by omega)) (by simp) rfl (by simp)⟩
    by_cases h3 : (Sp.sdW (Sp.tck s now)).2.2.2.1 < 3
    · have e3 : (Sp.sdW (Sp.tck s now)).2.2.2.1 = (Sp.tck s now).2.2.2.1 + 1 := by unfold Sp.sdW; dsimp only; rw [wi64 (by omega) (by omega)]
      refine ⟨_, _, _, rq_yw h h1 hz hkp hK h3, out_neg (ded_sv ?_ n0 (by omega))⟩
      unfold Sp.sdW at h3 e3 ⊢
      dsimp only at h3 e3
      exact sv_mk hT h1 hT.l0 hT.l1 (by omega) (by omega)
    · refine ⟨_, _, _, rq_yx h h1 hz hkp hK h3, out_neg (ded_sv ?_ n0 (by omega))⟩
      exact sv_mku hT h1 hT.l0 hT.l1 (by decide) (by decide) (by rw [wi64 (by omega) (by omega)]; omega) (by rw [wi64 (by omega) (by omega)]; omega)
end
end Go.Ev
set_option linter.unusedSimpArgs false
set_option linter.unusedVariables false
namespace Go.Ev
open Go
set_option maxRecDepth 100000
set_option maxHeartbeats 4000000
abbrev CaT := Int × List Int × Unit
theorem rq_nil {s : SvT} {F : FsT} {now : Int} (h : Rq s F now) : F_14 s F [] now = some (s, F, [], ()) := by
  unfold F_14
  rw [(sv_pv s).1, (sv_pv s).2, gd_tt, sv_iff.2 h.s, Bool.not_true, cond_f, h.f, h.g, gd_tt, Bool.not_true, cond_f, (din_pv now _ _).1, (din_pv now _ _).2, gd_tt, inr_iff.2 ⟨h.n0, h.n1⟩, Bool.not_true, cond_f,
    (din_pv _ 1 1023).1, (din_pv _ 1 1023).2, gd_tt]
  rfl
theorem rq_any {s : SvT} {F : FsT} {now : Int} {b : List Int} (h : Rq s F now) (hs : Sm F) (hv : Sp.vf F = true) (hn : now ≤ 200000000000) (hb1 : b.length ≤ 8) (hb : ∀ y ∈ b, 0 ≤ y ∧ y < 256) : ∃ x g a, F_14 s F b now = some (x, g, a, ()) ∧ Oua s F now b x g a ∧ (b = [] → a = []) := by
  by_cases e : b = []
  · subst e
    exact ⟨_, _, _, rq_nil h, ⟨h.s, by simp, Or.inl rfl, Or.inl ⟨rfl, by simp⟩⟩, fun _ => rfl⟩
  · have h0 : 1 ≤ b.length := by
      rcases Nat.eq_zero_or_pos b.length with h | h
      · exact absurd (List.eq_nil_of_length_eq_zero h) e
      · exact h
    obtain ⟨x, g, a, h1, h2⟩ := rq_all h hs hv hn h0 hb1 hb
    exact ⟨x, g, a, h1, h2, fun h => absurd h e⟩
section
variable {s x : SvT} {F g : FsT} {t se n i : Int} {l : List CaT} {a b : List Int}
theorem j32f (hs : Sm F) (hv : Sp.vf F = true) : Sp.J_3_2 t se false l n i F s x F = some (.e2 t se false l n i F x F) := by
  have hq := vf_vq hv
  have := hq.n
  unfold Sp.J_3_2
  rw [cond_f, (same_pv hs (by omega)).1, (same_pv hs (by omega)).2, gd_tt]
  rfl
theorem j32t (hs : Sm F) (hv : Sp.vf F = true) (h1 : ¬ se = 1) : Sp.J_3_2 t se true l n i F s x (Sp.clF F) = some (.e1 t se true l n i F x (Sp.clF F)) := by
  have hq := vf_vq hv
  have hn : (Sp.clF F).1.length < 4611686018427387904 := by have := hq.n; show F.1.length < _; omega
  unfold Sp.J_3_2
  rw [cond_t, (clr_pv hs hv).1, (clr_pv hs hv).2, gd_tt, cond_nff rfl, cond_eff h1, (same_pv (clF_sm hs) hn).1, (same_pv (clF_sm hs) hn).2, gd_tt]
  rfl
theorem j31c {R : Type} (k0 : Option R) (k : Int → Int → List CaT → Int → Int → SvT → FsT → Option R) (hs : Sm F) (hv : Sp.vf F = true) (h : Oua s F t b x g a) :
    Sp.B_3_1 (Sp.J_3_1 t (Sp.tck s t).1 a l n i F s x g) k0 (fun t _ _ l n i _ x g => k t 0 l n i x g) (fun t _ _ l n i _ x g => k t 0 l n i x g) = k t 0 l n i x g := by
  unfold Sp.J_3_1
  rcases h.f with ⟨rfl, h2⟩ | ⟨rfl, rfl, h3⟩
  · by_cases h1 : (a.length : Int) = 1
    · have e : (a.getD 0 0 == 84) = false := beq_eq_false_iff_ne.2 (fun e => h2 ⟨by omega, e⟩)
      rw [cond_ett h1, gd_inB (by omega) (by omega), e, j32f hs hv]
      rfl
    · rw [cond_eff h1, j32f hs hv]
      rfl
  · rw [show ((List.length ([84] : List Int) : Nat) : Int) = 1 from rfl, cond_ett rfl, show inB 0 (List.length ([84] : List Int)) = true from rfl, gd_tt, show (List.getD ([84] : List Int) 0 0 == 84) = true from rfl, j32t hs hv h3]
    rfl
theorem oua_ok (hs : Sm F) (hv : Sp.vf F = true) (h : Oua s F t b x g a) : Sm g ∧ Sp.vf g = true := by
  rcases h.f with ⟨rfl, _⟩ | ⟨_, rfl, _⟩
  · exact ⟨hs, hv⟩
  · exact ⟨clF_sm hs, clF_vf hv⟩
end
theorem an_round {m j : Nat} {t : Int} {l : List CaT} {F : FsT} {s : SvT} (hj : j < l.length) (hl : l.length ≤ 40) (hw : 0 ≤ (l.getD j Zd2).1 ∧ (l.getD j Zd2).1 ≤ 4294967295) (hb1 : (l.getD j Zd2).2.1.length ≤ 8) (hb : ∀ y ∈ (l.getD j Zd2).2.1, 0 ≤ y ∧ y < 256)
    (hsv : Sv s) (hs : Sm F) (hv : Sp.vf F = true) (t0 : 0 ≤ t) (t1 : t ≤ j * 4294967295) :
    ∃ x g, Sp.L_3_0 (m + 1) t l l.length j F s = Sp.L_3_0 m (t + (l.getD j Zd2).1) l l.length ((j + 1 : Nat) : Int) g x ∧ Sv x ∧ Sm g ∧ Sp.vf g = true := by
  rw [Sp.L_3_0, cond_dtt (by omega), gd_inB (by omega) (by omega), Int.toNat_natCast]
  generalize l.getD j Zd2 = c at hw hb1 hb ⊢
  obtain ⟨w, b, u⟩ := c
  dsimp only at hw hb1 hb ⊢
  rw [wi64 (n := w) (by omega) (by omega), wi64 (n := t + w) (by omega) (by omega), (tck_pv s _).1, (tck_pv s _).2, gd_tt]
  have hR : Rq s F (t + w) := ⟨hsv, (vf_pv hs).1, by rw [(vf_pv hs).2, hv], by omega, by omega⟩
  obtain ⟨x, g, a, hq0, ho, hnil⟩ := rq_any hR hs hv (by omega) hb1 hb
  have hq := pv_14 _ _ _ _ hq0
  obtain ⟨gs, gv⟩ := oua_ok hs hv ho
  refine ⟨x, g, ?_, ho.sv, gs, gv⟩
  rw [hq.1, hq.2, gd_tt]
  dsimp only
  have hlen := ho.len
  have e1 : (((j + 1 : Nat) : Int)) = IntKind.wrap .i64 ((j : Int) + 1) := by rw [wi64 (by omega) (by omega)]; rfl
  have fin : ∀ {k0}, Sp.B_3_1 (Sp.J_3_1 (t + w) (Sp.tck s (t + w)).1 a l l.length j F s x g) k0 (fun t _ _ l n i _ x g => Sp.L_3_0 m t l n (IntKind.wrap .i64 (i + 1)) g x) (fun t _ _ l n i _ x g => Sp.L_3_0 m t l n (IntKind.wrap .i64 (i + 1)) g x) = Sp.L_3_0 m (t + w) l l.length ((j + 1 : Nat) : Int) g x := by
    intro k0
    rw [j31c k0 (fun t _ l n i x g => Sp.L_3_0 m t l n (IntKind.wrap .i64 (i + 1)) g x) hs hv ho, e1]
  rw [(sv_pv x).1, (sv_pv x).2, gd_tt, sv_iff.2 ho.sv, Bool.not_true, cond_f, (vf_pv gs).1, (vf_pv gs).2, gd_tt, gv, Bool.not_true, cond_f, cond_dff (by omega)]
  by_cases ha : a = []
  · rw [cond_dff (by rw [ha]; simp)]
    exact fin
  have ha0 : 0 < a.length := by
    rcases Nat.eq_zero_or_pos a.length with h | h
    · exact absurd (List.eq_nil_of_length_eq_zero h) ha
    · exact h
  have hb0 : 0 < b.length := by
    rcases Nat.eq_zero_or_pos b.length with h | h
    · exact absurd (hnil (List.eq_nil_of_length_eq_zero h)) ha
    · exact h
  rw [cond_dtt (by omega), cond_eff (by omega), gd_inB (by omega) (by omega), gd_inB (by omega) (by omega)]
  by_cases h1 : a.getD 0 0 = IntKind.wrap .u8 (b.getD 0 0 + 64)
  · rw [cond_ett h1]
    exact fin
  rcases ho.hd with h | h | ⟨c, h⟩
  · exact absurd h ha
  · exact absurd h h1
  rw [cond_eff h1]
  have g1 : ((a.length : Nat) : Int) = 3 := by rw [h]; rfl
  have g2 : a.getD 0 0 = 127 := by rw [h]; rfl
  have g3 : a.getD 1 0 = b.getD 0 0 := by rw [h]; rfl
  rw [cond_ett g1, gd_inB (by omega) (by omega), cond_ett g2, gd_inB (by omega) (by omega), gd_inB (by omega) (by omega), beq_iff_eq.2 g3, Bool.not_true, cond_f]
  exact fin
theorem an_loop {l : List CaT} (hl : l.length ≤ 40) (hw : ∀ j, j < l.length → (0 ≤ (l.getD j Zd2).1 ∧ (l.getD j Zd2).1 ≤ 4294967295) ∧ (l.getD j Zd2).2.1.length ≤ 8 ∧ ∀ y ∈ (l.getD j Zd2).2.1, 0 ≤ y ∧ y < 256) : ∀ (d m j : Nat) (t : Int) (F : FsT) (s : SvT), j + d = l.length → d < m → Sv s → Sm F → Sp.vf F = true → 0 ≤ t → t ≤ j * 4294967295 → Sp.L_3_0 m t l l.length j F s = some .e1 := by
  intro d
  induction d with
  | zero =>
    intro m j t F s hj hm hsv hs hv t0 t1
    obtain ⟨m, rfl⟩ : ∃ k, m = k + 1 := ⟨m - 1, by omega⟩
    rw [Sp.L_3_0, cond_dff (by omega)]
  | succ d ih =>
    intro m j t F s hj hm hsv hs hv t0 t1
    obtain ⟨m, rfl⟩ : ∃ k, m = k + 1 := ⟨m - 1, by omega⟩
    obtain ⟨w1, w2, w3⟩ := hw j (by omega)
    obtain ⟨x, g, e, hx, hg, hgv⟩ := an_round (m := m) (by omega) hl w1 w2 w3 hsv hs hv t0 t1
    rw [e]
    exact ih m (j + 1) _ g x (by omega) (by omega) hx hg hgv (by omega) (by push_cast; omega)
theorem calls_pv (l : List CaT) : Sp.p_11 l = true ∧ ((Sp.v_11 l).1 = true → l.length ≤ 40 ∧ ∀ j, j < l.length → (l.getD j Zd2).2.1.length ≤ 8) := by
  have hF : ∃ b, F_11 l = some (b, ()) ∧ (b = true → l.length ≤ 40 ∧ ∀ j, j < l.length → (l.getD j Zd2).2.1.length ≤ 8) := by
    unfold F_11
    by_cases h1 : (l.length : Int) ≤ 40
    rotate_left
    · rw [cond_dff h1]; exact ⟨false, rfl, fun h => by cases h⟩
    rw [cond_dtt h1]
    have hf := find0 (fun m i => Sp.L_11_42_0_0 m l l.length i) (n := l.length) (fun j => decide (((l.getD j Zd2).2.1.length : Int) > 8)) (ex := fun j => some (.e0 (j : Int))) (e1 := some .e1) (by omega) (fun m j hj => by
      show Sp.L_11_42_0_0 (m + 1) l l.length j = bif decide (((l.getD j Zd2).2.1.length : Int) > 8) then some (.e0 (j : Int)) else Sp.L_11_42_0_0 m l l.length ((j + 1 : Nat) : Int)
      rw [Sp.L_11_42_0_0, cond_dtt (by omega), gd_inB (by omega) (by omega), Int.toNat_natCast, wi64 (by omega) (by omega)]
      push_cast
      rfl) (fun m => by
      show Sp.L_11_42_0_0 (m + 1) l l.length l.length = _
      rw [Sp.L_11_42_0_0, cond_dff (by omega)])
    rw [hf]
    cases e : fnd (fun j => decide (((l.getD j Zd2).2.1.length : Int) > 8)) l.length 0 with
    | none =>
      refine ⟨true, rfl, fun _ => ⟨by omega, fun j hj => ?_⟩⟩
      have := (fnd_none.1 e) j (by omega) (by omega)
      simp only [decide_eq_false_iff_not] at this
      omega
    | some k =>
      refine ⟨!decide ((k : Int) ≥ 0), rfl, fun h => ?_⟩
      rw [decide_eq_true (by omega)] at h
      cases h
  obtain ⟨b, hb, hh⟩ := hF
  have hq := pv_11 _ hb
  exact ⟨hq.1, by rw [hq.2]; exact hh⟩
theorem plain_3 (F : FsT) (l : List CaT) (_ : wfD (.pair (.slice (.pair (.int .i64) (.pair (.int .i64) (.pair (.int .i64) (.pair (.int .i64) (.pair (.int .i64) (.pair (.int .i64) (.pair .bool (.pair (.int .i64) .unit))))))))) (.pair (.slice (.pair (.int .i64) (.pair (.int .i64) (.pair (.int .i64) (.pair (.int .i64) (.pair (.int .i64) (.pair (.slice (.int .i64)) (.pair (.int .i64) .unit)))))))) (.pair (.int .i64) (.pair .bool .unit)))) F) (wl : wfD (.slice (.pair (.int .u32) (.pair (.slice (.int .u8)) .unit))) l) : F_3 F l = some true := by
  unfold F_3
  rw [aw_pv.1, aw_pv.2, gd_tt, Bool.not_true, cond_f, (few_pv F).1, (few_pv F).2, gd_tt]
  cases hf : Sp.fw F
  · rfl
  have hs := fw_sm hf
  rw [Bool.not_true, cond_f, (vf_pv hs).1, (vf_pv hs).2, gd_tt]
  cases hv : Sp.vf F
  · rfl
  obtain ⟨c1, c2⟩ := calls_pv l
  rw [Bool.not_true, cond_f, c1, gd_tt]
  cases hc : (Sp.v_11 l).1
  · rfl
  obtain ⟨h40, h8⟩ := c2 hc
  rw [Bool.not_true, cond_f, new_pv.1, new_pv.2, gd_tt]
  have v1 : Sv (1, 0, 0, 0, 0, 0, ()) := sv_iff.1 (by decide)
  have hw : ∀ j, j < l.length → (0 ≤ (l.getD j Zd2).1 ∧ (l.getD j Zd2).1 ≤ 4294967295) ∧ (l.getD j Zd2).2.1.length ≤ 8 ∧ ∀ y ∈ (l.getD j Zd2).2.1, 0 ≤ y ∧ y < 256 := by
    intro j hj
    have hm : l.getD j Zd2 ∈ l := by rw [getD_at _ hj]; exact List.getElem_mem hj
    obtain ⟨a1, a2, _⟩ := wl _ hm
    refine ⟨?_, h8 j hj, fun y hy => ?_⟩
    · generalize (l.getD j Zd2).1 = z at a1 ⊢
      simp [wfD, Lit.wf, IntKind.min, IntKind.max, IntKind.signed, IntKind.bits] at a1
      omega
    · have := a2 y hy
      simp [wfD, Lit.wf, IntKind.min, IntKind.max, IntKind.signed, IntKind.bits] at this
      omega
  rw [show Sp.L_3_0 4611686018427387904 0 l l.length 0 F (Prod.fst ((1, 0, 0, 0, 0, 0, ()), ())) = some .e1 from an_loop h40 hw l.length _ 0 0 F _ (by omega) (by omega) v1 hs hv (by decide) (by simp)]
  rfl
end Go.Ev
