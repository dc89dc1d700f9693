/- Helpers: functions of the program as Lean functions, and what they compute. No condition. -/
import Derived.Test.YthepgngekfoheaaE4P2
import Derived.Test.YthepgngekfoheaaG4P0
import Derived.Test.YthepgngekfoheaaE4P3
import Derived.Test.YthepgngekfoheaaG4P2
import Derived.Test.YthepgngekfoheaaG4P3
set_option maxRecDepth 10000
set_option linter.unusedVariables false
set_option linter.unusedSimpArgs false
namespace Go.Ev
open Go
set_option maxRecDepth 100000
set_option maxHeartbeats 4000000
set_option linter.unusedVariables false
noncomputable section

noncomputable def sm_25 : Nat → Option Summ := fun f => bif Nat.beq f 38 then some s_38 else none


noncomputable def F_25 (a0 : (Int × (Int × (Int × (Int × (Int × (Int × (Bool × (Int × Unit))))))))) : Option (Bool × Unit) :=
  gd (Sp.p_38 a0) (some (!(Sp.v_38 a0).1, PUnit.unit))
noncomputable def Sp.p_25 (a0 : (Int × (Int × (Int × (Int × (Int × (Int × (Bool × (Int × Unit))))))))) : Bool := (F_25 a0).isSome
noncomputable def Sp.v_25 (a0 : (Int × (Int × (Int × (Int × (Int × (Int × (Bool × (Int × Unit))))))))) : Bool × Unit := (F_25 a0).getD (dfH [.bool])
noncomputable def s_25 : Summ := shN [(.pair (.int .i64) (.pair (.int .i64) (.pair (.int .i64) (.pair (.int .i64) (.pair (.int .i64) (.pair (.int .i64) (.pair .bool (.pair (.int .i64) .unit))))))))] [.bool] (fun x => Sp.p_25 x.1) (fun x => Sp.v_25 x.1)
end
end Go.Ev
set_option linter.unusedSimpArgs false
set_option linter.unusedVariables false
namespace Go.Ev
open Go
set_option maxRecDepth 100000
set_option maxHeartbeats 4000000
abbrev CfT := Int × Int × Int × Int × Int × Int × Bool × Int × Unit
abbrev FaT := Int × Int × Int × Int × Int × List Int × Int × Unit
abbrev FsT := List CfT × List FaT × Int × Bool × Unit
namespace Sp
noncomputable def inr (x l h : Int) : Bool := decide (x ≥ l) && decide (x ≤ h)
noncomputable def cfg (c : CfT) : Bool := inr c.1 1 16777215 && (inr c.2.1 1 100 && (inr c.2.2.1 1 100 && (inr c.2.2.2.1 1 100 && (inr c.2.2.2.2.1 c.2.2.2.1 255 && (inr c.2.2.2.2.2.1 0 255 && inr c.2.2.2.2.2.2.2.1 0 8)))))
noncomputable def val (x : Int) : Bool := inr x (-1099511627776) 1099511627776
noncomputable def vals (l : List Int) : Bool := (List.range l.length).all fun j => val (l.getD j 0)
/-- A bit of a status. -/
noncomputable def bt (f : FaT) (k : Int) : Bool := andI .i64 f.1 k == k
noncomputable def kno (f : FaT) : Bool := decide (f.2.2.2.2.1 ≥ 1) && (decide (f.2.2.1 ≥ 1) && decide (f.2.2.2.2.2.2.1 ≥ 1))
noncomputable def unk (f : FaT) : Bool := (f.2.2.1 == 0) && ((f.2.2.2.1 == 0) && ((f.2.2.2.2.1 == 0) && (f.2.2.2.2.2.2.1 == 0)))
noncomputable def q2 (f : FaT) : Bool := !(bt f 2 && (f.2.2.2.1 != 0))
noncomputable def q1 (c : CfT) (f : FaT) : Bool := (bt f 4 == (f.2.2.1 == 2)) && (!bt f 16 || (bt f 4 && c.2.2.2.2.2.2.1))
noncomputable def q0 (cyc : Int) (f : FaT) : Bool := !bt f 1 || ((bt f 2 && bt f 8) && (f.2.2.2.2.2.2.1 == cyc))
noncomputable def rngs (c : CfT) (f : FaT) (cyc : Int) : Bool := inr f.1 0 31 && (inr f.2.1 (0 - c.2.2.1) c.2.1 && (inr f.2.2.1 0 2 && (inr f.2.2.2.1 0 (c.2.2.2.2.1 - 1) && (inr f.2.2.2.2.1 0 255 && inr f.2.2.2.2.2.2.1 0 cyc))))
noncomputable def frq (c : CfT) (f : FaT) : Bool := (((f.2.2.2.2.2.1.length : Int) == 0) || ((f.2.2.2.2.2.1.length : Int) == c.2.2.2.2.2.2.2.1)) && vals f.2.2.2.2.2.1
noncomputable def fin (c : CfT) (f : FaT) : Bool := bif bt f 2 || bt f 4 then kno f && ((f.2.2.2.2.2.1.length : Int) == c.2.2.2.2.2.2.2.1) else unk f && ((f.2.2.2.2.2.1.length : Int) == 0)
/-- The state of a fault is valid. -/
noncomputable def rgt (c : CfT) (f : FaT) (cyc : Int) : Bool := rngs c f cyc && (frq c f && ((q0 cyc f && (q1 c f && q2 f)) && fin c f))
end Sp
theorem inr_iff {x l h : Int} : Sp.inr x l h = true ↔ l ≤ x ∧ x ≤ h := by simp [Sp.inr]
theorem wit_ok (x l h : Int) : F_27 x l h = some (Sp.inr x l h, ()) := by
  unfold F_27 Sp.inr
  cases decide (x ≥ l) <;> rfl
theorem wit_pv (x l h : Int) : Sp.p_27 x l h = true ∧ Sp.v_27 x l h = (Sp.inr x l h, ()) := pv_27 x l h (wit_ok x l h)
theorem cfg_ok (c : CfT) : F_38 c = some (Sp.cfg c, ()) := by
  unfold F_38 Sp.cfg
  simp only [wit_pv, gd_tt]
  cases Sp.inr c.1 1 16777215 <;> try rfl
  cases Sp.inr c.2.1 1 100 <;> try rfl
  cases Sp.inr c.2.2.1 1 100 <;> try rfl
  cases Sp.inr c.2.2.2.1 1 100 <;> try rfl
  cases Sp.inr c.2.2.2.2.1 c.2.2.2.1 255 <;> try rfl
  cases Sp.inr c.2.2.2.2.2.1 0 255 <;> rfl
theorem cfg_pv (c : CfT) : Sp.p_38 c = true ∧ Sp.v_38 c = (Sp.cfg c, ()) := pv_38 c (cfg_ok c)
theorem has_pv (f : FaT) (k : Int) : Sp.p_40 f k = true ∧ Sp.v_40 f k = (Sp.bt f k, ()) := pv_40 f k rfl
/-- Bits of small numbers. -/
theorem tab (P : Int → Bool) (h : (List.range 32).all (fun n => P (n : Int)) = true) {s : Int} (h0 : 0 ≤ s) (h1 : s ≤ 31) : P s = true := by
  obtain ⟨n, rfl⟩ := Int.eq_ofNat_of_zero_le h0
  rw [List.all_eq_true] at h
  exact h n (by rw [List.mem_range]; omega)
theorem bt_ne {s : Int} (h0 : 0 ≤ s) (h1 : s ≤ 31) : ((Sp.andI .i64 s 1 != 0) = (Sp.andI .i64 s 1 == 1) ∧ (Sp.andI .i64 s 2 != 0) = (Sp.andI .i64 s 2 == 2) ∧ (Sp.andI .i64 s 4 != 0) = (Sp.andI .i64 s 4 == 4)) ∧ ((Sp.andI .i64 s 8 != 0) = (Sp.andI .i64 s 8 == 8) ∧ (Sp.andI .i64 s 16 != 0) = (Sp.andI .i64 s 16 == 16)) ∧ (Sp.andI .i64 s 10 == 10) = ((Sp.andI .i64 s 2 == 2) && (Sp.andI .i64 s 8 == 8)) ∧ (Sp.andI .i64 s 6 != 0) = ((Sp.andI .i64 s 2 == 2) || (Sp.andI .i64 s 4 == 4)) := by
  have := tab (fun s => ((((Sp.andI .i64 s 1 != 0) == (Sp.andI .i64 s 1 == 1)) && ((Sp.andI .i64 s 2 != 0) == (Sp.andI .i64 s 2 == 2)) && ((Sp.andI .i64 s 4 != 0) == (Sp.andI .i64 s 4 == 4)))) && ((((Sp.andI .i64 s 8 != 0) == (Sp.andI .i64 s 8 == 8)) && ((Sp.andI .i64 s 16 != 0) == (Sp.andI .i64 s 16 == 16)))) && ((Sp.andI .i64 s 10 == 10) == ((Sp.andI .i64 s 2 == 2) && (Sp.andI .i64 s 8 == 8))) && ((Sp.andI .i64 s 6 != 0) == ((Sp.andI .i64 s 2 == 2) || (Sp.andI .i64 s 4 == 4)))) (by decide +kernel) h0 h1
  simp only [Bool.and_eq_true, beq_iff_eq] at this
  exact ⟨⟨this.1.1.1.1.1, this.1.1.1.1.2, this.1.1.1.2⟩, this.1.1.2, this.1.2, this.2⟩
end Go.Ev
set_option linter.unusedSimpArgs false
set_option linter.unusedVariables false
namespace Go.Ev
open Go
set_option maxRecDepth 100000
set_option maxHeartbeats 4000000
theorem fnd_all (P : Nat → Bool) (n : Nat) : (fnd (fun j => !P j) n 0 = none) ↔ (List.range n).all P = true := by
  rw [fnd_none, List.all_eq_true]
  constructor
  · intro h x hx
    have := h x (by omega) (by rw [List.mem_range] at hx; omega)
    simpa using this
  · intro h i _ hi
    rw [h i (by rw [List.mem_range]; omega)]
    rfl
namespace Sp
noncomputable def frm (c : CfT) (l : List Int) : Bool := ((l.length : Int) == c.2.2.2.2.2.2.2.1) && vals l
noncomputable def cfgs (l : List CfT) : Bool := (List.range l.length).all fun j => cfg (l.getD j Zd0)
noncomputable def rgts (F : FsT) : Bool := (List.range F.2.1.length).all fun j => rgt (F.1.getD j Zd0) (F.2.1.getD j Zd1) F.2.2.1
/-- A state is valid. -/
noncomputable def vf (F : FsT) : Bool := decide (F.1.length ≤ 64) && (cfgs F.1 && (dst (F.1.map fun c => c.1) && (((F.2.1.length : Int) == F.1.length) && (inr F.2.2.1 0 1073741824 && ((!F.2.2.2.1 || decide (F.2.2.1 ≥ 1)) && rgts F)))))
end Sp
theorem val_pv (x : Int) : Sp.p_55 x = true ∧ Sp.v_55 x = (Sp.val x, ()) := by
  refine pv_55 x ?_
  unfold F_55
  rw [(wit_pv _ _ _).1, (wit_pv _ _ _).2, gd_tt]
  rfl
theorem frm_ok (c : CfT) (l : List Int) (h : l.length < 4611686018427387904) : F_39 c l = some (Sp.frm c l, ()) := by
  unfold F_39 Sp.frm
  cases (l.length : Int) == c.2.2.2.2.2.2.2.1
  · rfl
  have hf := find0 (fun m i => Sp.L_39_57_0_0 m l l.length i c) (n := l.length) (fun j => !Sp.val (l.getD j 0)) (ex := fun j => some (.e0 (j : Int) c)) (e1 := some (.e1 c)) h (fun m j hj => by
    show Sp.L_39_57_0_0 (m + 1) l l.length j c = bif !Sp.val (l.getD j 0) then some (.e0 (j : Int) c) else Sp.L_39_57_0_0 m l l.length ((j + 1 : Nat) : Int) c
    rw [Sp.L_39_57_0_0, cond_dtt (by omega), gd_inB (by omega) (by omega), Int.toNat_natCast, (val_pv _).1, (val_pv _).2, gd_tt, wi64 (by omega) (by omega)]
    push_cast
    rfl) (fun m => by
    show Sp.L_39_57_0_0 (m + 1) l l.length l.length c = _
    rw [Sp.L_39_57_0_0, cond_dff (by omega)])
  rw [hf, cond_t]
  cases hk : fnd (fun j => !Sp.val (l.getD j 0)) l.length 0 with
  | none =>
    have : Sp.vals l = true := (fnd_all (fun j => Sp.val (l.getD j 0)) l.length).1 hk
    rw [this]
    rfl
  | some k =>
    have : Sp.vals l = false := by
      cases hv : Sp.vals l
      · rfl
      · have := (fnd_all (fun j => Sp.val (l.getD j 0)) l.length).2 hv
        rw [this] at hk; cases hk
    rw [this]
    simp only [Sp.B_39_57_0_0]
    rw [decide_eq_true (by omega)]
    rfl
theorem frm_pv (c : CfT) (l : List Int) (h : l.length < 4611686018427387904) : Sp.p_39 c l = true ∧ Sp.v_39 c l = (Sp.frm c l, ()) := pv_39 c l (frm_ok c l h)
section
variable {c : CfT} {f : FaT} {cyc : Int}
theorem kn_pv (h0 : 0 ≤ f.1) (h1 : f.1 ≤ 31) : Sp.p_41 f = true ∧ Sp.v_41 f = (Sp.bt f 2 || Sp.bt f 4, ()) := by
  refine pv_41 f ?_
  unfold F_41 Sp.bt
  rw [(bt_ne h0 h1).2.2.2]
theorem bt10 (h0 : 0 ≤ f.1) (h1 : f.1 ≤ 31) : Sp.bt f 10 = (Sp.bt f 2 && Sp.bt f 8) := (bt_ne h0 h1).2.2.1
theorem gJ3 (h0 : 0 ≤ f.1) (h1 : f.1 ≤ 31) : Sp.J_28_3 c f = some (bif Sp.bt f 2 || Sp.bt f 4 then (bif Sp.kno f then .e0 c f else .e1) else .e2 c f) := by
  unfold Sp.J_28_3 Sp.kno
  rw [(kn_pv h0 h1).1, (kn_pv h0 h1).2, gd_tt]
  cases Sp.bt f 2 || Sp.bt f 4 <;> try rfl
  cases decide (f.2.2.2.2.1 ≥ 1) <;> try rfl
  cases decide (f.2.2.1 ≥ 1) <;> try rfl
  cases decide (f.2.2.2.2.2.2.1 ≥ 1) <;> rfl
theorem gJ2 (h0 : 0 ≤ f.1) (h1 : f.1 ≤ 31) : Sp.J_28_2 c f = some (bif Sp.q2 f then (bif Sp.bt f 2 || Sp.bt f 4 then (bif Sp.kno f then .e1 c f else .e0) else .e2 c f) else .e0) := by
  unfold Sp.J_28_2 Sp.q2
  simp only [has_pv, gd_tt, gJ3 h0 h1]
  cases Sp.bt f 2 <;> cases f.2.2.2.1 != 0 <;> cases Sp.bt f 4 <;> cases Sp.kno f <;> rfl
theorem gJ1 (h0 : 0 ≤ f.1) (h1 : f.1 ≤ 31) : Sp.J_28_1 c f = some (bif Sp.q1 c f && Sp.q2 f then (bif Sp.bt f 2 || Sp.bt f 4 then (bif Sp.kno f then .e1 c f else .e0) else .e2 c f) else .e0) := by
  unfold Sp.J_28_1 Sp.q1
  simp only [has_pv, gd_tt, gJ2 h0 h1]
  cases Sp.bt f 4 <;> cases f.2.2.1 == 2 <;> cases Sp.bt f 16 <;> cases c.2.2.2.2.2.2.1 <;> cases Sp.q2 f <;> cases Sp.bt f 2 <;> cases Sp.kno f <;> rfl
theorem gJ0 (h0 : 0 ≤ f.1) (h1 : f.1 ≤ 31) : Sp.J_28_0 cyc c f = some (bif Sp.q0 cyc f && (Sp.q1 c f && Sp.q2 f) then (bif Sp.bt f 2 || Sp.bt f 4 then (bif Sp.kno f then .e1 c f else .e0) else bif Sp.unk f then .e2 f else .e0) else .e0) := by
  unfold Sp.J_28_0 Sp.q0 Sp.unk
  simp only [has_pv, gd_tt, gJ1 h0 h1, bt10 h0 h1]
  have hz : ∀ x y : Int, (bif !(x == y) then (some (Sp.E_28_0.e0) : Option Sp.E_28_0) else none) = (bif x != y then some (Sp.E_28_0.e0) else none) := fun _ _ => rfl
  cases e1 : f.2.2.1 == 0 <;> cases e2 : f.2.2.2.1 == 0 <;> cases e3 : f.2.2.2.2.1 == 0 <;> cases e4 : f.2.2.2.2.2.2.1 == 0 <;> cases e5 : f.2.2.2.2.2.2.1 == cyc <;> cases Sp.q1 c f && Sp.q2 f <;> cases Sp.bt f 1 <;> cases Sp.bt f 2 <;> cases Sp.bt f 8 <;> cases Sp.bt f 4 <;> cases Sp.kno f <;> simp only [bne, e1, e2, e3, e4, e5, Sp.B_28_1, Bool.not_true, Bool.not_false, cond_true, cond_false, Bool.and_true, Bool.and_false, Bool.true_and, Bool.false_and, Bool.or_true, Bool.or_false, Bool.true_or, Bool.false_or]
theorem right_ok (hc : Sp.cfg c = true) (hfr : f.2.2.2.2.2.1.length < 4611686018427387904) : F_28 c f cyc = some (Sp.rgt c f cyc, ()) := by
  simp only [Sp.cfg, Bool.and_eq_true, inr_iff] at hc
  unfold F_28 Sp.rgt Sp.rngs
  simp only [wit_pv, gd_tt]
  rw [wi64 (n := 0 - c.2.2.1) (by omega) (by omega), wi64 (n := c.2.2.2.2.1 - 1) (by omega) (by omega)]
  cases h1 : Sp.inr f.1 0 31
  · rfl
  have hb := inr_iff.1 h1
  cases Sp.inr f.2.1 (0 - c.2.2.1) c.2.1
  · rfl
  cases Sp.inr f.2.2.1 0 2
  · rfl
  cases Sp.inr f.2.2.2.1 0 (c.2.2.2.2.1 - 1)
  · rfl
  cases Sp.inr f.2.2.2.2.1 0 255
  · rfl
  cases Sp.inr f.2.2.2.2.2.2.1 0 cyc
  · rfl
  simp only [Bool.not_true, cond_f, Bool.and_true, Bool.true_and]
  simp only [frm_pv _ _ hfr, gd_tt, gJ0 hb.1 hb.2]
  unfold Sp.frq Sp.fin Sp.frm
  by_cases hl : f.2.2.2.2.2.1 = []
  · have hv : Sp.vals f.2.2.2.2.2.1 = true := by rw [hl]; rfl
    have hz : ((f.2.2.2.2.2.1.length : Int) == 0) = true := by rw [hl]; rfl
    rw [cond_dff (by rw [hl]; decide), hv, hz]
    cases e1 : ((f.2.2.2.2.2.1.length : Int) == c.2.2.2.2.2.2.2.1) <;> cases Sp.bt f 2 <;> cases Sp.bt f 4 <;> cases Sp.q0 cyc f && (Sp.q1 c f && Sp.q2 f) <;> cases Sp.kno f <;> cases Sp.unk f <;> simp only [bne, hz, e1, Sp.B_28_0, Bool.not_true, Bool.not_false, cond_true, cond_false, Bool.and_true, Bool.and_false, Bool.true_and, Bool.false_and, Bool.or_true, Bool.or_false, Bool.true_or, Bool.false_or]
  · have hp : 0 < f.2.2.2.2.2.1.length := List.length_pos_iff.2 hl
    have hz : ((f.2.2.2.2.2.1.length : Int) == 0) = false := beq_eq_false_iff_ne.2 (by omega)
    rw [cond_dtt (by omega), hz]
    cases e1 : ((f.2.2.2.2.2.1.length : Int) == c.2.2.2.2.2.2.2.1) <;> cases Sp.vals f.2.2.2.2.2.1 <;> cases Sp.bt f 2 <;> cases Sp.bt f 4 <;> cases Sp.q0 cyc f && (Sp.q1 c f && Sp.q2 f) <;> cases Sp.kno f <;> cases Sp.unk f <;> simp only [bne, hz, e1, Sp.B_28_0, Bool.not_true, Bool.not_false, cond_true, cond_false, Bool.and_true, Bool.and_false, Bool.true_and, Bool.false_and, Bool.or_true, Bool.or_false, Bool.true_or, Bool.false_or]
theorem right_pv (hc : Sp.cfg c = true) (hfr : f.2.2.2.2.2.1.length < 4611686018427387904) : Sp.p_28 c f cyc = true ∧ Sp.v_28 c f cyc = (Sp.rgt c f cyc, ()) := pv_28 c f cyc (right_ok hc hfr)
end
/-- Memory is not great. -/
structure Sm (F : FsT) : Prop where
  l : F.2.1.length < 4611686018427387904
  f : ∀ j, j < F.2.1.length → (F.2.1.getD j Zd1).2.2.2.2.2.1.length < 4611686018427387904
theorem cfgs_at {l : List CfT} (h : Sp.cfgs l = true) {j : Nat} (hj : j < l.length) : Sp.cfg (l.getD j Zd0) = true := by
  unfold Sp.cfgs at h
  rw [List.all_eq_true] at h
  exact h j (by rw [List.mem_range]; exact hj)
theorem vJ0 {F : FsT} (hs : Sm F) (hc : Sp.cfgs F.1 = true) (hl : F.2.1.length = F.1.length) : Sp.J_10_0 F = some (bif Sp.rgts F then .e1 else .e0) := by
  have := all0 (fun m i => Sp.L_10_1 m F.2.1 F.2.1.length i F) (n := F.2.1.length) (fun j => Sp.rgt (F.1.getD j Zd0) (F.2.1.getD j Zd1) F.2.2.1) (e0 := some .e0) (e1 := some .e1) hs.l (fun m j hj => by
    show Sp.L_10_1 (m + 1) F.2.1 F.2.1.length j F = bif Sp.rgt (F.1.getD j Zd0) (F.2.1.getD j Zd1) F.2.2.1 then Sp.L_10_1 m F.2.1 F.2.1.length ((j + 1 : Nat) : Int) F else some .e0
    have hr := right_pv (cyc := F.2.2.1) (cfgs_at hc (j := j) (by omega)) (hs.f j hj)
    rw [Sp.L_10_1, cond_dtt (by omega), gd_inB (by omega) (by omega), gd_inB (by omega) (by omega), Int.toNat_natCast, hr.1, hr.2, gd_tt, wi64 (by have := hs.l; omega) (by have := hs.l; omega)]
    push_cast
    cases Sp.rgt (F.1.getD j Zd0) (F.2.1.getD j Zd1) F.2.2.1 <;> rfl) (fun m => by
    show Sp.L_10_1 (m + 1) F.2.1 F.2.1.length F.2.1.length F = _
    rw [Sp.L_10_1, cond_dff (by omega)])
  unfold Sp.J_10_0
  rw [this]
  unfold Sp.rgts
  cases (List.range F.2.1.length).all fun j => Sp.rgt (F.1.getD j Zd0) (F.2.1.getD j Zd1) F.2.2.1 <;> rfl
theorem vf_ok {F : FsT} (hs : Sm F) : F_10 F = some (Sp.vf F, ()) := by
  unfold F_10 Sp.vf
  by_cases h1 : (F.1.length : Int) > 64
  · rw [cond_dtt h1, decide_eq_false (by omega)]; rfl
  rw [cond_dff h1, decide_eq_true (p := F.1.length ≤ 64) (by omega), Bool.true_and]
  have hf := find0 (fun m i => Sp.L_10_35_0_0 m F.1 F.1.length i F) (n := F.1.length) (fun j => !Sp.cfg (F.1.getD j Zd0)) (ex := fun j => some (.e0 (j : Int) F)) (e1 := some (.e1 F)) (by omega) (fun m j hj => by
    show Sp.L_10_35_0_0 (m + 1) F.1 F.1.length j F = bif !Sp.cfg (F.1.getD j Zd0) then some (.e0 (j : Int) F) else Sp.L_10_35_0_0 m F.1 F.1.length ((j + 1 : Nat) : Int) F
    rw [Sp.L_10_35_0_0, cond_dtt (by omega), gd_inB (by omega) (by omega), Int.toNat_natCast, (cfg_pv _).1, (cfg_pv _).2, gd_tt, wi64 (by omega) (by omega)]
    push_cast
    rfl) (fun m => by
    show Sp.L_10_35_0_0 (m + 1) F.1 F.1.length F.1.length F = _
    rw [Sp.L_10_35_0_0, cond_dff (by omega)])
  rw [hf]
  cases hk : fnd (fun j => !Sp.cfg (F.1.getD j Zd0)) F.1.length 0 with
  | some k =>
    have : Sp.cfgs F.1 = false := by
      cases hv : Sp.cfgs F.1
      · rfl
      · have := (fnd_all (fun j => Sp.cfg (F.1.getD j Zd0)) F.1.length).2 hv
        rw [this] at hk; cases hk
    rw [this]
    simp only [Sp.B_10_35_0_0]
    rw [cond_dtt (by omega)]
    rfl
  | none =>
    have hc : Sp.cfgs F.1 = true := (fnd_all (fun j => Sp.cfg (F.1.getD j Zd0)) F.1.length).1 hk
    rw [hc]
    simp only [Sp.B_10_35_0_0, Bool.true_and]
    have em : (List.map (fun (y : Ty.den CfgTy) => Prod.fst y) F.1) = (F.1.map fun c => c.1) := rfl
    rw [em]
    cases Sp.dst (F.1.map fun c => c.1)
    · rfl
    simp only [Bool.not_true, cond_f, Bool.true_and]
    by_cases hl : (F.2.1.length : Int) = (F.1.length : Int)
    rotate_left
    · rw [cond_ntt hl, beq_eq_false_iff_ne.2 hl]; rfl
    rw [cond_nff hl, beq_iff_eq.2 hl, Bool.true_and, (wit_pv _ _ _).1, (wit_pv _ _ _).2, gd_tt]
    cases Sp.inr F.2.2.1 0 1073741824
    · rfl
    simp only [Bool.not_true, cond_f, Bool.true_and]
    rw [vJ0 hs hc (by omega)]
    cases F.2.2.2.1
    · cases Sp.rgts F <;> rfl
    · by_cases hy : F.2.2.1 < 1
      · rw [cond_t, cond_dtt hy, decide_eq_false (by omega)]
        rfl
      · rw [cond_t, cond_dff hy, decide_eq_true (p := F.2.2.1 ≥ 1) (by omega)]
        cases Sp.rgts F <;> rfl
theorem vf_pv {F : FsT} (hs : Sm F) : Sp.p_10 F = true ∧ Sp.v_10 F = (Sp.vf F, ()) := pv_10 F (vf_ok hs)
end Go.Ev
namespace Go.Ev
open Go
set_option maxRecDepth 100000
set_option maxHeartbeats 4000000
set_option linter.unusedVariables false
noncomputable section
abbrev Zt9_0 : Type := List (Int × Int × Int × Int × Int × Int × Bool × Int × Unit) × List (Int × Int × Int × Int × Int × List Int × Int × Unit) × Int × Bool × Unit
abbrev Zy9_1 : Ty := (Ty.pair (Ty.slice (Ty.pair (Ty.int IntKind.i64) (Ty.pair (Ty.int IntKind.i64) (Ty.pair (Ty.int IntKind.i64) (Ty.pair (Ty.int IntKind.i64) (Ty.pair (Ty.int IntKind.i64) (Ty.pair (Ty.int IntKind.i64) (Ty.pair Ty.bool (Ty.pair (Ty.int IntKind.i64) Ty.unit))))))))) (Ty.pair (Ty.slice (Ty.pair (Ty.int IntKind.i64) (Ty.pair (Ty.int IntKind.i64) (Ty.pair (Ty.int IntKind.i64) (Ty.pair (Ty.int IntKind.i64) (Ty.pair (Ty.int IntKind.i64) (Ty.pair (Ty.slice (Ty.int IntKind.i64)) (Ty.pair (Ty.int IntKind.i64) Ty.unit)))))))) (Ty.pair (Ty.int IntKind.i64) (Ty.pair Ty.bool Ty.unit))))
abbrev Zy9_2 : Ty := (.pair (.slice (.pair (.int .i64) (.pair (.int .i64) (.pair (.int .i64) (.pair (.int .i64) (.pair (.int .i64) (.pair (.int .i64) (.pair .bool (.pair (.int .i64) .unit))))))))) (.pair (.slice (.pair (.int .i64) (.pair (.int .i64) (.pair (.int .i64) (.pair (.int .i64) (.pair (.int .i64) (.pair (.slice (.int .i64)) (.pair (.int .i64) .unit)))))))) (.pair (.int .i64) (.pair .bool .unit))))
abbrev Zt9_3 : Type := List (Int × Int × Int × Int × Int × List Int × Int × Unit)

noncomputable def sm_9 : Nat → Option Summ := fun f => none
noncomputable def T_9_37_0_0 (p0 : Zt9_3) (p1 : Int) (p2 : Int) (p3 : Zt9_0) : St := St.mk ([CV.pure (Ty.slice (Ty.pair (Ty.int IntKind.i64) (Ty.pair (Ty.int IntKind.i64) (Ty.pair (Ty.int IntKind.i64) (Ty.pair (Ty.int IntKind.i64) (Ty.pair (Ty.int IntKind.i64) (Ty.pair (Ty.slice (Ty.int IntKind.i64)) (Ty.pair (Ty.int IntKind.i64) Ty.unit)))))))) p0, CV.clo (23 : Nat) (CV.pure Ty.unit PUnit.unit), jk, jk, jk, jk, jk, CV.int IntKind.i64 p1, CV.int IntKind.i64 p2] ++ (jl 10)) [Blk.mem (CV.pure Zy9_1 p3)] (1 : Nat)
noncomputable def X_9_37_0_0_0 (p2 : Int) (p3 : Zt9_0) : St := St.mk ([jk, jk, jk, jk, CV.int IntKind.i64 p2] ++ (jl 14)) [Blk.mem (CV.pure Zy9_1 p3)] (1 : Nat)
noncomputable def X_9_37_0_0_1 (p3 : Zt9_0) : St := St.mk (jl 19) [Blk.mem (CV.pure Zy9_1 p3)] (1 : Nat)
inductive Sp.E_9_37_0_0 where
  | e0 (p2 : Int) (p3 : Zt9_0)
  | e1 (p3 : Zt9_0)
noncomputable def Sp.B_9_37_0_0 {R : Type} (r : Option Sp.E_9_37_0_0) (k0 : (Int) → (Zt9_0) → Option R) (k1 : (Zt9_0) → Option R) : Option R := match r with
  | none => none
  | some (.e0 p2 p3) => k0 p2 p3
  | some (.e1 p3) => k1 p3
noncomputable def Sp.L_9_37_0_0 : Nat → (List (Int × Int × Int × Int × Int × List Int × Int × Unit)) → (Int) → (Int) → (List (Int × Int × Int × Int × Int × Int × Bool × Int × Unit) × List (Int × Int × Int × Int × Int × List Int × Int × Unit) × Int × Bool × Unit) → Option Sp.E_9_37_0_0
  | 0, _, _, _, _ => none
  | m + 1, p0, p1, p2, p3 => bif decide (p2 < p1) then gd (inB p2 (List.length p0)) (bif decide ((↑(List.length ((List.getD p0 (Int.toNat p2) Zd1).2.2.2.2.2.1)) : Int) > (20 : Int)) then some (Sp.E_9_37_0_0.e0 p2 p3) else Sp.L_9_37_0_0 m p0 p1 (IntKind.wrap IntKind.i64 (p2 + (1 : Int))) p3) else some (Sp.E_9_37_0_0.e1 p3)
noncomputable def G_9_37_0_0 {R : Type} (p0 : Zt9_3) (p1 : Int) (p2 : Int) (p3 : Zt9_0) (k : Ex → St → Option R) : Option R := Sp.B_9_37_0_0 (Sp.L_9_37_0_0 FU p0 p1 p2 p3) (fun p2 p3 => k Ex.ret (X_9_37_0_0_0 p2 p3)) (fun p3 => k (Ex.exit (0 : Nat)) (X_9_37_0_0_1 p3))
noncomputable def o_9_37_0_0 {R : Type} (G : (Zt9_3) → (Int) → (Int) → (Zt9_0) → (Ex → St → Option R) → Option R) : St → (Ex → St → Option R) → Option R := fun T k => match T.sl.getD 0 .junk, T.sl.getD 1 .junk, T.sl.getD 7 .junk, T.sl.getD 8 .junk, T.hp with
  | CV.pure (Ty.slice (Ty.pair (Ty.int IntKind.i64) (Ty.pair (Ty.int IntKind.i64) (Ty.pair (Ty.int IntKind.i64) (Ty.pair (Ty.int IntKind.i64) (Ty.pair (Ty.int IntKind.i64) (Ty.pair (Ty.slice (Ty.int IntKind.i64)) (Ty.pair (Ty.int IntKind.i64) Ty.unit)))))))) p0, CV.clo (23 : Nat) (CV.pure Ty.unit PUnit.unit), CV.int IntKind.i64 p1, CV.int IntKind.i64 p2, ((Blk.mem (CV.pure (Ty.pair (Ty.slice (Ty.pair (Ty.int IntKind.i64) (Ty.pair (Ty.int IntKind.i64) (Ty.pair (Ty.int IntKind.i64) (Ty.pair (Ty.int IntKind.i64) (Ty.pair (Ty.int IntKind.i64) (Ty.pair (Ty.int IntKind.i64) (Ty.pair Ty.bool (Ty.pair (Ty.int IntKind.i64) Ty.unit))))))))) (Ty.pair (Ty.slice (Ty.pair (Ty.int IntKind.i64) (Ty.pair (Ty.int IntKind.i64) (Ty.pair (Ty.int IntKind.i64) (Ty.pair (Ty.int IntKind.i64) (Ty.pair (Ty.int IntKind.i64) (Ty.pair (Ty.slice (Ty.int IntKind.i64)) (Ty.pair (Ty.int IntKind.i64) Ty.unit)))))))) (Ty.pair (Ty.int IntKind.i64) (Ty.pair Ty.bool Ty.unit)))) p3)) :: []) => gd (shapeOK T 19 [0, 1, 7, 8] (1 : Nat)) (G p0 p1 p2 p3 k)
  | _, _, _, _, _ => none
noncomputable def O_9_37_0 {R : Type} : St → (Ex → St → Option R) → Option R := fun T k => o_9_37_0_0 G_9_37_0_0 T k
noncomputable def g_9_37 {R : Type} : List CV → List Blk → (CV → List Blk → Option R) → Option R := evFnL sm_9 FU (ovr noO (evFn sm_9 fns FU 1)) (ir37_t O_9_37_0) ir37
noncomputable def g_9_22 {R : Type} : List CV → List Blk → (CV → List Blk → Option R) → Option R := evFnL sm_9 FU (ovr (fun f' => bif Nat.beq f' 37 then some (g_9_37) else none) (evFn sm_9 fns FU 2)) .nil ir22
noncomputable def F_9 (a0 : ((List (Int × (Int × (Int × (Int × (Int × (Int × (Bool × (Int × Unit))))))))) × ((List (Int × (Int × (Int × (Int × (Int × ((List Int) × (Int × Unit)))))))) × (Int × (Bool × Unit))))) : Option (Bool × Unit) :=
  bif decide ((↑(List.length (a0.1)) : Int) ≤ (70 : Int)) then bif decide ((↑(List.length (a0.2.1)) : Int) ≤ (70 : Int)) then Sp.B_9_37_0_0 (Sp.L_9_37_0_0 (4611686018427387904 : Nat) (a0.2.1) (↑(List.length (a0.2.1)) : Int) (0 : Int) a0) (fun y19 y20 => some (!decide (y19 ≥ (0 : Int)), PUnit.unit)) fun y21 => some (true, PUnit.unit) else some (false, PUnit.unit) else some (false, PUnit.unit)
noncomputable def Sp.p_9 (a0 : ((List (Int × (Int × (Int × (Int × (Int × (Int × (Bool × (Int × Unit))))))))) × ((List (Int × (Int × (Int × (Int × (Int × ((List Int) × (Int × Unit)))))))) × (Int × (Bool × Unit))))) : Bool := (F_9 a0).isSome
noncomputable def Sp.v_9 (a0 : ((List (Int × (Int × (Int × (Int × (Int × (Int × (Bool × (Int × Unit))))))))) × ((List (Int × (Int × (Int × (Int × (Int × ((List Int) × (Int × Unit)))))))) × (Int × (Bool × Unit))))) : Bool × Unit := (F_9 a0).getD (dfH [.bool])
noncomputable def s_9 : Summ := shN [Zy9_2] [.bool] (fun x => Sp.p_9 x.1) (fun x => Sp.v_9 x.1)
end
end Go.Ev
set_option linter.unusedSimpArgs false
set_option linter.unusedVariables false
namespace Go.Ev
open Go
set_option maxRecDepth 100000
set_option maxHeartbeats 4000000
abbrev SvT := Int × Int × Int × Int × Int × Int × Unit
namespace Sp
noncomputable def sv (s : SvT) : Bool := inr s.1 1 3 && (inr s.2.1 0 65535 && (inr s.2.2.1 0 1 && (inr s.2.2.2.1 0 2 && (inr s.2.2.2.2.1 0 1099521627776 && (inr s.2.2.2.2.2.1 0 1099521627776 && ((s.1 != 1) || ((s.2.1 == 0) && ((s.2.2.1 == 0) && (s.2.2.2.2.2.1 == 0)))))))))
noncomputable def ent (s : SvT) (n : Int) : SvT := if n = 1 then (n, 0, 0, s.2.2.2.1, s.2.2.2.2.1, 0, ()) else (n, 0, 0, s.2.2.2.1, s.2.2.2.2.1, s.2.2.2.2.2.1, ())
noncomputable def tck (s : SvT) (now : Int) : SvT := if sv s = true ∧ inr now 0 1099511627776 = true ∧ ¬ s.1 = 1 ∧ ¬ now < s.2.2.2.2.2.1 then ent s 1 else s
noncomputable def fill : Nat → Int → List Int → List Int
  | 0, _, l => l
  | j + 1, n, l => fill j (Int.fdiv n 256) (l.set j (IntKind.wrap .u8 n))
end Sp
theorem din_pv (x l h : Int) : Sp.p_31 x l h = true ∧ Sp.v_31 x l h = (Sp.inr x l h, ()) := by
  refine pv_31 x l h ?_
  unfold F_31 Sp.inr
  cases decide (x ≥ l) <;> rfl
theorem sv_ok (s : SvT) : F_15 s = some (Sp.sv s, ()) := by
  unfold F_15 Sp.sv
  simp only [din_pv, gd_tt]
  cases Sp.inr s.1 1 3 <;> try rfl
  cases Sp.inr s.2.1 0 65535 <;> try rfl
  cases Sp.inr s.2.2.1 0 1 <;> try rfl
  cases Sp.inr s.2.2.2.1 0 2 <;> try rfl
  cases Sp.inr s.2.2.2.2.1 0 1099521627776 <;> try rfl
  cases Sp.inr s.2.2.2.2.2.1 0 1099521627776 <;> try rfl
  cases s.1 != 1 <;> cases s.2.1 == 0 <;> cases s.2.2.1 == 0 <;> rfl
theorem sv_pv (s : SvT) : Sp.p_15 s = true ∧ Sp.v_15 s = (Sp.sv s, ()) := pv_15 s (sv_ok s)
theorem ent_pv (s : SvT) (n : Int) : Sp.p_32 s n = true ∧ Sp.v_32 s n = (Sp.ent s n, ()) := by
  refine pv_32 s n ?_
  unfold F_32 Sp.ent
  by_cases h : n = 1
  · rw [cond_ett h, if_pos h]
  · rw [cond_eff h, if_neg h]
theorem tck_pv (s : SvT) (now : Int) : Sp.p_13 s now = true ∧ Sp.v_13 s now = (Sp.tck s now, ()) := by
  refine pv_13 s now ?_
  unfold F_13 Sp.tck
  rw [(sv_pv s).1, (sv_pv s).2, gd_tt, (din_pv _ _ _).1, (din_pv _ _ _).2, gd_tt, (ent_pv s 1).1, (ent_pv s 1).2, gd_tt]
  cases h1 : Sp.sv s
  · rw [if_neg (by rintro ⟨h, _⟩; cases h)]; rfl
  cases h2 : Sp.inr now 0 1099511627776
  · rw [if_neg (by rintro ⟨_, h, _⟩; cases h)]; rfl
  simp only [Bool.not_true, cond_f]
  by_cases h3 : s.1 = 1
  · rw [cond_ett h3, if_neg (by rintro ⟨_, _, h, _⟩; exact h h3)]
  rw [cond_eff h3]
  by_cases h4 : now < s.2.2.2.2.2.1
  · rw [cond_dtt h4, if_neg (by rintro ⟨_, _, _, h⟩; exact h h4)]
  · rw [cond_dff h4, if_pos (by simp [h3, h4])]
theorem by_loop : ∀ (j m : Nat) (n : Int) (l : List Int), j ≤ l.length → j ≤ 1000 → j < m → Sp.L_56_0 m n ((j : Int) - 1) l = some (.e0 (Sp.fill j n l))
  | 0, m + 1, n, l, _, _, _ => by
    rw [Sp.L_56_0, cond_dff (by omega)]
    rfl
  | j + 1, m + 1, n, l, hj, hk, hm => by
    rw [Sp.L_56_0, cond_dtt (by omega), gd_inB (by omega) (by omega), show (((j + 1 : Nat) : Int) - 1).toNat = j by omega, Bool.and_true, Bool.and_true, gd_dec (by omega), wi64 (by omega) (by omega), show ((j + 1 : Nat) : Int) - 1 - 1 = (j : Int) - 1 by omega, by_loop j m _ _ (by rw [List.length_set]; omega) (by omega) (by omega)]
    rfl
theorem bytes_pv (n : Int) (k : Nat) (hk : k ≤ 8) : Sp.p_56 n (k : Int) = true ∧ Sp.v_56 n (k : Int) = (Sp.fill k n (List.replicate k 0), ()) := by
  refine pv_56 n (k : Int) ?_
  unfold F_56
  rw [decide_eq_true (by omega), beq_self_eq_true, Int.toNat_natCast, show room k 1 = true from room_ok (by omega) (by omega), Bool.and_true, Bool.and_true, gd_tt, wi64 (by omega) (by omega), by_loop k _ n _ (by simp) (by omega) (by omega)]
  rfl
theorem eqb_pv (a : List Int) (h : a.length ≤ 100000) : Sp.p_18 a a = true ∧ Sp.v_18 a a = (true, ()) := by
  refine pv_18 a a ?_
  unfold F_18
  rw [cond_nff rfl]
  have h1 := run0 (fun m i (_ : Unit) => Sp.L_18_0 m a a a.length i) (n := a.length) (fun _ => ()) (r := some .e1) (by omega) (fun m j hj => by
    show Sp.L_18_0 (m + 1) a a a.length (j : Int) = Sp.L_18_0 m a a a.length ((j + 1 : Nat) : Int)
    rw [Sp.L_18_0, cond_dtt (by omega), gd_inB (by omega) (by omega), gd_inB (by omega) (by omega), cond_nff rfl, wi64 (by omega) (by omega)]
    push_cast
    rfl) (fun m => by
    show Sp.L_18_0 (m + 1) a a a.length a.length = _
    rw [Sp.L_18_0, cond_dff (by omega)])
  have e1 : Sp.L_18_0 4611686018427387904 a a a.length 0 = _ := h1
  rw [e1]
  rfl
end Go.Ev
set_option linter.unusedSimpArgs false
set_option linter.unusedVariables false
namespace Go.Ev
open Go
set_option maxRecDepth 100000
set_option maxHeartbeats 4000000
namespace Sp
noncomputable def smf (F : FsT) : Bool := (fnd (fun j => decide (((F.2.1.getD j Zd1).2.2.2.2.2.1.length : Int) > 20)) F.2.1.length 0).isNone
noncomputable def fw (F : FsT) : Bool := decide ((F.1.length : Int) ≤ 70) && (decide ((F.2.1.length : Int) ≤ 70) && smf F)
end Sp
/-- A valid state of the server. -/
structure Sv (s : SvT) : Prop where
  s0 : 1 ≤ s.1
  s1 : s.1 ≤ 3
  e0 : 0 ≤ s.2.1
  e1 : s.2.1 ≤ 65535
  l0 : 0 ≤ s.2.2.1
  l1 : s.2.2.1 ≤ 1
  t0 : 0 ≤ s.2.2.2.1
  t1 : s.2.2.2.1 ≤ 2
  u0 : 0 ≤ s.2.2.2.2.1
  u1 : s.2.2.2.2.1 ≤ 1099521627776
  d0 : 0 ≤ s.2.2.2.2.2.1
  d1 : s.2.2.2.2.2.1 ≤ 1099521627776
  z : s.1 = 1 → s.2.1 = 0 ∧ s.2.2.1 = 0 ∧ s.2.2.2.2.2.1 = 0
theorem sv_iff {s : SvT} : Sp.sv s = true ↔ Sv s := by
  unfold Sp.sv
  simp only [Bool.and_eq_true, inr_iff, Bool.or_eq_true, bne_iff_ne, ne_eq, beq_iff_eq]
  constructor
  · rintro ⟨a, b, c, d, e, f, g⟩
    refine ⟨a.1, a.2, b.1, b.2, c.1, c.2, d.1, d.2, e.1, e.2, f.1, f.2, fun h => ?_⟩
    rcases g with g | g
    · exact absurd h g
    · exact g
  · intro h
    refine ⟨⟨h.s0, h.s1⟩, ⟨h.e0, h.e1⟩, ⟨h.l0, h.l1⟩, ⟨h.t0, h.t1⟩, ⟨h.u0, h.u1⟩, ⟨h.d0, h.d1⟩, ?_⟩
    by_cases e : s.1 = 1
    · exact Or.inr (h.z e)
    · exact Or.inl e
theorem ent_sv {s : SvT} {n : Int} (h : Sv s) (h0 : 1 ≤ n) (h1 : n ≤ 3) : Sv (Sp.ent s n) := by
  unfold Sp.ent
  split
  · refine ⟨?_, ?_, ?_, ?_, ?_, ?_, h.t0, h.t1, h.u0, h.u1, ?_, ?_, ?_⟩ <;> dsimp only <;> first | omega | (intro _; exact ⟨rfl, rfl, rfl⟩)
  · refine ⟨?_, ?_, ?_, ?_, ?_, ?_, h.t0, h.t1, h.u0, h.u1, h.d0, h.d1, ?_⟩ <;> dsimp only <;> first | omega | (intro e; omega)
theorem tck_sv {s : SvT} (now : Int) (h : Sv s) : Sv (Sp.tck s now) := by
  unfold Sp.tck
  split
  · exact ent_sv h (by decide) (by decide)
  · exact h
theorem tck_tck (s : SvT) (now : Int) : Sp.tck (Sp.tck s now) now = Sp.tck s now := by
  by_cases h : Sp.sv s = true ∧ Sp.inr now 0 1099511627776 = true ∧ ¬ s.1 = 1 ∧ ¬ now < s.2.2.2.2.2.1
  · have e : Sp.tck s now = Sp.ent s 1 := by unfold Sp.tck; rw [if_pos h]
    rw [e]
    unfold Sp.tck
    rw [if_neg]
    rintro ⟨_, _, h3, _⟩
    exact h3 (by unfold Sp.ent; rw [if_pos rfl])
  · have e : Sp.tck s now = s := by unfold Sp.tck; rw [if_neg h]
    rw [e, e]
theorem tck_now {s : SvT} {now : Int} (h : Sv s) (h0 : 0 ≤ now) (h1 : now ≤ 1099511627776) : Sp.tck s now = if s.1 = 1 ∨ now < s.2.2.2.2.2.1 then s else Sp.ent s 1 := by
  unfold Sp.tck
  by_cases e : s.1 = 1 ∨ now < s.2.2.2.2.2.1
  · rw [if_pos e, if_neg]
    rintro ⟨_, _, h3, h4⟩
    rcases e with e | e
    · exact h3 e
    · exact h4 e
  · rw [if_neg e, if_pos]
    exact ⟨sv_iff.2 h, inr_iff.2 ⟨h0, h1⟩, fun h => e (Or.inl h), fun h => e (Or.inr h)⟩
end Go.Ev
set_option linter.unusedSimpArgs false
set_option linter.unusedVariables false
namespace Go.Ev
open Go
set_option maxRecDepth 100000
set_option maxHeartbeats 4000000
abbrev IbT := Int × Bool × Unit
abbrev VvT := SvT × FsT × Int × Unit
namespace Sp
noncomputable def ded (s : SvT) (now : Int) : SvT := (s.1, s.2.1, s.2.2.1, s.2.2.2.1, s.2.2.2.2.1, (if s.1 = 1 then 0 else IntKind.wrap .i64 (now + 5000000)), s.2.2.2.2.2.2)
noncomputable def ln (b : List Int) : Int := bif b.getD 0 0 == 16 then 2 else bif b.getD 0 0 == 17 then 2 else bif b.getD 0 0 == 62 then 2 else bif b.getD 0 0 == 20 then 4 else bif b.getD 0 0 == 25 then 3 else bif b.getD 0 0 == 34 then 3 else bif b.getD 0 0 == 39 then (bif decide ((b.length : Int) > 1) then (bif b.getD 1 0 == 2 then 4 else 2) else 2) else 0
noncomputable def fnc (b : List Int) : Bool := bif b.getD 0 0 == 16 then (bif decide (b.getD 1 0 ≥ 1) then decide (b.getD 1 0 ≤ 3) else false) else bif b.getD 0 0 == 17 then b.getD 1 0 == 1 else bif b.getD 0 0 == 25 then b.getD 1 0 == 2 else bif b.getD 0 0 == 39 then (bif b.getD 1 0 == 1 then true else b.getD 1 0 == 2) else bif b.getD 0 0 == 62 then (bif b.getD 1 0 == 0 then true else b.getD 1 0 == 128) else true
end Sp
theorem rp_pv (b : List Int) : Sp.p_46 b = true ∧ Sp.v_46 b = (b, 0, ()) := pv_46 b rfl
theorem ln_pv (b : List Int) (h : 0 < b.length) : Sp.p_43 b = true ∧ Sp.v_43 b = (Sp.ln b, ()) := by
  refine pv_43 b ?_
  unfold F_43 Sp.ln
  rw [gd_inB (by omega) (by omega)]
  by_cases h1 : (b.length : Int) > 1
  · rw [gd_inB (by omega) (by omega), decide_eq_true h1]
    cases b.getD 0 0 == 16 <;> cases b.getD 0 0 == 17 <;> cases b.getD 0 0 == 62 <;> cases b.getD 0 0 == 20 <;> cases b.getD 0 0 == 25 <;> cases b.getD 0 0 == 34 <;> cases b.getD 0 0 == 39 <;> cases b.getD 1 0 == 2 <;> rfl
  · rw [decide_eq_false h1]
    cases b.getD 0 0 == 16 <;> cases b.getD 0 0 == 17 <;> cases b.getD 0 0 == 62 <;> cases b.getD 0 0 == 20 <;> cases b.getD 0 0 == 25 <;> cases b.getD 0 0 == 34 <;> cases b.getD 0 0 == 39 <;> rfl
theorem fnc_pv (b : List Int) (h : 1 < b.length) : Sp.p_44 b = true ∧ Sp.v_44 b = (Sp.fnc b, ()) := by
  refine pv_44 b ?_
  unfold F_44 Sp.fnc
  simp only [gd_inB (i := (0 : Int)) (n := b.length) (by omega) (by omega), gd_inB (i := (1 : Int)) (n := b.length) (by omega) (by omega)]
  cases b.getD 0 0 == 16 <;> cases b.getD 0 0 == 17 <;> cases b.getD 0 0 == 25 <;> cases b.getD 0 0 == 39 <;> cases b.getD 0 0 == 62 <;> cases decide (b.getD 1 0 ≥ 1) <;> cases b.getD 1 0 == 1 <;> cases b.getD 1 0 == 0 <;> rfl
theorem by2 (n : Int) : Sp.p_56 n 2 = true ∧ Sp.v_56 n 2 = ([IntKind.wrap .u8 (Int.fdiv n 256), IntKind.wrap .u8 n], ()) := bytes_pv n 2 (by omega)
section
variable {now : Int} {q1 : SvT} {q2 : IbT} {q3 : List CfT} {q4 : List FaT} {v : VvT} {o b : List Int}
theorem j3 : Sp.J_14_3 now q1 q2 q3 q4 v o = some (.e0 (Sp.ded v.1 now, v.2) o) := by
  unfold Sp.J_14_3 Sp.ded
  by_cases h : v.1.1 = 1
  · rw [cond_nff h, if_pos h]; rfl
  · rw [cond_ntt h, if_neg h]; rfl
theorem j31 : Sp.J_14_3_1 now o q1 q2 q3 q4 v = some (.e0 o (Sp.ded v.1 now, v.2)) := by
  unfold Sp.J_14_3_1 Sp.ded
  by_cases h : v.1.1 = 1
  · rw [cond_nff h, if_pos h]; rfl
  · rw [cond_ntt h, if_neg h]; rfl
/-- A positive answer. -/
theorem j20 : Sp.J_14_2 b now 0 q1 q2 q3 q4 v o = some (.e0 (Sp.ded v.1 now, v.2) o) := by
  unfold Sp.J_14_2
  rw [cond_nff rfl, j3]; rfl
/-- A negative answer. -/
theorem j2n {c : Int} (hc : c ≠ 0) (hb : 0 < b.length) : Sp.J_14_2 b now c q1 q2 q3 q4 v o = some (.e0 (Sp.ded v.1 now, v.2) [127, b.getD 0 0, IntKind.wrap .u8 c]) := by
  unfold Sp.J_14_2
  rw [cond_ntt hc, gd_inB (by omega) (by omega), j3]; rfl
theorem j21 : Sp.J_14_2_1 b now o 0 q1 q2 q3 q4 v = some (.e1 o (Sp.ded v.1 now, v.2)) := by
  unfold Sp.J_14_2_1
  rw [cond_nff rfl, j31]; rfl
theorem j330 {F : FsT} {s : SvT} {n : Int} (h : (b.length : Int) = n) (h1 : 1 < b.length) (hf : Sp.fnc b = true) : Sp.J_14_33_0_0 b n false s F q1 q2 q3 q4 v = some (.e3 b n s F q1 q2 q3 q4 v) := by
  unfold Sp.J_14_33_0_0
  rw [cond_f, cond_nff h, (fnc_pv b h1).1, (fnc_pv b h1).2, gd_tt, hf]; rfl
end
/-- What a request is given. -/
structure Rq (s : SvT) (F : FsT) (now : Int) : Prop where
  s : Sv s
  f : Sp.p_10 F = true
  g : Sp.v_10 F = (true, ())
  n0 : 0 ≤ now
  n1 : now ≤ 1099511627776
theorem rq0 {s : SvT} {F : FsT} {now : Int} {b : List Int} (h : Rq s F now) (hb0 : 1 ≤ b.length) (hb1 : b.length ≤ 1023) :
    F_14 s F b now = Sp.B_14_1 (Sp.J_14_1 b now s F (0, 0, 0, 0, 0, 0, ()) (0, false, ()) [] []) (fun v o => some (v.1, v.2.1, o, ())) (fun o v => some (v.1, v.2.1, o, ())) := by
  unfold F_14
  rw [(sv_pv s).1, (sv_pv s).2, gd_tt, sv_iff.2 h.s, Bool.not_true, cond_f, h.f, h.g, gd_tt, Bool.not_true, cond_f, (din_pv now _ _).1, (din_pv now _ _).2, gd_tt, inr_iff.2 ⟨h.n0, h.n1⟩, Bool.not_true, cond_f,
    (din_pv _ 1 1023).1, (din_pv _ 1 1023).2, gd_tt, inr_iff.2 ⟨by omega, by omega⟩, Bool.not_true]
  rfl
end Go.Ev
set_option linter.unusedSimpArgs false
set_option linter.unusedVariables false
namespace Go.Ev
open Go
set_option maxRecDepth 100000
set_option maxHeartbeats 4000000
theorem tck_v (s : SvT) (now : Int) : (Sp.v_13 s now).1 = Sp.tck s now := by rw [(tck_pv s now).2]
theorem ln_v (b : List Int) (h : 0 < b.length) : (Sp.v_43 b).1 = Sp.ln b := by rw [(ln_pv b h).2]
section
variable {s : SvT} {F : FsT} {now x y : Int} {q1 : SvT} {q2 : IbT} {q3 : List CfT} {q4 : List FaT} {v : VvT}
theorem s_en3 : Sp.J_14_45_0_0 3 s F q1 q2 q3 q4 v = some (.e0 3 s F q1 q2 q3 q4 v) := by
  unfold Sp.J_14_45_0_0
  rw [(ent_pv _ _).1, gd_tt, (rp_pv _).1, gd_tt]
theorem s_se3  : Sp.J_14_33_1_0 [16, 3] s F q1 q2 q3 q4 v = some (.e1 3 s F q1 q2 q3 q4 v) := by
  unfold Sp.J_14_33_1_0
  rw [show inB (0 : Int) (List.length ([16, 3] : List Int)) = true from rfl, gd_tt, show (List.getD ([16, 3] : List Int) (0 : Nat) (0 : Int) == (16 : Int)) = true from rfl, cond_t, show inB (1 : Int) (List.length ([16, 3] : List Int)) = true from rfl, gd_tt, show IntKind.wrap .i64 (List.getD ([16, 3] : List Int) (1 : Nat) (0 : Int)) = 3 from rfl, show ((3 : Int) == (2 : Int)) = false from rfl, cond_f, s_en3, Sp.B_14_45_0_0]
theorem rq_se3 (h : Rq s F now)  : F_14 s F [16, 3] now = some (Sp.ded (Sp.ent (Sp.tck s now) 3) now, F, [80, 3], ()) := by
  rw [rq0 h (by simp) (by simp)]
  unfold Sp.J_14_1
  rw [(tck_pv s now).1, gd_tt, (ln_pv [16, 3] (by simp)).1, gd_tt, ln_v [16, 3] (by simp), show Sp.ln [16, 3] = 2 from rfl, show ((2 : Int) == (0 : Int)) = false from rfl, cond_f, show inB (0 : Int) (List.length ([16, 3] : List Int)) = true from rfl, gd_tt, show (List.getD ([16, 3] : List Int) (0 : Nat) (0 : Int) == (20 : Int)) = false from rfl, cond_f, gd_tt, show (List.getD ([16, 3] : List Int) (0 : Nat) (0 : Int) == (39 : Int)) = false from rfl, cond_f]
  rw [j330 (b := [16, 3]) (n := 2) rfl (by simp) rfl, Sp.B_14_33_0_0]
  rw [s_se3, Sp.B_14_33_1_0]
  rw [(rp_pv _).2, (ent_pv _ _).2, j21, tck_v]
  rfl
end
end Go.Ev
set_option linter.unusedSimpArgs false
set_option linter.unusedVariables false
namespace Go.Ev
open Go
set_option maxRecDepth 100000
set_option maxHeartbeats 4000000
theorem aw : F_8 = some (true, ()) := by kernel_rfl
theorem aw_pv : Sp.p_8 = true ∧ Sp.v_8 = (true, ()) := pv_8 aw
end Go.Ev
set_option linter.unusedSimpArgs false
set_option linter.unusedVariables false
namespace Go.Ev
open Go
set_option maxRecDepth 100000
set_option maxHeartbeats 4000000
abbrev Fz : FsT := ([], [], (0 : Int), false, ())
theorem fz_sm : Sm Fz := ⟨by simp, fun j hj => by simp at hj⟩
theorem fz_v : Sp.p_10 Fz = true ∧ Sp.v_10 Fz = (true, ()) := by
  refine ⟨(vf_pv fz_sm).1, ?_⟩
  rw [(vf_pv fz_sm).2]
  exact congrArg (fun x => (x, ())) (show Sp.vf Fz = true by kernel_rfl)
theorem rqz {s : SvT} {now : Int} (h : Sv s) (h0 : 0 ≤ now) (h1 : now ≤ 1099511627776) : Rq s Fz now := ⟨h, fz_v.1, fz_v.2, h0, h1⟩
theorem new_pv : Sp.p_12 = true ∧ Sp.v_12 = ((1, 0, 0, 0, 0, 0, ()), ()) := pv_12 rfl
end Go.Ev
set_option linter.unusedSimpArgs false
set_option linter.unusedVariables false
namespace Go.Ev
open Go
set_option maxRecDepth 100000
set_option maxHeartbeats 4000000
theorem wu8m {n : Int} : IntKind.wrap .u8 n = n % 256 := by simp [IntKind.wrap, IntKind.bits, IntKind.signed]
theorem fd8 (n : Int) : Int.fdiv n 256 = n / 256 := Int.fdiv_eq_ediv_of_nonneg n (by decide)
theorem or_two {a : Int} (h0 : 0 ≤ a) (h1 : a ≤ 65535) : Sp.orI .i64 (IntKind.wrap .i64 (IntKind.wrap .i64 (IntKind.wrap .u8 (Int.fdiv a 256)) * 256)) (IntKind.wrap .i64 (IntKind.wrap .u8 a)) = a := by
  obtain ⟨n, rfl⟩ := Int.eq_ofNat_of_zero_le h0
  rw [wu8m, wu8m, fd8, wi64 (n := (n : Int) / 256 % 256) (by omega) (by omega), wi64 (by omega) (by omega), wi64 (by omega) (by omega)]
  rw [show (n : Int) / 256 % 256 * 256 = ((n / 256 * 2 ^ 8 : Nat) : Int) by omega, show (n : Int) % 256 = ((n % 256 : Nat) : Int) by omega]
  rw [orI_nat 17 (by decide) (by omega) (by omega), or_add 8 (by omega)]
  omega
end Go.Ev
set_option linter.unusedSimpArgs false
set_option linter.unusedVariables false
namespace Go.Ev
open Go
set_option maxRecDepth 100000
set_option maxHeartbeats 4000000
namespace Sp
noncomputable def sdn (now : Int) : Int := IntKind.wrap .i64 (1 + Int.tmod (IntKind.wrap .i64 (40503 * now)) 65535)
noncomputable def kyn (x y : Int) : Int := Sp.orI .i64 (IntKind.wrap .i64 (IntKind.wrap .i64 x * 256)) (IntKind.wrap .i64 y)
noncomputable abbrev key (seed level : Int) : Int := (Sp.v_19 seed level).1
/-- A question was asked; a right key; a wrong one. -/
noncomputable def sdA (s : SvT) (now : Int) : SvT := (s.1, sdn now, s.2.2)
noncomputable def sdR (s : SvT) : SvT := (s.1, 0, 1, 0, s.2.2.2.2)
noncomputable def sdW (s : SvT) : SvT := (s.1, 0, s.2.2.1, IntKind.wrap .i64 (s.2.2.2.1 + 1), s.2.2.2.2)
noncomputable def sdX (s : SvT) (now : Int) : SvT := (s.1, 0, s.2.2.1, 0, IntKind.wrap .i64 (now + 10000000), s.2.2.2.2.2)
end Sp
section
variable {s : SvT} {F : FsT} {now x y : Int} {q1 : SvT} {q2 : IbT} {q3 : List CfT} {q4 : List FaT} {v : VvT}
theorem s_sd (hu : ¬ v.2.2.1 < v.1.2.2.2.2.1) (hl : v.1.2.2.1 = 0) : Sp.J_14_50_0_0 s F q1 q2 q3 q4 v = some (.e0 (Sp.sdn v.2.2.1) s F q1 q2 q3 q4 (Sp.sdA v.1 v.2.2.1, v.2)) := by
  unfold Sp.J_14_50_0_0
  rw [cond_ett hl]
  show Sp.B_14_50_1_0 (Sp.J_14_50_1_0 (Sp.sdn v.2.2.1) s F q1 q2 q3 q4 (Sp.sdA v.1 v.2.2.1, v.2)) _ = _
  unfold Sp.J_14_50_1_0
  rw [(by2 _).1, gd_tt, (by2 _).2]
  rfl
theorem s_51 (hk : Sp.p_19 v.1.2.1 1 = true) (K : Int) : Sp.J_14_51_0_0 K s F q1 q2 q3 q4 v = (if K = Sp.key v.1.2.1 1 then some (.e0 s F q1 q2 q3 q4 (Sp.sdR v.1, v.2)) else if (Sp.sdW v.1).2.2.2.1 < 3 then some (.e1 s F q1 q2 q3 q4 (Sp.sdW v.1, v.2)) else some (.e2 s F q1 q2 q3 q4 (Sp.sdW v.1, v.2))) := by
  unfold Sp.J_14_51_0_0
  rw [hk, gd_tt]
  unfold Sp.J_14_51_1_0
  by_cases hK : K = Sp.key v.1.2.1 1
  · rw [if_pos hK, cond_ett hK]
    unfold Sp.J_14_51_2_0
    rw [(rp_pv _).1, gd_tt]
    rfl
  · rw [if_neg hK, cond_eff hK]
    unfold Sp.J_14_51_3_0
    show Sp.B_14_51_1_0 (Sp.B_14_51_3_0 (Sp.B_14_51_4_0 (Sp.J_14_51_4_0 s F q1 q2 q3 q4 (Sp.sdW v.1, v.2)) _ _) _ _) _ _ _ = _
    unfold Sp.J_14_51_4_0
    by_cases h3 : (Sp.sdW v.1).2.2.2.1 < 3
    · rw [if_pos h3, cond_dtt h3]
      rfl
    · rw [if_neg h3, cond_dff h3]
      rfl

theorem s_k0 (h0 : v.1.2.1 = 0) : Sp.J_14_33_3_0 [39, 2, x, y] s F q1 q2 q3 q4 v = some (.e0 s F q1 q2 q3 q4 v) := by
  unfold Sp.J_14_33_3_0
  rw [show inB (2 : Int) (List.length ([39, 2, x, y] : List Int)) = true from rfl, gd_tt, show inB (3 : Int) (List.length ([39, 2, x, y] : List Int)) = true from rfl, gd_tt, cond_ett h0]
theorem s_kr (h0 : ¬ v.1.2.1 = 0) (hk : Sp.p_19 v.1.2.1 1 = true) (hK : Sp.kyn x y = Sp.key v.1.2.1 1) : Sp.J_14_33_3_0 [39, 2, x, y] s F q1 q2 q3 q4 v = some (.e1 s F q1 q2 q3 q4 (Sp.sdR v.1, v.2)) := by
  unfold Sp.J_14_33_3_0
  rw [show inB (2 : Int) (List.length ([39, 2, x, y] : List Int)) = true from rfl, gd_tt, show inB (3 : Int) (List.length ([39, 2, x, y] : List Int)) = true from rfl, gd_tt, cond_eff h0]
  show Sp.B_14_51_0_0 (Sp.J_14_51_0_0 (Sp.kyn x y) s F q1 q2 q3 q4 v) _ _ _ = _
  rw [s_51 hk]
  rw [if_pos hK]
  rfl
theorem s_kw (h0 : ¬ v.1.2.1 = 0) (hk : Sp.p_19 v.1.2.1 1 = true) (hK : ¬ Sp.kyn x y = Sp.key v.1.2.1 1) (h3 : (Sp.sdW v.1).2.2.2.1 < 3) : Sp.J_14_33_3_0 [39, 2, x, y] s F q1 q2 q3 q4 v = some (.e2 s F q1 q2 q3 q4 (Sp.sdW v.1, v.2)) := by
  unfold Sp.J_14_33_3_0
  rw [show inB (2 : Int) (List.length ([39, 2, x, y] : List Int)) = true from rfl, gd_tt, show inB (3 : Int) (List.length ([39, 2, x, y] : List Int)) = true from rfl, gd_tt, cond_eff h0]
  show Sp.B_14_51_0_0 (Sp.J_14_51_0_0 (Sp.kyn x y) s F q1 q2 q3 q4 v) _ _ _ = _
  rw [s_51 hk]
  rw [if_neg hK, if_pos h3]
  rfl
theorem s_kx (h0 : ¬ v.1.2.1 = 0) (hk : Sp.p_19 v.1.2.1 1 = true) (hK : ¬ Sp.kyn x y = Sp.key v.1.2.1 1) (h3 : ¬ (Sp.sdW v.1).2.2.2.1 < 3) : Sp.J_14_33_3_0 [39, 2, x, y] s F q1 q2 q3 q4 v = some (.e3 s F q1 q2 q3 q4 (Sp.sdW v.1, v.2)) := by
  unfold Sp.J_14_33_3_0
  rw [show inB (2 : Int) (List.length ([39, 2, x, y] : List Int)) = true from rfl, gd_tt, show inB (3 : Int) (List.length ([39, 2, x, y] : List Int)) = true from rfl, gd_tt, cond_eff h0]
  show Sp.B_14_51_0_0 (Sp.J_14_51_0_0 (Sp.kyn x y) s F q1 q2 q3 q4 v) _ _ _ = _
  rw [s_51 hk]
  rw [if_neg hK, if_neg h3]
  rfl
theorem s_q1 (hu : ¬ v.2.2.1 < v.1.2.2.2.2.1) (hl : v.1.2.2.1 = 0) : Sp.J_14_33_1_0 [39, 1] s F q1 q2 q3 q4 v = some (.e13 (Sp.sdn v.2.2.1) s F q1 q2 q3 q4 (Sp.sdA v.1 v.2.2.1, v.2)) := by
  unfold Sp.J_14_33_1_0
  rw [show inB (0 : Int) (List.length ([39, 1] : List Int)) = true from rfl, gd_tt, show (List.getD ([39, 1] : List Int) (0 : Nat) (0 : Int) == (16 : Int)) = false from rfl, cond_f, show (List.getD ([39, 1] : List Int) (0 : Nat) (0 : Int) == (17 : Int)) = false from rfl, cond_f, show (List.getD ([39, 1] : List Int) (0 : Nat) (0 : Int) == (20 : Int)) = false from rfl, cond_f, show (List.getD ([39, 1] : List Int) (0 : Nat) (0 : Int) == (25 : Int)) = false from rfl, cond_f, show (List.getD ([39, 1] : List Int) (0 : Nat) (0 : Int) == (34 : Int)) = false from rfl, cond_f, show (List.getD ([39, 1] : List Int) (0 : Nat) (0 : Int) == (39 : Int)) = true from rfl, cond_t, show inB (1 : Int) (List.length ([39, 1] : List Int)) = true from rfl, gd_tt, show (List.getD ([39, 1] : List Int) (1 : Nat) (0 : Int) == (1 : Int)) = true from rfl, cond_t, cond_dff hu, s_sd hu hl, Sp.B_14_50_0_0]
theorem s_q0 (hu : v.2.2.1 < v.1.2.2.2.2.1) : Sp.J_14_33_1_0 [39, 1] s F q1 q2 q3 q4 v = some (.e12 s F q1 q2 q3 q4 v) := by
  unfold Sp.J_14_33_1_0
  rw [show inB (0 : Int) (List.length ([39, 1] : List Int)) = true from rfl, gd_tt, show (List.getD ([39, 1] : List Int) (0 : Nat) (0 : Int) == (16 : Int)) = false from rfl, cond_f, show (List.getD ([39, 1] : List Int) (0 : Nat) (0 : Int) == (17 : Int)) = false from rfl, cond_f, show (List.getD ([39, 1] : List Int) (0 : Nat) (0 : Int) == (20 : Int)) = false from rfl, cond_f, show (List.getD ([39, 1] : List Int) (0 : Nat) (0 : Int) == (25 : Int)) = false from rfl, cond_f, show (List.getD ([39, 1] : List Int) (0 : Nat) (0 : Int) == (34 : Int)) = false from rfl, cond_f, show (List.getD ([39, 1] : List Int) (0 : Nat) (0 : Int) == (39 : Int)) = true from rfl, cond_t, show inB (1 : Int) (List.length ([39, 1] : List Int)) = true from rfl, gd_tt, show (List.getD ([39, 1] : List Int) (1 : Nat) (0 : Int) == (1 : Int)) = true from rfl, cond_t, cond_dtt hu]
theorem s_y0 (h0 : v.1.2.1 = 0) : Sp.J_14_33_1_0 [39, 2, x, y] s F q1 q2 q3 q4 v = some (.e14 s F q1 q2 q3 q4 v) := by
  unfold Sp.J_14_33_1_0
  rw [show inB (0 : Int) (List.length ([39, 2, x, y] : List Int)) = true from rfl, gd_tt, show (List.getD ([39, 2, x, y] : List Int) (0 : Nat) (0 : Int) == (16 : Int)) = false from rfl, cond_f, show (List.getD ([39, 2, x, y] : List Int) (0 : Nat) (0 : Int) == (17 : Int)) = false from rfl, cond_f, show (List.getD ([39, 2, x, y] : List Int) (0 : Nat) (0 : Int) == (20 : Int)) = false from rfl, cond_f, show (List.getD ([39, 2, x, y] : List Int) (0 : Nat) (0 : Int) == (25 : Int)) = false from rfl, cond_f, show (List.getD ([39, 2, x, y] : List Int) (0 : Nat) (0 : Int) == (34 : Int)) = false from rfl, cond_f, show (List.getD ([39, 2, x, y] : List Int) (0 : Nat) (0 : Int) == (39 : Int)) = true from rfl, cond_t, show inB (1 : Int) (List.length ([39, 2, x, y] : List Int)) = true from rfl, gd_tt, show (List.getD ([39, 2, x, y] : List Int) (1 : Nat) (0 : Int) == (1 : Int)) = false from rfl, cond_f, s_k0 h0, Sp.B_14_33_3_0]
theorem s_yr (h0 : ¬ v.1.2.1 = 0) (hk : Sp.p_19 v.1.2.1 1 = true) (hK : Sp.kyn x y = Sp.key v.1.2.1 1) : Sp.J_14_33_1_0 [39, 2, x, y] s F q1 q2 q3 q4 v = some (.e15 s F q1 q2 q3 q4 (Sp.sdR v.1, v.2)) := by
  unfold Sp.J_14_33_1_0
  rw [show inB (0 : Int) (List.length ([39, 2, x, y] : List Int)) = true from rfl, gd_tt, show (List.getD ([39, 2, x, y] : List Int) (0 : Nat) (0 : Int) == (16 : Int)) = false from rfl, cond_f, show (List.getD ([39, 2, x, y] : List Int) (0 : Nat) (0 : Int) == (17 : Int)) = false from rfl, cond_f, show (List.getD ([39, 2, x, y] : List Int) (0 : Nat) (0 : Int) == (20 : Int)) = false from rfl, cond_f, show (List.getD ([39, 2, x, y] : List Int) (0 : Nat) (0 : Int) == (25 : Int)) = false from rfl, cond_f, show (List.getD ([39, 2, x, y] : List Int) (0 : Nat) (0 : Int) == (34 : Int)) = false from rfl, cond_f, show (List.getD ([39, 2, x, y] : List Int) (0 : Nat) (0 : Int) == (39 : Int)) = true from rfl, cond_t, show inB (1 : Int) (List.length ([39, 2, x, y] : List Int)) = true from rfl, gd_tt, show (List.getD ([39, 2, x, y] : List Int) (1 : Nat) (0 : Int) == (1 : Int)) = false from rfl, cond_f, s_kr h0 hk hK, Sp.B_14_33_3_0]
theorem s_yw (h0 : ¬ v.1.2.1 = 0) (hk : Sp.p_19 v.1.2.1 1 = true) (hK : ¬ Sp.kyn x y = Sp.key v.1.2.1 1) (h3 : (Sp.sdW v.1).2.2.2.1 < 3) : Sp.J_14_33_1_0 [39, 2, x, y] s F q1 q2 q3 q4 v = some (.e16 s F q1 q2 q3 q4 (Sp.sdW v.1, v.2)) := by
  unfold Sp.J_14_33_1_0
  rw [show inB (0 : Int) (List.length ([39, 2, x, y] : List Int)) = true from rfl, gd_tt, show (List.getD ([39, 2, x, y] : List Int) (0 : Nat) (0 : Int) == (16 : Int)) = false from rfl, cond_f, show (List.getD ([39, 2, x, y] : List Int) (0 : Nat) (0 : Int) == (17 : Int)) = false from rfl, cond_f, show (List.getD ([39, 2, x, y] : List Int) (0 : Nat) (0 : Int) == (20 : Int)) = false from rfl, cond_f, show (List.getD ([39, 2, x, y] : List Int) (0 : Nat) (0 : Int) == (25 : Int)) = false from rfl, cond_f, show (List.getD ([39, 2, x, y] : List Int) (0 : Nat) (0 : Int) == (34 : Int)) = false from rfl, cond_f, show (List.getD ([39, 2, x, y] : List Int) (0 : Nat) (0 : Int) == (39 : Int)) = true from rfl, cond_t, show inB (1 : Int) (List.length ([39, 2, x, y] : List Int)) = true from rfl, gd_tt, show (List.getD ([39, 2, x, y] : List Int) (1 : Nat) (0 : Int) == (1 : Int)) = false from rfl, cond_f, s_kw h0 hk hK h3, Sp.B_14_33_3_0]
theorem s_yx (h0 : ¬ v.1.2.1 = 0) (hk : Sp.p_19 v.1.2.1 1 = true) (hK : ¬ Sp.kyn x y = Sp.key v.1.2.1 1) (h3 : ¬ (Sp.sdW v.1).2.2.2.1 < 3) : Sp.J_14_33_1_0 [39, 2, x, y] s F q1 q2 q3 q4 v = some (.e17 s F q1 q2 q3 q4 (Sp.sdW v.1, v.2)) := by
  unfold Sp.J_14_33_1_0
  rw [show inB (0 : Int) (List.length ([39, 2, x, y] : List Int)) = true from rfl, gd_tt, show (List.getD ([39, 2, x, y] : List Int) (0 : Nat) (0 : Int) == (16 : Int)) = false from rfl, cond_f, show (List.getD ([39, 2, x, y] : List Int) (0 : Nat) (0 : Int) == (17 : Int)) = false from rfl, cond_f, show (List.getD ([39, 2, x, y] : List Int) (0 : Nat) (0 : Int) == (20 : Int)) = false from rfl, cond_f, show (List.getD ([39, 2, x, y] : List Int) (0 : Nat) (0 : Int) == (25 : Int)) = false from rfl, cond_f, show (List.getD ([39, 2, x, y] : List Int) (0 : Nat) (0 : Int) == (34 : Int)) = false from rfl, cond_f, show (List.getD ([39, 2, x, y] : List Int) (0 : Nat) (0 : Int) == (39 : Int)) = true from rfl, cond_t, show inB (1 : Int) (List.length ([39, 2, x, y] : List Int)) = true from rfl, gd_tt, show (List.getD ([39, 2, x, y] : List Int) (1 : Nat) (0 : Int) == (1 : Int)) = false from rfl, cond_f, s_kx h0 hk hK h3, Sp.B_14_33_3_0]
theorem rq_q1 (h : Rq s F now) (h1 : ¬ (Sp.tck s now).1 = 1) (hu : ¬ now < (Sp.tck s now).2.2.2.2.1) (hl : (Sp.tck s now).2.2.1 = 0) : F_14 s F [39, 1] now = some (Sp.ded (Sp.sdA (Sp.tck s now) now) now, F, [103, 1, IntKind.wrap .u8 (Int.fdiv (Sp.sdn now) 256), IntKind.wrap .u8 (Sp.sdn now)], ()) := by
  rw [rq0 h (by simp) (by simp)]
  unfold Sp.J_14_1
  rw [(tck_pv s now).1, gd_tt, (ln_pv [39, 1] (by simp)).1, gd_tt, ln_v [39, 1] (by simp), show Sp.ln [39, 1] = 2 from rfl, show ((2 : Int) == (0 : Int)) = false from rfl, cond_f, show inB (0 : Int) (List.length ([39, 1] : List Int)) = true from rfl, gd_tt, show (List.getD ([39, 1] : List Int) (0 : Nat) (0 : Int) == (20 : Int)) = false from rfl, cond_f, gd_tt, show (List.getD ([39, 1] : List Int) (0 : Nat) (0 : Int) == (39 : Int)) = true from rfl, cond_t, tck_v, show ((Sp.tck s now).1 == (1 : Int)) = false from by simpa using h1]
  rw [j330 (b := [39, 1]) (n := 2) rfl (by simp) rfl, Sp.B_14_33_0_0]
  rw [s_q1 (v := (Sp.tck s now, F, now, ())) hu hl, Sp.B_14_33_1_0]
  rw [(by2 _).2, j20]
  rfl
theorem rq_q0 (h : Rq s F now) (h1 : ¬ (Sp.tck s now).1 = 1) (hu : now < (Sp.tck s now).2.2.2.2.1) : F_14 s F [39, 1] now = some (Sp.ded ((Sp.tck s now)) now, F, [127, 39, 55], ()) := by
  rw [rq0 h (by simp) (by simp)]
  unfold Sp.J_14_1
  rw [(tck_pv s now).1, gd_tt, (ln_pv [39, 1] (by simp)).1, gd_tt, ln_v [39, 1] (by simp), show Sp.ln [39, 1] = 2 from rfl, show ((2 : Int) == (0 : Int)) = false from rfl, cond_f, show inB (0 : Int) (List.length ([39, 1] : List Int)) = true from rfl, gd_tt, show (List.getD ([39, 1] : List Int) (0 : Nat) (0 : Int) == (20 : Int)) = false from rfl, cond_f, gd_tt, show (List.getD ([39, 1] : List Int) (0 : Nat) (0 : Int) == (39 : Int)) = true from rfl, cond_t, tck_v, show ((Sp.tck s now).1 == (1 : Int)) = false from by simpa using h1]
  rw [j330 (b := [39, 1]) (n := 2) rfl (by simp) rfl, Sp.B_14_33_0_0]
  rw [s_q0 (v := (Sp.tck s now, F, now, ())) hu, Sp.B_14_33_1_0]
  rw [j2n (by decide) (by simp)]
  rfl
theorem rq_y0 (h : Rq s F now) (h1 : ¬ (Sp.tck s now).1 = 1) (h0 : (Sp.tck s now).2.1 = 0) : F_14 s F [39, 2, x, y] now = some (Sp.ded ((Sp.tck s now)) now, F, [127, 39, 36], ()) := by
  rw [rq0 h (by simp) (by simp)]
  unfold Sp.J_14_1
  rw [(tck_pv s now).1, gd_tt, (ln_pv [39, 2, x, y] (by simp)).1, gd_tt, ln_v [39, 2, x, y] (by simp), show Sp.ln [39, 2, x, y] = 4 from rfl, show ((4 : Int) == (0 : Int)) = false from rfl, cond_f, show inB (0 : Int) (List.length ([39, 2, x, y] : List Int)) = true from rfl, gd_tt, show (List.getD ([39, 2, x, y] : List Int) (0 : Nat) (0 : Int) == (20 : Int)) = false from rfl, cond_f, gd_tt, show (List.getD ([39, 2, x, y] : List Int) (0 : Nat) (0 : Int) == (39 : Int)) = true from rfl, cond_t, tck_v, show ((Sp.tck s now).1 == (1 : Int)) = false from by simpa using h1]
  rw [j330 (b := [39, 2, x, y]) (n := 4) rfl (by simp) rfl, Sp.B_14_33_0_0]
  rw [s_y0 (v := (Sp.tck s now, F, now, ())) h0, Sp.B_14_33_1_0]
  rw [j2n (by decide) (by simp)]
  rfl
theorem rq_yr (h : Rq s F now) (h1 : ¬ (Sp.tck s now).1 = 1) (h0 : ¬ (Sp.tck s now).2.1 = 0) (hk : Sp.p_19 (Sp.tck s now).2.1 1 = true) (hK : Sp.kyn x y = Sp.key (Sp.tck s now).2.1 1) : F_14 s F [39, 2, x, y] now = some (Sp.ded (Sp.sdR (Sp.tck s now)) now, F, [103, 2], ()) := by
  rw [rq0 h (by simp) (by simp)]
  unfold Sp.J_14_1
  rw [(tck_pv s now).1, gd_tt, (ln_pv [39, 2, x, y] (by simp)).1, gd_tt, ln_v [39, 2, x, y] (by simp), show Sp.ln [39, 2, x, y] = 4 from rfl, show ((4 : Int) == (0 : Int)) = false from rfl, cond_f, show inB (0 : Int) (List.length ([39, 2, x, y] : List Int)) = true from rfl, gd_tt, show (List.getD ([39, 2, x, y] : List Int) (0 : Nat) (0 : Int) == (20 : Int)) = false from rfl, cond_f, gd_tt, show (List.getD ([39, 2, x, y] : List Int) (0 : Nat) (0 : Int) == (39 : Int)) = true from rfl, cond_t, tck_v, show ((Sp.tck s now).1 == (1 : Int)) = false from by simpa using h1]
  rw [j330 (b := [39, 2, x, y]) (n := 4) rfl (by simp) rfl, Sp.B_14_33_0_0]
  rw [s_yr (v := (Sp.tck s now, F, now, ())) h0 hk hK, Sp.B_14_33_1_0]
  rw [(rp_pv _).2, j21]
  rfl
theorem rq_yw (h : Rq s F now) (h1 : ¬ (Sp.tck s now).1 = 1) (h0 : ¬ (Sp.tck s now).2.1 = 0) (hk : Sp.p_19 (Sp.tck s now).2.1 1 = true) (hK : ¬ Sp.kyn x y = Sp.key (Sp.tck s now).2.1 1) (h3 : (Sp.sdW (Sp.tck s now)).2.2.2.1 < 3) : F_14 s F [39, 2, x, y] now = some (Sp.ded (Sp.sdW (Sp.tck s now)) now, F, [127, 39, 53], ()) := by
  rw [rq0 h (by simp) (by simp)]
  unfold Sp.J_14_1
  rw [(tck_pv s now).1, gd_tt, (ln_pv [39, 2, x, y] (by simp)).1, gd_tt, ln_v [39, 2, x, y] (by simp), show Sp.ln [39, 2, x, y] = 4 from rfl, show ((4 : Int) == (0 : Int)) = false from rfl, cond_f, show inB (0 : Int) (List.length ([39, 2, x, y] : List Int)) = true from rfl, gd_tt, show (List.getD ([39, 2, x, y] : List Int) (0 : Nat) (0 : Int) == (20 : Int)) = false from rfl, cond_f, gd_tt, show (List.getD ([39, 2, x, y] : List Int) (0 : Nat) (0 : Int) == (39 : Int)) = true from rfl, cond_t, tck_v, show ((Sp.tck s now).1 == (1 : Int)) = false from by simpa using h1]
  rw [j330 (b := [39, 2, x, y]) (n := 4) rfl (by simp) rfl, Sp.B_14_33_0_0]
  rw [s_yw (v := (Sp.tck s now, F, now, ())) h0 hk hK h3, Sp.B_14_33_1_0]
  rw [j2n (by decide) (by simp)]
  rfl
theorem rq_yx (h : Rq s F now) (h1 : ¬ (Sp.tck s now).1 = 1) (h0 : ¬ (Sp.tck s now).2.1 = 0) (hk : Sp.p_19 (Sp.tck s now).2.1 1 = true) (hK : ¬ Sp.kyn x y = Sp.key (Sp.tck s now).2.1 1) (h3 : ¬ (Sp.sdW (Sp.tck s now)).2.2.2.1 < 3) : F_14 s F [39, 2, x, y] now = some (Sp.ded (Sp.sdX (Sp.tck s now) now) now, F, [127, 39, 54], ()) := by
  rw [rq0 h (by simp) (by simp)]
  unfold Sp.J_14_1
  rw [(tck_pv s now).1, gd_tt, (ln_pv [39, 2, x, y] (by simp)).1, gd_tt, ln_v [39, 2, x, y] (by simp), show Sp.ln [39, 2, x, y] = 4 from rfl, show ((4 : Int) == (0 : Int)) = false from rfl, cond_f, show inB (0 : Int) (List.length ([39, 2, x, y] : List Int)) = true from rfl, gd_tt, show (List.getD ([39, 2, x, y] : List Int) (0 : Nat) (0 : Int) == (20 : Int)) = false from rfl, cond_f, gd_tt, show (List.getD ([39, 2, x, y] : List Int) (0 : Nat) (0 : Int) == (39 : Int)) = true from rfl, cond_t, tck_v, show ((Sp.tck s now).1 == (1 : Int)) = false from by simpa using h1]
  rw [j330 (b := [39, 2, x, y]) (n := 4) rfl (by simp) rfl, Sp.B_14_33_0_0]
  rw [s_yx (v := (Sp.tck s now, F, now, ())) h0 hk hK h3, Sp.B_14_33_1_0]
  rw [j2n (by decide) (by simp)]
  rfl
end
end Go.Ev
set_option linter.unusedSimpArgs false
set_option linter.unusedVariables false
namespace Go.Ev
open Go
set_option maxRecDepth 100000
set_option maxHeartbeats 4000000
theorem andI_lo (x : Int) : 0 ≤ Sp.andI .i64 x 65535 ∧ Sp.andI .i64 x 65535 ≤ 65535 := by
  unfold Sp.andI
  have h : (BitVec.ofInt IntKind.i64.bits x &&& BitVec.ofInt IntKind.i64.bits 65535).toNat ≤ 65535 := by
    rw [BitVec.toNat_and]
    exact Nat.and_le_right
  have e : IntKind.wrap .i64 ((BitVec.ofInt IntKind.i64.bits x &&& BitVec.ofInt IntKind.i64.bits 65535).toNat : Int) = ((BitVec.ofInt IntKind.i64.bits x &&& BitVec.ofInt IntKind.i64.bits 65535).toNat : Int) := wi64 (by omega) (by omega)
  first | (rw [e]; omega) | omega
theorem key_ok {seed : Int} (h0 : 0 ≤ seed) (h1 : seed ≤ 65535) : Sp.p_19 seed 1 = true ∧ 0 ≤ Sp.key seed 1 ∧ Sp.key seed 1 ≤ 65535 := by
  have hF : ∃ z, F_19 seed 1 = some (z, ()) ∧ 0 ≤ z ∧ z ≤ 65535 := by
    unfold F_19
    rw [(din_pv _ _ _).1, (din_pv _ _ _).2, gd_tt, inr_iff.2 ⟨h0, h1⟩, Bool.not_true, cond_f, (din_pv _ _ _).1, (din_pv _ _ _).2, gd_tt, inr_iff.2 ⟨by decide, by decide⟩, Bool.not_true, cond_f]
    exact ⟨_, rfl, andI_lo _⟩
  obtain ⟨z, hz, a, b⟩ := hF
  have hq := pv_19 _ _ hz
  refine ⟨hq.1, ?_⟩
  rw [Sp.key, hq.2]
  exact ⟨a, b⟩
end Go.Ev
set_option linter.unusedSimpArgs false
set_option linter.unusedVariables false
namespace Go.Ev
open Go
set_option maxRecDepth 100000
set_option maxHeartbeats 4000000
abbrev stt (t k u e : Int) : SvT := (3, e, 0, k, u, t + 5000000, ())
theorem sdn_b {t : Int} (h0 : 0 ≤ t) (h1 : t ≤ 100000000000) : 1 ≤ Sp.sdn t ∧ Sp.sdn t ≤ 65535 := by
  unfold Sp.sdn
  rw [wi64 (n := 40503 * t) (by omega) (by omega)]
  have a := Int.tmod_nonneg (a := 40503 * t) 65535 (by omega)
  have b := Int.tmod_lt_of_pos (40503 * t) (b := 65535) (by decide)
  rw [wi64 (by omega) (by omega)]
  omega
theorem stt_sv {t k u e : Int} (t0 : 0 ≤ t) (t1 : t ≤ 100000000000) (k0 : 0 ≤ k) (k1 : k ≤ 2) (u0 : 0 ≤ u) (u1 : u ≤ 200000000000) (e0 : 0 ≤ e) (e1 : e ≤ 65535) : Sv (stt t k u e) := by
  refine ⟨?_, ?_, ?_, ?_, ?_, ?_, ?_, ?_, ?_, ?_, ?_, ?_, ?_⟩ <;> dsimp only [stt] <;> first | omega | (intro h; omega)
theorem stt_tck {t k u e : Int} (h : Sv (stt t k u e)) (t0 : 0 ≤ t) (t1 : t ≤ 100000000000) : Sp.tck (stt t k u e) t = stt t k u e := by
  rw [tck_now h t0 (by omega), if_pos (by right; dsimp only; omega)]
theorem stt_ded {t n k u e l : Int} (n0 : 0 ≤ n) (n1 : n ≤ 100000000000) : Sp.ded (3, e, l, k, u, t, ()) n = (3, e, l, k, u, n + 5000000, ()) := by
  unfold Sp.ded
  dsimp only
  rw [if_neg (by decide), wi64 (by omega) (by omega)]
structure Tb (t k u : Int) : Prop where
  t0 : 0 ≤ t
  t1 : t ≤ 100000000000
  k0 : 0 ≤ k
  k1 : k ≤ 2
  u0 : 0 ≤ u
  u1 : u ≤ 200000000000
theorem Tb.sv {t k u e : Int} (h : Tb t k u) (e0 : 0 ≤ e) (e1 : e ≤ 65535) : Sv (stt t k u e) := stt_sv h.t0 h.t1 h.k0 h.k1 h.u0 h.u1 e0 e1
theorem Tb.rq {t k u e : Int} (h : Tb t k u) (e0 : 0 ≤ e) (e1 : e ≤ 65535) : Rq (stt t k u e) Fz t := rqz (h.sv e0 e1) h.t0 (by have := h.t1; omega)
theorem Tb.tck {t k u e : Int} (h : Tb t k u) (e0 : 0 ≤ e) (e1 : e ≤ 65535) : Sp.tck (stt t k u e) t = stt t k u e := stt_tck (h.sv e0 e1) h.t0 h.t1
theorem r_q1 {t k u : Int} (h : Tb t k u) (hu : u ≤ t) : F_14 (stt t k u 0) Fz [39, 1] t = some (stt t k u (Sp.sdn t), Fz, [103, 1, IntKind.wrap .u8 (Int.fdiv (Sp.sdn t) 256), IntKind.wrap .u8 (Sp.sdn t)], ()) := by
  have e := h.tck (e := 0) (by decide) (by decide)
  rw [rq_q1 (h.rq (by decide) (by decide)) (by rw [e]; exact (by decide : ¬ (3 : Int) = 1)) (by rw [e]; dsimp only; omega) (by rw [e]), e]
  rw [show Sp.sdA (stt t k u 0) t = stt t k u (Sp.sdn t) from rfl, stt_ded h.t0 h.t1]
theorem r_q0 {t k u : Int} (h : Tb t k u) (hu : t < u) : F_14 (stt t k u 0) Fz [39, 1] t = some (stt t k u 0, Fz, [127, 39, 55], ()) := by
  have e := h.tck (e := 0) (by decide) (by decide)
  rw [rq_q0 (h.rq (by decide) (by decide)) (by rw [e]; exact (by decide : ¬ (3 : Int) = 1)) (by rw [e]; dsimp only; omega), e, stt_ded h.t0 h.t1]
theorem r_y0 {t k u x y : Int} (h : Tb t k u) : F_14 (stt t k u 0) Fz [39, 2, x, y] t = some (stt t k u 0, Fz, [127, 39, 36], ()) := by
  have e := h.tck (e := 0) (by decide) (by decide)
  rw [rq_y0 (h.rq (by decide) (by decide)) (by rw [e]; exact (by decide : ¬ (3 : Int) = 1)) (by rw [e]), e, stt_ded h.t0 h.t1]
theorem r_yr {t k u x y e : Int} (h : Tb t k u) (e0 : 1 ≤ e) (e1 : e ≤ 65535) (hK : Sp.kyn x y = Sp.key e 1) : F_14 (stt t k u e) Fz [39, 2, x, y] t = some ((3, 0, 1, 0, u, t + 5000000, ()), Fz, [103, 2], ()) := by
  have et := h.tck (e := e) (by omega) e1
  rw [rq_yr (h.rq (by omega) e1) (by rw [et]; exact (by decide : ¬ (3 : Int) = 1)) (by rw [et]; dsimp only; omega) (by rw [et]; exact (key_ok (by omega) e1).1) (by rw [et]; exact hK), et]
  rw [show Sp.sdR (stt t k u e) = (3, 0, 1, 0, u, t + 5000000, ()) from rfl, stt_ded h.t0 h.t1]
theorem r_yw {t k u x y e : Int} (h : Tb t k u) (e0 : 1 ≤ e) (e1 : e ≤ 65535) (hK : ¬ Sp.kyn x y = Sp.key e 1) (hk : k < 2) : F_14 (stt t k u e) Fz [39, 2, x, y] t = some (stt t (k + 1) u 0, Fz, [127, 39, 53], ()) := by
  have et := h.tck (e := e) (by omega) e1
  have k0 := h.k0
  have ew : Sp.sdW (stt t k u e) = stt t (k + 1) u 0 := by unfold Sp.sdW; dsimp only; rw [wi64 (by omega) (by omega)]
  rw [rq_yw (h.rq (by omega) e1) (by rw [et]; exact (by decide : ¬ (3 : Int) = 1)) (by rw [et]; dsimp only; omega) (by rw [et]; exact (key_ok (by omega) e1).1) (by rw [et]; exact hK) (by rw [et, ew]; dsimp only; omega), et, ew, stt_ded h.t0 h.t1]
theorem r_yx {t k u x y e : Int} (h : Tb t k u) (e0 : 1 ≤ e) (e1 : e ≤ 65535) (hK : ¬ Sp.kyn x y = Sp.key e 1) (hk : k = 2) : F_14 (stt t k u e) Fz [39, 2, x, y] t = some (stt t 0 (t + 10000000) 0, Fz, [127, 39, 54], ()) := by
  have et := h.tck (e := e) (by omega) e1
  have k0 := h.k0; have t0 := h.t0; have t1 := h.t1
  have ew : (Sp.sdW (stt t k u e)).2.2.2.1 = k + 1 := by unfold Sp.sdW; dsimp only; rw [wi64 (by omega) (by omega)]
  rw [rq_yx (h.rq (by omega) e1) (by rw [et]; exact (by decide : ¬ (3 : Int) = 1)) (by rw [et]; dsimp only; omega) (by rw [et]; exact (key_ok (by omega) e1).1) (by rw [et]; exact hK) (by rw [et, ew]; omega), et]
  have ex : Sp.sdX (stt t k u e) t = stt t 0 (t + 10000000) 0 := by unfold Sp.sdX; dsimp only; rw [wi64 (by omega) (by omega)]
  rw [ex, stt_ded h.t0 h.t1]
theorem kyn_of {K : Int} (h0 : 0 ≤ K) (h1 : K ≤ 65535) : Sp.kyn (IntKind.wrap .u8 (Int.fdiv K 256)) (IntKind.wrap .u8 K) = K := or_two h0 h1
section
variable {a b c d : Int}
theorem l4n : (((List.length [a, b, c, d] : Nat) : Int) != 4) = false := rfl
theorem l40 : inB 0 (List.length [a, b, c, d]) = true := rfl
theorem l41 : inB 1 (List.length [a, b, c, d]) = true := rfl
theorem l42 : inB 2 (List.length [a, b, c, d]) = true := rfl
theorem l43 : inB 3 (List.length [a, b, c, d]) = true := rfl
theorem g40 : List.getD [a, b, c, d] 0 0 = a := rfl
theorem g41 : List.getD [a, b, c, d] 1 0 = b := rfl
theorem g42 : List.getD [a, b, c, d] 2 0 = c := rfl
theorem g43 : List.getD [a, b, c, d] 3 0 = d := rfl
end
/-- What is checked of a wrong key. -/
theorem j41 {p0 t sd K c i k u : Int} {l : List Int} (h : Tb t k u) (hs : 1 ≤ sd) : Sp.J_4_1 p0 t [127, 39, c] sd K c l i (0, false, ()) [] [] (stt t k u 0) = some (.e1 p0 t [127, 39, c] sd K c l i (0, false, ()) [] [] (stt t k u 0)) := by
  have hq := pv_14 _ _ _ _ (r_y0 (x := IntKind.wrap .u8 (Int.fdiv K 256)) (y := IntKind.wrap .u8 K) h)
  unfold Sp.J_4_1
  rw [cond_dff (by omega), (eqb_pv [127, 39, c] (by simp)).1, (eqb_pv [127, 39, c] (by simp)).2, gd_tt, Bool.not_true, cond_f, cond_nff rfl]
  rw [hq.1, hq.2, gd_tt, (eqb_pv [127, 39, 36] (by simp)).1, (eqb_pv [127, 39, 36] (by simp)).2, gd_tt, Bool.not_true, cond_f]

theorem rd0a {p0 t u : Int} {l : List Int} {m : Nat} (h : Tb t 0 u) (hu : u ≤ t) (h0 : ¬ List.getD l (Int.toNat 0) 0 = 0) (hw0 : 0 ≤ List.getD l (Int.toNat 0) 0) (hw1 : List.getD l (Int.toNat 0) 0 ≤ 65535) : Sp.L_4_0 (m + 1) p0 t l 0 (0, false, ()) [] [] (stt t 0 u 0) = Sp.B_4_0_1 (Sp.L_4_0_1 m p0 t l 1 (0, false, ()) [] [] (stt t 1 u 0)) (some .e3) (some .e4) (fun p0 p1 p4 p5 p6 p7 => some (.e5 p0 p1 p4 p5 p6 p7)) := by
  have ht0 := h.t0; have ht1 := h.t1; have hu0 := h.u0
  obtain ⟨n0, n1⟩ := sdn_b h.t0 h.t1
  obtain ⟨kp, k0, k1⟩ := key_ok (seed := Sp.sdn t) (by omega) n1
  have q1 := pv_14 _ _ _ _ (r_q1 h hu)
  have hsd : Sp.orI .i64 (IntKind.wrap .i64 (IntKind.wrap .i64 (IntKind.wrap .u8 (Int.fdiv (Sp.sdn t) 256)) * 256)) (IntKind.wrap .i64 (IntKind.wrap .u8 (Sp.sdn t))) = Sp.sdn t := or_two (by omega) n1
  rw [Sp.L_4_0, cond_dtt (by decide), show inB (0 : Int) 3 = true from rfl, gd_tt, cond_eff h0, q1.1, q1.2, gd_tt]
  dsimp only
  rw [l4n, cond_f, l40, gd_tt, g40, cond_nff rfl, l41, gd_tt, g41, cond_nff rfl, l42, gd_tt, l43, gd_tt, g42, g43, hsd, kp, gd_tt]
  have hK0 := Int.tmod_nonneg (a := IntKind.wrap .i64 (Sp.key (Sp.sdn t) 1 + IntKind.wrap .i64 (List.getD l (Int.toNat 0) 0))) 65536 (by rw [wi64 (n := List.getD l _ 0) (by omega) (by omega), wi64 (by omega) (by omega)]; omega)
  have hK1 := Int.tmod_lt_of_pos (IntKind.wrap .i64 (Sp.key (Sp.sdn t) 1 + IntKind.wrap .i64 (List.getD l (Int.toNat 0) 0))) (b := 65536) (by decide)
  have hK2 : ¬ Int.tmod (IntKind.wrap .i64 (Sp.key (Sp.sdn t) 1 + IntKind.wrap .i64 (List.getD l (Int.toNat 0) 0))) 65536 = Sp.key (Sp.sdn t) 1 := by
    rw [wi64 (n := List.getD l _ 0) (by omega) (by omega), wi64 (by omega) (by omega), Int.tmod_eq_emod_of_nonneg (by omega)]
    omega
  generalize hKK : Int.tmod (IntKind.wrap .i64 (Sp.key (Sp.sdn t) 1 + IntKind.wrap .i64 (List.getD l (Int.toNat 0) 0))) 65536 = K at hK0 hK1 hK2
  have q2 := pv_14 _ _ _ _ (r_yw (x := IntKind.wrap .u8 (Int.fdiv K 256)) (y := IntKind.wrap .u8 K) h n0 n1 (by rw [kyn_of hK0 (by omega)]; exact hK2) (by decide))
  rw [q2.1, q2.2, gd_tt, show ((0 : Int) == (2 : Int)) = false from rfl, cond_f]
  dsimp only
  rw [j41 (k := 0 + 1) (u := u) ⟨ht0, ht1, by decide, by decide, by omega, by omega⟩ n0]
  rfl
theorem rd1b {p0 t u : Int} {l : List Int} {m : Nat} (h : Tb t 1 u) (hu : u ≤ t) (h0 : ¬ List.getD l (Int.toNat 1) 0 = 0) (hw0 : 0 ≤ List.getD l (Int.toNat 1) 0) (hw1 : List.getD l (Int.toNat 1) 0 ≤ 65535) : Sp.L_4_0_1 (m + 1) p0 t l 1 (0, false, ()) [] [] (stt t 1 u 0) = Sp.L_4_0_1 m p0 t l 2 (0, false, ()) [] [] (stt t 2 u 0) := by
  have ht0 := h.t0; have ht1 := h.t1; have hu0 := h.u0
  obtain ⟨n0, n1⟩ := sdn_b h.t0 h.t1
  obtain ⟨kp, k0, k1⟩ := key_ok (seed := Sp.sdn t) (by omega) n1
  have q1 := pv_14 _ _ _ _ (r_q1 h hu)
  have hsd : Sp.orI .i64 (IntKind.wrap .i64 (IntKind.wrap .i64 (IntKind.wrap .u8 (Int.fdiv (Sp.sdn t) 256)) * 256)) (IntKind.wrap .i64 (IntKind.wrap .u8 (Sp.sdn t))) = Sp.sdn t := or_two (by omega) n1
  rw [Sp.L_4_0_1, cond_dtt (by decide), show inB (1 : Int) 3 = true from rfl, gd_tt, cond_eff h0, q1.1, q1.2, gd_tt]
  dsimp only
  rw [l4n, cond_f, l40, gd_tt, g40, cond_nff rfl, l41, gd_tt, g41, cond_nff rfl, l42, gd_tt, l43, gd_tt, g42, g43, hsd, kp, gd_tt]
  have hK0 := Int.tmod_nonneg (a := IntKind.wrap .i64 (Sp.key (Sp.sdn t) 1 + IntKind.wrap .i64 (List.getD l (Int.toNat 1) 0))) 65536 (by rw [wi64 (n := List.getD l _ 0) (by omega) (by omega), wi64 (by omega) (by omega)]; omega)
  have hK1 := Int.tmod_lt_of_pos (IntKind.wrap .i64 (Sp.key (Sp.sdn t) 1 + IntKind.wrap .i64 (List.getD l (Int.toNat 1) 0))) (b := 65536) (by decide)
  have hK2 : ¬ Int.tmod (IntKind.wrap .i64 (Sp.key (Sp.sdn t) 1 + IntKind.wrap .i64 (List.getD l (Int.toNat 1) 0))) 65536 = Sp.key (Sp.sdn t) 1 := by
    rw [wi64 (n := List.getD l _ 0) (by omega) (by omega), wi64 (by omega) (by omega), Int.tmod_eq_emod_of_nonneg (by omega)]
    omega
  generalize hKK : Int.tmod (IntKind.wrap .i64 (Sp.key (Sp.sdn t) 1 + IntKind.wrap .i64 (List.getD l (Int.toNat 1) 0))) 65536 = K at hK0 hK1 hK2
  have q2 := pv_14 _ _ _ _ (r_yw (x := IntKind.wrap .u8 (Int.fdiv K 256)) (y := IntKind.wrap .u8 K) h n0 n1 (by rw [kyn_of hK0 (by omega)]; exact hK2) (by decide))
  rw [q2.1, q2.2, gd_tt, show ((1 : Int) == (2 : Int)) = false from rfl, cond_f]
  dsimp only
  rw [j41 (k := 1 + 1) (u := u) ⟨ht0, ht1, by decide, by decide, by omega, by omega⟩ n0]
  rfl
theorem rd2b {p0 t u : Int} {l : List Int} {m : Nat} (h : Tb t 2 u) (hu : u ≤ t) (h0 : ¬ List.getD l (Int.toNat 2) 0 = 0) (hw0 : 0 ≤ List.getD l (Int.toNat 2) 0) (hw1 : List.getD l (Int.toNat 2) 0 ≤ 65535) : Sp.L_4_0_1 (m + 1) p0 t l 2 (0, false, ()) [] [] (stt t 2 u 0) = Sp.L_4_0_1 m p0 t l 3 (0, false, ()) [] [] (stt t 0 (t + 10000000) 0) := by
  have ht0 := h.t0; have ht1 := h.t1; have hu0 := h.u0
  obtain ⟨n0, n1⟩ := sdn_b h.t0 h.t1
  obtain ⟨kp, k0, k1⟩ := key_ok (seed := Sp.sdn t) (by omega) n1
  have q1 := pv_14 _ _ _ _ (r_q1 h hu)
  have hsd : Sp.orI .i64 (IntKind.wrap .i64 (IntKind.wrap .i64 (IntKind.wrap .u8 (Int.fdiv (Sp.sdn t) 256)) * 256)) (IntKind.wrap .i64 (IntKind.wrap .u8 (Sp.sdn t))) = Sp.sdn t := or_two (by omega) n1
  rw [Sp.L_4_0_1, cond_dtt (by decide), show inB (2 : Int) 3 = true from rfl, gd_tt, cond_eff h0, q1.1, q1.2, gd_tt]
  dsimp only
  rw [l4n, cond_f, l40, gd_tt, g40, cond_nff rfl, l41, gd_tt, g41, cond_nff rfl, l42, gd_tt, l43, gd_tt, g42, g43, hsd, kp, gd_tt]
  have hK0 := Int.tmod_nonneg (a := IntKind.wrap .i64 (Sp.key (Sp.sdn t) 1 + IntKind.wrap .i64 (List.getD l (Int.toNat 2) 0))) 65536 (by rw [wi64 (n := List.getD l _ 0) (by omega) (by omega), wi64 (by omega) (by omega)]; omega)
  have hK1 := Int.tmod_lt_of_pos (IntKind.wrap .i64 (Sp.key (Sp.sdn t) 1 + IntKind.wrap .i64 (List.getD l (Int.toNat 2) 0))) (b := 65536) (by decide)
  have hK2 : ¬ Int.tmod (IntKind.wrap .i64 (Sp.key (Sp.sdn t) 1 + IntKind.wrap .i64 (List.getD l (Int.toNat 2) 0))) 65536 = Sp.key (Sp.sdn t) 1 := by
    rw [wi64 (n := List.getD l _ 0) (by omega) (by omega), wi64 (by omega) (by omega), Int.tmod_eq_emod_of_nonneg (by omega)]
    omega
  generalize hKK : Int.tmod (IntKind.wrap .i64 (Sp.key (Sp.sdn t) 1 + IntKind.wrap .i64 (List.getD l (Int.toNat 2) 0))) 65536 = K at hK0 hK1 hK2
  have q2 := pv_14 _ _ _ _ (r_yx (x := IntKind.wrap .u8 (Int.fdiv K 256)) (y := IntKind.wrap .u8 K) h n0 n1 (by rw [kyn_of hK0 (by omega)]; exact hK2) rfl)
  rw [q2.1, q2.2, gd_tt, show ((2 : Int) == (2 : Int)) = true from rfl, cond_t]
  dsimp only
  rw [j41 (k := 0) (u := (t + 10000000)) ⟨ht0, ht1, by decide, by decide, by omega, by omega⟩ n0]
  rfl
theorem se_again {t u n : Int} (h : Tb t 0 u) (h0 : t ≤ n) (h1 : n ≤ 100000000000) : Sp.p_13 (stt t 0 u 0) n = true ∧ Sp.p_14 (Prod.fst (Sp.v_13 (stt t 0 u 0) n)) Fz [16, 3] n = true ∧ Sp.v_14 (Prod.fst (Sp.v_13 (stt t 0 u 0) n)) Fz [16, 3] n = (stt n 0 u 0, Fz, [80, 3], ()) := by
  have ht := h.t0
  have hv := tck_sv n (h.sv (e := 0) (by decide) (by decide))
  have hq := pv_14 _ _ _ _ (rq_se3 (rqz (now := n) hv (by omega) (by omega)))
  refine ⟨(tck_pv _ n).1, ?_⟩
  rw [(tck_pv _ n).2]
  refine ⟨hq.1, ?_⟩
  dsimp only
  rw [hq.2, tck_tck]
  have e : Sp.ded (Sp.ent (Sp.tck (stt t 0 u 0) n) 3) n = stt n 0 u 0 := by
    rw [tck_now (h.sv (by decide) (by decide)) (by omega) (by omega)]
    split
    · exact stt_ded (by omega) h1
    · exact stt_ded (t := 0) (by omega) h1
  rw [e]
theorem plain_4 (a0 : Int) (l : List Int) (a2 : Int) (w0 : wfD (.int .u32) a0) (wl : wfD (.arr 3 (.int .u16)) l) (w2 : wfD (.int .u32) a2) : F_4 a0 l a2 = some true := by
  have hl : ∀ y ∈ l, 0 ≤ y ∧ y ≤ 65535 := fun y hy => by
    have := wl.2 y hy
    simp [wfD, Lit.wf, IntKind.min, IntKind.max, IntKind.signed, IntKind.bits] at this
    omega
  have hg : ∀ j : Nat, 0 ≤ List.getD l j 0 ∧ List.getD l j 0 ≤ 65535 := fun j => by
    rw [List.getD_eq_getElem?_getD]
    cases h : l[j]? with
    | none => simp
    | some x => exact hl x (List.mem_of_getElem? h)
  simp [wfD, Lit.wf, IntKind.min, IntKind.max, IntKind.signed, IntKind.bits] at w0 w2
  have b0 : 0 ≤ a0 ∧ a0 ≤ 4294967295 := by omega
  have b2 : 0 ≤ a2 ∧ a2 ≤ 4294967295 := by omega
  unfold F_4
  rw [aw_pv.1, aw_pv.2, gd_tt, Bool.not_true, cond_f, new_pv.1, new_pv.2, gd_tt, wi64 (n := a0) (by omega) (by omega)]
  have v1 : Sv (1, 0, 0, 0, 0, 0, ()) := sv_iff.1 (by decide)
  have q1 := pv_14 _ _ _ _ (rq_se3 (rqz v1 (now := a0) (by omega) (by omega)))
  have e1 : Sp.tck (1, 0, 0, 0, 0, 0, ()) a0 = (1, 0, 0, 0, 0, 0, ()) := by rw [tck_now v1 (by omega) (by omega), if_pos (Or.inl rfl)]
  have e2 : Sp.ded (Sp.ent (1, 0, 0, 0, 0, 0, ()) 3) a0 = stt a0 0 0 0 := stt_ded (t := 0) (by omega) (by omega)
  rw [e1, e2] at q1
  rw [q1.1, q1.2, gd_tt]
  dsimp only
  rw [(eqb_pv [80, 3] (by simp)).1, (eqb_pv [80, 3] (by simp)).2, gd_tt, Bool.not_true, cond_f]
  have T0 : Tb a0 0 0 := ⟨by omega, by omega, by decide, by decide, by decide, by decide⟩
  have T1 : Tb a0 1 0 := ⟨by omega, by omega, by decide, by decide, by decide, by decide⟩
  have T2 : Tb a0 2 0 := ⟨by omega, by omega, by decide, by decide, by decide, by decide⟩
  have T3 : Tb a0 0 (a0 + 10000000) := ⟨by omega, by omega, by decide, by decide, by omega, by omega⟩
  rw [show (4611686018427387904 : Nat) = 4611686018427387903 + 1 from rfl]
  by_cases z0 : List.getD l (Int.toNat 0) 0 = 0
  · rw [Sp.L_4_0, cond_dtt (by decide), show inB (0 : Int) 3 = true from rfl, gd_tt, cond_ett z0]; rfl
  rw [rd0a T0 (by omega) z0 (hg _).1 (hg _).2]
  rw [show (4611686018427387903 : Nat) = 4611686018427387902 + 1 from rfl]
  by_cases z1 : List.getD l (Int.toNat 1) 0 = 0
  · rw [Sp.L_4_0_1, cond_dtt (by decide), show inB (1 : Int) 3 = true from rfl, gd_tt, cond_ett z1]; rfl
  rw [rd1b T1 (by omega) z1 (hg _).1 (hg _).2]
  rw [show (4611686018427387902 : Nat) = 4611686018427387901 + 1 from rfl]
  by_cases z2 : List.getD l (Int.toNat 2) 0 = 0
  · rw [Sp.L_4_0_1, cond_dtt (by decide), show inB (2 : Int) 3 = true from rfl, gd_tt, cond_ett z2]; rfl
  rw [rd2b T2 (by omega) z2 (hg _).1 (hg _).2]
  rw [show (4611686018427387901 : Nat) = 4611686018427387900 + 1 from rfl, Sp.L_4_0_1, cond_dff (by decide)]
  dsimp only [Sp.B_4_0_1, Sp.B_4_0]
  have d0 := Int.tmod_nonneg (a := a2) 12000000 b2.1
  have d1 := Int.tmod_lt_of_pos a2 (b := 12000000) (by decide)
  rw [wi64 (n := a2) (by omega) (by omega), wi64 (n := a0 + Int.tmod a2 12000000) (by omega) (by omega)]
  generalize hn : a0 + Int.tmod a2 12000000 = n
  have Tn : Tb n 0 (a0 + 10000000) := ⟨by omega, by omega, by decide, by decide, by omega, by omega⟩
  obtain ⟨s1, s2, s3⟩ := se_again (n := n) T3 (by omega) (by omega)
  rw [s1, gd_tt, s2, gd_tt, s3]
  dsimp only
  rw [wi64 (n := a0 + 10000000) (by omega) (by omega)]
  by_cases hc : n < a0 + 10000000
  · have q := pv_14 _ _ _ _ (r_q0 Tn hc)
    rw [q.1, q.2, gd_tt, cond_dtt hc, (eqb_pv [127, 39, 55] (by simp)).1, (eqb_pv [127, 39, 55] (by simp)).2, gd_tt]
  obtain ⟨n0, n1⟩ := sdn_b Tn.t0 Tn.t1
  obtain ⟨kp, k0, k1⟩ := key_ok (seed := Sp.sdn n) (by omega) n1
  have q := pv_14 _ _ _ _ (r_q1 Tn (by omega))
  have hsd : Sp.orI .i64 (IntKind.wrap .i64 (IntKind.wrap .i64 (IntKind.wrap .u8 (Int.fdiv (Sp.sdn n) 256)) * 256)) (IntKind.wrap .i64 (IntKind.wrap .u8 (Sp.sdn n))) = Sp.sdn n := or_two (by omega) n1
  rw [q.1, q.2, gd_tt, cond_dff hc]
  dsimp only
  rw [l4n, cond_f, l40, gd_tt, g40, cond_nff rfl, l42, gd_tt, l43, gd_tt, g42, g43, hsd, kp, gd_tt]
  have q2 := pv_14 _ _ _ _ (r_yr (x := IntKind.wrap .u8 (Int.fdiv (Sp.key (Sp.sdn n) 1) 256)) (y := IntKind.wrap .u8 (Sp.key (Sp.sdn n) 1)) Tn n0 n1 (kyn_of k0 k1))
  rw [q2.1, q2.2, gd_tt, (eqb_pv [103, 2] (by simp)).1, (eqb_pv [103, 2] (by simp)).2, gd_tt]
  rfl
end Go.Ev
