/- Helpers: functions of the program as Lean functions, and what they compute. No condition. -/
import Derived.Test.YtbbpamlijfhebaaE3P2
import Derived.Test.YtbbpamlijfhebaaG3P0
import Derived.Test.YtbbpamlijfhebaaE3P3
import Derived.Test.YtbbpamlijfhebaaG3P2
set_option maxRecDepth 10000
set_option linter.unusedVariables false
set_option linter.unusedSimpArgs false
namespace Go.Ev
open Go
set_option maxRecDepth 100000
set_option maxHeartbeats 4000000
set_option linter.unusedVariables false
noncomputable section

def sm_28 : Nat → Option Summ := fun f => bif Nat.beq f 9 then some s_9 else none


def F_28 (a0 : (Int × (Int × (Int × (Int × (Int × (Int × (Bool × (Int × Unit))))))))) : Option (Bool × Unit) :=
  gd (Sp.p_9 a0) (some (!(Sp.v_9 a0).1, PUnit.unit))
def Sp.p_28 (a0 : (Int × (Int × (Int × (Int × (Int × (Int × (Bool × (Int × Unit))))))))) : Bool := (F_28 a0).isSome
def Sp.v_28 (a0 : (Int × (Int × (Int × (Int × (Int × (Int × (Bool × (Int × Unit))))))))) : Bool × Unit := (F_28 a0).getD (dfH [.bool])
def s_28 : Summ := shN [(.pair (.int .i64) (.pair (.int .i64) (.pair (.int .i64) (.pair (.int .i64) (.pair (.int .i64) (.pair (.int .i64) (.pair .bool (.pair (.int .i64) .unit))))))))] [.bool] (fun x => Sp.p_28 x.1) (fun x => Sp.v_28 x.1)
end
end Go.Ev
set_option linter.unusedSimpArgs false
set_option linter.unusedVariables false
namespace Go.Ev
open Go
set_option maxRecDepth 100000
set_option maxHeartbeats 4000000
abbrev CfT := Int × Int × Int × Int × Int × Int × Bool × Int × Unit
abbrev FaT := Int × Int × Int × Int × Int × List Int × Int × Unit
abbrev FsT := List CfT × List FaT × Int × Bool × Unit
namespace Sp
def inr (x l h : Int) : Bool := decide (x ≥ l) && decide (x ≤ h)
def cfg (c : CfT) : Bool := inr c.1 1 16777215 && (inr c.2.1 1 100 && (inr c.2.2.1 1 100 && (inr c.2.2.2.1 1 100 && (inr c.2.2.2.2.1 c.2.2.2.1 255 && (inr c.2.2.2.2.2.1 0 255 && inr c.2.2.2.2.2.2.2.1 0 8)))))
def val (x : Int) : Bool := inr x (-1099511627776) 1099511627776
def vals (l : List Int) : Bool := (List.range l.length).all fun j => val (l.getD j 0)
/-- A bit of a status. -/
def bt (f : FaT) (k : Int) : Bool := andI .i64 f.1 k == k
def kno (f : FaT) : Bool := decide (f.2.2.2.2.1 ≥ 1) && (decide (f.2.2.1 ≥ 1) && decide (f.2.2.2.2.2.2.1 ≥ 1))
def unk (f : FaT) : Bool := (f.2.2.1 == 0) && ((f.2.2.2.1 == 0) && ((f.2.2.2.2.1 == 0) && (f.2.2.2.2.2.2.1 == 0)))
def q2 (f : FaT) : Bool := !(bt f 2 && (f.2.2.2.1 != 0))
def q1 (c : CfT) (f : FaT) : Bool := (bt f 4 == (f.2.2.1 == 2)) && (!bt f 16 || (bt f 4 && c.2.2.2.2.2.2.1))
def q0 (cyc : Int) (f : FaT) : Bool := !bt f 1 || ((bt f 2 && bt f 8) && (f.2.2.2.2.2.2.1 == cyc))
def rngs (c : CfT) (f : FaT) (cyc : Int) : Bool := inr f.1 0 31 && (inr f.2.1 (0 - c.2.2.1) c.2.1 && (inr f.2.2.1 0 2 && (inr f.2.2.2.1 0 (c.2.2.2.2.1 - 1) && (inr f.2.2.2.2.1 0 255 && inr f.2.2.2.2.2.2.1 0 cyc))))
def frq (c : CfT) (f : FaT) : Bool := (((f.2.2.2.2.2.1.length : Int) == 0) || ((f.2.2.2.2.2.1.length : Int) == c.2.2.2.2.2.2.2.1)) && vals f.2.2.2.2.2.1
def fin (c : CfT) (f : FaT) : Bool := bif bt f 2 || bt f 4 then kno f && ((f.2.2.2.2.2.1.length : Int) == c.2.2.2.2.2.2.2.1) else unk f && ((f.2.2.2.2.2.1.length : Int) == 0)
/-- The state of a fault is valid. -/
def rgt (c : CfT) (f : FaT) (cyc : Int) : Bool := rngs c f cyc && (frq c f && ((q0 cyc f && (q1 c f && q2 f)) && fin c f))
end Sp
theorem inr_iff {x l h : Int} : Sp.inr x l h = true ↔ l ≤ x ∧ x ≤ h := by simp [Sp.inr]
theorem wit_ok (x l h : Int) : F_25 x l h = some (Sp.inr x l h, ()) := by
  unfold F_25 Sp.inr
  cases decide (x ≥ l) <;> rfl
theorem wit_pv (x l h : Int) : Sp.p_25 x l h = true ∧ Sp.v_25 x l h = (Sp.inr x l h, ()) := pv_25 x l h (wit_ok x l h)
theorem cfg_ok (c : CfT) : F_9 c = some (Sp.cfg c, ()) := by
  unfold F_9 Sp.cfg
  simp only [wit_pv, gd_tt]
  cases Sp.inr c.1 1 16777215 <;> try rfl
  cases Sp.inr c.2.1 1 100 <;> try rfl
  cases Sp.inr c.2.2.1 1 100 <;> try rfl
  cases Sp.inr c.2.2.2.1 1 100 <;> try rfl
  cases Sp.inr c.2.2.2.2.1 c.2.2.2.1 255 <;> try rfl
  cases Sp.inr c.2.2.2.2.2.1 0 255 <;> rfl
theorem cfg_pv (c : CfT) : Sp.p_9 c = true ∧ Sp.v_9 c = (Sp.cfg c, ()) := pv_9 c (cfg_ok c)
theorem has_pv (f : FaT) (k : Int) : Sp.p_40 f k = true ∧ Sp.v_40 f k = (Sp.bt f k, ()) := pv_40 f k rfl
/-- Bits of small numbers. -/
theorem tab (P : Int → Bool) (h : (List.range 32).all (fun n => P (n : Int)) = true) {s : Int} (h0 : 0 ≤ s) (h1 : s ≤ 31) : P s = true := by
  obtain ⟨n, rfl⟩ := Int.eq_ofNat_of_zero_le h0
  rw [List.all_eq_true] at h
  exact h n (by rw [List.mem_range]; omega)
theorem bt_ne {s : Int} (h0 : 0 ≤ s) (h1 : s ≤ 31) : ((Sp.andI .i64 s 1 != 0) = (Sp.andI .i64 s 1 == 1) ∧ (Sp.andI .i64 s 2 != 0) = (Sp.andI .i64 s 2 == 2) ∧ (Sp.andI .i64 s 4 != 0) = (Sp.andI .i64 s 4 == 4)) ∧ ((Sp.andI .i64 s 8 != 0) = (Sp.andI .i64 s 8 == 8) ∧ (Sp.andI .i64 s 16 != 0) = (Sp.andI .i64 s 16 == 16)) ∧ (Sp.andI .i64 s 10 == 10) = ((Sp.andI .i64 s 2 == 2) && (Sp.andI .i64 s 8 == 8)) ∧ (Sp.andI .i64 s 6 != 0) = ((Sp.andI .i64 s 2 == 2) || (Sp.andI .i64 s 4 == 4)) := by
  have := tab (fun s => ((((Sp.andI .i64 s 1 != 0) == (Sp.andI .i64 s 1 == 1)) && ((Sp.andI .i64 s 2 != 0) == (Sp.andI .i64 s 2 == 2)) && ((Sp.andI .i64 s 4 != 0) == (Sp.andI .i64 s 4 == 4)))) && ((((Sp.andI .i64 s 8 != 0) == (Sp.andI .i64 s 8 == 8)) && ((Sp.andI .i64 s 16 != 0) == (Sp.andI .i64 s 16 == 16)))) && ((Sp.andI .i64 s 10 == 10) == ((Sp.andI .i64 s 2 == 2) && (Sp.andI .i64 s 8 == 8))) && ((Sp.andI .i64 s 6 != 0) == ((Sp.andI .i64 s 2 == 2) || (Sp.andI .i64 s 4 == 4)))) (by decide +kernel) h0 h1
  simp only [Bool.and_eq_true, beq_iff_eq] at this
  exact ⟨⟨this.1.1.1.1.1, this.1.1.1.1.2, this.1.1.1.2⟩, this.1.1.2, this.1.2, this.2⟩
end Go.Ev
set_option linter.unusedSimpArgs false
set_option linter.unusedVariables false
namespace Go.Ev
open Go
set_option maxRecDepth 100000
set_option maxHeartbeats 4000000
theorem fnd_all (P : Nat → Bool) (n : Nat) : (fnd (fun j => !P j) n 0 = none) ↔ (List.range n).all P = true := by
  rw [fnd_none, List.all_eq_true]
  constructor
  · intro h x hx
    have := h x (by omega) (by rw [List.mem_range] at hx; omega)
    simpa using this
  · intro h i _ hi
    rw [h i (by rw [List.mem_range]; omega)]
    rfl
namespace Sp
def frm (c : CfT) (l : List Int) : Bool := ((l.length : Int) == c.2.2.2.2.2.2.2.1) && vals l
def cfgs (l : List CfT) : Bool := (List.range l.length).all fun j => cfg (l.getD j Zd0)
def rgts (F : FsT) : Bool := (List.range F.2.1.length).all fun j => rgt (F.1.getD j Zd0) (F.2.1.getD j Zd1) F.2.2.1
/-- A state is valid. -/
def vf (F : FsT) : Bool := decide (F.1.length ≤ 64) && (cfgs F.1 && (dst (F.1.map fun c => c.1) && (((F.2.1.length : Int) == F.1.length) && (inr F.2.2.1 0 1073741824 && ((!F.2.2.2.1 || decide (F.2.2.1 ≥ 1)) && rgts F)))))
end Sp
theorem val_pv (x : Int) : Sp.p_50 x = true ∧ Sp.v_50 x = (Sp.val x, ()) := by
  refine pv_50 x ?_
  unfold F_50
  rw [(wit_pv _ _ _).1, (wit_pv _ _ _).2, gd_tt]
  rfl
theorem frm_ok (c : CfT) (l : List Int) (h : l.length < 4611686018427387904) : F_36 c l = some (Sp.frm c l, ()) := by
  unfold F_36 Sp.frm
  cases (l.length : Int) == c.2.2.2.2.2.2.2.1
  · rfl
  have hf := find0 (fun m i => Sp.L_36_52_0_0 m l l.length i c) (n := l.length) (fun j => !Sp.val (l.getD j 0)) (ex := fun j => some (.e0 (j : Int) c)) (e1 := some (.e1 c)) h (fun m j hj => by
    show Sp.L_36_52_0_0 (m + 1) l l.length j c = bif !Sp.val (l.getD j 0) then some (.e0 (j : Int) c) else Sp.L_36_52_0_0 m l l.length ((j + 1 : Nat) : Int) c
    rw [Sp.L_36_52_0_0, cond_dtt (by omega), gd_inB (by omega) (by omega), Int.toNat_natCast, (val_pv _).1, (val_pv _).2, gd_tt, wi64 (by omega) (by omega)]
    push_cast
    rfl) (fun m => by
    show Sp.L_36_52_0_0 (m + 1) l l.length l.length c = _
    rw [Sp.L_36_52_0_0, cond_dff (by omega)])
  rw [hf, cond_t]
  cases hk : fnd (fun j => !Sp.val (l.getD j 0)) l.length 0 with
  | none =>
    have : Sp.vals l = true := (fnd_all (fun j => Sp.val (l.getD j 0)) l.length).1 hk
    rw [this]
    rfl
  | some k =>
    have : Sp.vals l = false := by
      cases hv : Sp.vals l
      · rfl
      · have := (fnd_all (fun j => Sp.val (l.getD j 0)) l.length).2 hv
        rw [this] at hk; cases hk
    rw [this]
    simp only [Sp.B_36_52_0_0]
    rw [decide_eq_true (by omega)]
    rfl
theorem frm_pv (c : CfT) (l : List Int) (h : l.length < 4611686018427387904) : Sp.p_36 c l = true ∧ Sp.v_36 c l = (Sp.frm c l, ()) := pv_36 c l (frm_ok c l h)
section
variable {c : CfT} {f : FaT} {cyc : Int}
theorem kn_pv (h0 : 0 ≤ f.1) (h1 : f.1 ≤ 31) : Sp.p_43 f = true ∧ Sp.v_43 f = (Sp.bt f 2 || Sp.bt f 4, ()) := by
  refine pv_43 f ?_
  unfold F_43 Sp.bt
  rw [(bt_ne h0 h1).2.2.2]
theorem bt10 (h0 : 0 ≤ f.1) (h1 : f.1 ≤ 31) : Sp.bt f 10 = (Sp.bt f 2 && Sp.bt f 8) := (bt_ne h0 h1).2.2.1
theorem gJ3 (h0 : 0 ≤ f.1) (h1 : f.1 ≤ 31) : Sp.J_32_3 c f = some (bif Sp.bt f 2 || Sp.bt f 4 then (bif Sp.kno f then .e0 c f else .e1) else .e2 c f) := by
  unfold Sp.J_32_3 Sp.kno
  rw [(kn_pv h0 h1).1, (kn_pv h0 h1).2, gd_tt]
  cases Sp.bt f 2 || Sp.bt f 4 <;> try rfl
  cases decide (f.2.2.2.2.1 ≥ 1) <;> try rfl
  cases decide (f.2.2.1 ≥ 1) <;> try rfl
  cases decide (f.2.2.2.2.2.2.1 ≥ 1) <;> rfl
theorem gJ2 (h0 : 0 ≤ f.1) (h1 : f.1 ≤ 31) : Sp.J_32_2 c f = some (bif Sp.q2 f then (bif Sp.bt f 2 || Sp.bt f 4 then (bif Sp.kno f then .e1 c f else .e0) else .e2 c f) else .e0) := by
  unfold Sp.J_32_2 Sp.q2
  simp only [has_pv, gd_tt, gJ3 h0 h1]
  cases Sp.bt f 2 <;> cases f.2.2.2.1 != 0 <;> cases Sp.bt f 4 <;> cases Sp.kno f <;> rfl
theorem gJ1 (h0 : 0 ≤ f.1) (h1 : f.1 ≤ 31) : Sp.J_32_1 c f = some (bif Sp.q1 c f && Sp.q2 f then (bif Sp.bt f 2 || Sp.bt f 4 then (bif Sp.kno f then .e1 c f else .e0) else .e2 c f) else .e0) := by
  unfold Sp.J_32_1 Sp.q1
  simp only [has_pv, gd_tt, gJ2 h0 h1]
  cases Sp.bt f 4 <;> cases f.2.2.1 == 2 <;> cases Sp.bt f 16 <;> cases c.2.2.2.2.2.2.1 <;> cases Sp.q2 f <;> cases Sp.bt f 2 <;> cases Sp.kno f <;> rfl
theorem gJ0 (h0 : 0 ≤ f.1) (h1 : f.1 ≤ 31) : Sp.J_32_0 cyc c f = some (bif Sp.q0 cyc f && (Sp.q1 c f && Sp.q2 f) then (bif Sp.bt f 2 || Sp.bt f 4 then (bif Sp.kno f then .e1 c f else .e0) else bif Sp.unk f then .e2 f else .e0) else .e0) := by
  unfold Sp.J_32_0 Sp.q0 Sp.unk
  simp only [has_pv, gd_tt, gJ1 h0 h1, bt10 h0 h1]
  have hz : ∀ x y : Int, (bif !(x == y) then (some (Sp.E_32_0.e0) : Option Sp.E_32_0) else none) = (bif x != y then some (Sp.E_32_0.e0) else none) := fun _ _ => rfl
  cases e1 : f.2.2.1 == 0 <;> cases e2 : f.2.2.2.1 == 0 <;> cases e3 : f.2.2.2.2.1 == 0 <;> cases e4 : f.2.2.2.2.2.2.1 == 0 <;> cases e5 : f.2.2.2.2.2.2.1 == cyc <;> cases Sp.q1 c f && Sp.q2 f <;> cases Sp.bt f 1 <;> cases Sp.bt f 2 <;> cases Sp.bt f 8 <;> cases Sp.bt f 4 <;> cases Sp.kno f <;> simp only [bne, e1, e2, e3, e4, e5, Sp.B_32_1, Bool.not_true, Bool.not_false, cond_true, cond_false, Bool.and_true, Bool.and_false, Bool.true_and, Bool.false_and, Bool.or_true, Bool.or_false, Bool.true_or, Bool.false_or]
theorem right_ok (hc : Sp.cfg c = true) (hfr : f.2.2.2.2.2.1.length < 4611686018427387904) : F_32 c f cyc = some (Sp.rgt c f cyc, ()) := by
  simp only [Sp.cfg, Bool.and_eq_true, inr_iff] at hc
  unfold F_32 Sp.rgt Sp.rngs
  simp only [wit_pv, gd_tt]
  rw [wi64 (n := 0 - c.2.2.1) (by omega) (by omega), wi64 (n := c.2.2.2.2.1 - 1) (by omega) (by omega)]
  cases h1 : Sp.inr f.1 0 31
  · rfl
  have hb := inr_iff.1 h1
  cases Sp.inr f.2.1 (0 - c.2.2.1) c.2.1
  · rfl
  cases Sp.inr f.2.2.1 0 2
  · rfl
  cases Sp.inr f.2.2.2.1 0 (c.2.2.2.2.1 - 1)
  · rfl
  cases Sp.inr f.2.2.2.2.1 0 255
  · rfl
  cases Sp.inr f.2.2.2.2.2.2.1 0 cyc
  · rfl
  simp only [Bool.not_true, cond_f, Bool.and_true, Bool.true_and]
  simp only [frm_pv _ _ hfr, gd_tt, gJ0 hb.1 hb.2]
  unfold Sp.frq Sp.fin Sp.frm
  by_cases hl : f.2.2.2.2.2.1 = []
  · have hv : Sp.vals f.2.2.2.2.2.1 = true := by rw [hl]; rfl
    have hz : ((f.2.2.2.2.2.1.length : Int) == 0) = true := by rw [hl]; rfl
    rw [cond_dff (by rw [hl]; decide), hv, hz]
    cases e1 : ((f.2.2.2.2.2.1.length : Int) == c.2.2.2.2.2.2.2.1) <;> cases Sp.bt f 2 <;> cases Sp.bt f 4 <;> cases Sp.q0 cyc f && (Sp.q1 c f && Sp.q2 f) <;> cases Sp.kno f <;> cases Sp.unk f <;> simp only [bne, hz, e1, Sp.B_32_0, Bool.not_true, Bool.not_false, cond_true, cond_false, Bool.and_true, Bool.and_false, Bool.true_and, Bool.false_and, Bool.or_true, Bool.or_false, Bool.true_or, Bool.false_or]
  · have hp : 0 < f.2.2.2.2.2.1.length := List.length_pos_iff.2 hl
    have hz : ((f.2.2.2.2.2.1.length : Int) == 0) = false := beq_eq_false_iff_ne.2 (by omega)
    rw [cond_dtt (by omega), hz]
    cases e1 : ((f.2.2.2.2.2.1.length : Int) == c.2.2.2.2.2.2.2.1) <;> cases Sp.vals f.2.2.2.2.2.1 <;> cases Sp.bt f 2 <;> cases Sp.bt f 4 <;> cases Sp.q0 cyc f && (Sp.q1 c f && Sp.q2 f) <;> cases Sp.kno f <;> cases Sp.unk f <;> simp only [bne, hz, e1, Sp.B_32_0, Bool.not_true, Bool.not_false, cond_true, cond_false, Bool.and_true, Bool.and_false, Bool.true_and, Bool.false_and, Bool.or_true, Bool.or_false, Bool.true_or, Bool.false_or]
theorem right_pv (hc : Sp.cfg c = true) (hfr : f.2.2.2.2.2.1.length < 4611686018427387904) : Sp.p_32 c f cyc = true ∧ Sp.v_32 c f cyc = (Sp.rgt c f cyc, ()) := pv_32 c f cyc (right_ok hc hfr)
end
/-- Memory is not great. -/
structure Sm (F : FsT) : Prop where
  l : F.2.1.length < 4611686018427387904
  f : ∀ j, j < F.2.1.length → (F.2.1.getD j Zd1).2.2.2.2.2.1.length < 4611686018427387904
theorem cfgs_at {l : List CfT} (h : Sp.cfgs l = true) {j : Nat} (hj : j < l.length) : Sp.cfg (l.getD j Zd0) = true := by
  unfold Sp.cfgs at h
  rw [List.all_eq_true] at h
  exact h j (by rw [List.mem_range]; exact hj)
theorem vJ0 {F : FsT} (hs : Sm F) (hc : Sp.cfgs F.1 = true) (hl : F.2.1.length = F.1.length) : Sp.J_15_0 F = some (bif Sp.rgts F then .e1 else .e0) := by
  have := all0 (fun m i => Sp.L_15_1 m F.2.1 F.2.1.length i F) (n := F.2.1.length) (fun j => Sp.rgt (F.1.getD j Zd0) (F.2.1.getD j Zd1) F.2.2.1) (e0 := some .e0) (e1 := some .e1) hs.l (fun m j hj => by
    show Sp.L_15_1 (m + 1) F.2.1 F.2.1.length j F = bif Sp.rgt (F.1.getD j Zd0) (F.2.1.getD j Zd1) F.2.2.1 then Sp.L_15_1 m F.2.1 F.2.1.length ((j + 1 : Nat) : Int) F else some .e0
    have hr := right_pv (cyc := F.2.2.1) (cfgs_at hc (j := j) (by omega)) (hs.f j hj)
    rw [Sp.L_15_1, cond_dtt (by omega), gd_inB (by omega) (by omega), gd_inB (by omega) (by omega), Int.toNat_natCast, hr.1, hr.2, gd_tt, wi64 (by have := hs.l; omega) (by have := hs.l; omega)]
    push_cast
    cases Sp.rgt (F.1.getD j Zd0) (F.2.1.getD j Zd1) F.2.2.1 <;> rfl) (fun m => by
    show Sp.L_15_1 (m + 1) F.2.1 F.2.1.length F.2.1.length F = _
    rw [Sp.L_15_1, cond_dff (by omega)])
  unfold Sp.J_15_0
  rw [this]
  unfold Sp.rgts
  cases (List.range F.2.1.length).all fun j => Sp.rgt (F.1.getD j Zd0) (F.2.1.getD j Zd1) F.2.2.1 <;> rfl
theorem vf_ok {F : FsT} (hs : Sm F) : F_15 F = some (Sp.vf F, ()) := by
  unfold F_15 Sp.vf
  by_cases h1 : (F.1.length : Int) > 64
  · rw [cond_dtt h1, decide_eq_false (by omega)]; rfl
  rw [cond_dff h1, decide_eq_true (p := F.1.length ≤ 64) (by omega), Bool.true_and]
  have hf := find0 (fun m i => Sp.L_15_41_0_0 m F.1 F.1.length i F) (n := F.1.length) (fun j => !Sp.cfg (F.1.getD j Zd0)) (ex := fun j => some (.e0 (j : Int) F)) (e1 := some (.e1 F)) (by omega) (fun m j hj => by
    show Sp.L_15_41_0_0 (m + 1) F.1 F.1.length j F = bif !Sp.cfg (F.1.getD j Zd0) then some (.e0 (j : Int) F) else Sp.L_15_41_0_0 m F.1 F.1.length ((j + 1 : Nat) : Int) F
    rw [Sp.L_15_41_0_0, cond_dtt (by omega), gd_inB (by omega) (by omega), Int.toNat_natCast, (cfg_pv _).1, (cfg_pv _).2, gd_tt, wi64 (by omega) (by omega)]
    push_cast
    rfl) (fun m => by
    show Sp.L_15_41_0_0 (m + 1) F.1 F.1.length F.1.length F = _
    rw [Sp.L_15_41_0_0, cond_dff (by omega)])
  rw [hf]
  cases hk : fnd (fun j => !Sp.cfg (F.1.getD j Zd0)) F.1.length 0 with
  | some k =>
    have : Sp.cfgs F.1 = false := by
      cases hv : Sp.cfgs F.1
      · rfl
      · have := (fnd_all (fun j => Sp.cfg (F.1.getD j Zd0)) F.1.length).2 hv
        rw [this] at hk; cases hk
    rw [this]
    simp only [Sp.B_15_41_0_0]
    rw [cond_dtt (by omega)]
    rfl
  | none =>
    have hc : Sp.cfgs F.1 = true := (fnd_all (fun j => Sp.cfg (F.1.getD j Zd0)) F.1.length).1 hk
    rw [hc]
    simp only [Sp.B_15_41_0_0, Bool.true_and]
    have em : (List.map (fun (y : Ty.den CfgTy) => Prod.fst y) F.1) = (F.1.map fun c => c.1) := rfl
    rw [em]
    cases Sp.dst (F.1.map fun c => c.1)
    · rfl
    simp only [Bool.not_true, cond_f, Bool.true_and]
    by_cases hl : (F.2.1.length : Int) = (F.1.length : Int)
    rotate_left
    · rw [cond_ntt hl, beq_eq_false_iff_ne.2 hl]; rfl
    rw [cond_nff hl, beq_iff_eq.2 hl, Bool.true_and, (wit_pv _ _ _).1, (wit_pv _ _ _).2, gd_tt]
    cases Sp.inr F.2.2.1 0 1073741824
    · rfl
    simp only [Bool.not_true, cond_f, Bool.true_and]
    rw [vJ0 hs hc (by omega)]
    cases F.2.2.2.1
    · cases Sp.rgts F <;> rfl
    · by_cases hy : F.2.2.1 < 1
      · rw [cond_t, cond_dtt hy, decide_eq_false (by omega)]
        rfl
      · rw [cond_t, cond_dff hy, decide_eq_true (p := F.2.2.1 ≥ 1) (by omega)]
        cases Sp.rgts F <;> rfl
theorem vf_pv {F : FsT} (hs : Sm F) : Sp.p_15 F = true ∧ Sp.v_15 F = (Sp.vf F, ()) := pv_15 F (vf_ok hs)
end Go.Ev
set_option linter.unusedSimpArgs false
set_option linter.unusedVariables false
namespace Go.Ev
open Go
set_option maxRecDepth 100000
set_option maxHeartbeats 4000000
namespace Sp
def codesL (l : List CfT) : List Int := l.map fun c => c.1
def rcs (l : List CfT) : Int := bif decide (l.length ≤ 64) then (bif cfgs l then (bif dst (codesL l) then 0 else 8) else 1) else 5
def newF (l : List CfT) : FsT × Int × Unit := bif rcs l == 0 then ((l, List.replicate l.length Zd1, 0, false, ()), 0, ()) else (([], [], 0, false, ()), rcs l, ())
end Sp
theorem codesL_at (l : List CfT) {j : Nat} (h : j < l.length) : (Sp.codesL l).getD j 0 = (l.getD j Zd0).1 := by
  unfold Sp.codesL
  rw [getD_at _ h, getD_at 0 (by simpa using h), List.getElem_map]
theorem new_ok (l : List CfT) : F_11 l = some (Sp.newF l) := by
  unfold F_11 Sp.newF Sp.rcs
  by_cases h1 : (l.length : Int) > 64
  · rw [cond_dtt h1, decide_eq_false (by omega)]; rfl
  rw [cond_dff h1, decide_eq_true (p := l.length ≤ 64) (by omega), cond_t]
  have hf := find0 (fun m i => Sp.L_11_41_0_0 m l l.length i (0, false, ())) (n := l.length) (fun j => !Sp.cfg (l.getD j Zd0)) (ex := fun j => some (.e0 (j : Int) (0, false, ()))) (e1 := some (.e1 (0, false, ()))) (by omega) (fun m j hj => by
    show Sp.L_11_41_0_0 (m + 1) l l.length j (0, false, ()) = bif !Sp.cfg (l.getD j Zd0) then some (.e0 (j : Int) (0, false, ())) else Sp.L_11_41_0_0 m l l.length ((j + 1 : Nat) : Int) (0, false, ())
    rw [Sp.L_11_41_0_0, cond_dtt (by omega), gd_inB (by omega) (by omega), Int.toNat_natCast, (cfg_pv _).1, (cfg_pv _).2, gd_tt, wi64 (by omega) (by omega)]
    push_cast
    rfl) (fun m => by
    show Sp.L_11_41_0_0 (m + 1) l l.length l.length (0, false, ()) = _
    rw [Sp.L_11_41_0_0, cond_dff (by omega)])
  rw [hf]
  cases hk : fnd (fun j => !Sp.cfg (l.getD j Zd0)) l.length 0 with
  | some k =>
    have : Sp.cfgs l = false := by
      cases hv : Sp.cfgs l
      · rfl
      · have := (fnd_all (fun j => Sp.cfg (l.getD j Zd0)) l.length).2 hv
        rw [this] at hk; cases hk
    rw [this]
    simp only [Sp.B_11_41_0_0]
    rw [cond_dtt (by omega)]
    rfl
  | none =>
    have hc : Sp.cfgs l = true := (fnd_all (fun j => Sp.cfg (l.getD j Zd0)) l.length).1 hk
    rw [hc]
    simp only [Sp.B_11_41_0_0]
    rw [gd_room (by omega) (by omega), Int.toNat_natCast, beq_self_eq_true, Bool.true_and, show room l.length 72 = true from room_ok (by omega) (by omega), gd_tt]
    have em : (List.map (fun (y : Ty.den CfgTy) => Prod.fst y) l) = Sp.codesL l := rfl
    rw [em]
    cases Sp.dst (Sp.codesL l) <;> rfl
theorem new_pv (l : List CfT) : Sp.p_11 l = true ∧ Sp.v_11 l = Sp.newF l := pv_11 l (new_ok l)
end Go.Ev
set_option linter.unusedSimpArgs false
set_option linter.unusedVariables false
namespace Go.Ev
open Go
set_option maxRecDepth 100000
set_option maxHeartbeats 4000000
theorem gs {α : Type} {l : List α} {i : Nat} {x d : α} (h : i < l.length) : (l.set i x).getD i d = x := by
  simp [List.getD_eq_getElem?_getD, h]
/-- A list that is changed from its beginning on. -/
def mapTo {α : Type} (g : Nat → α → α) (n : Nat) (l : List α) : List α := l.mapIdx fun i x => if i < n then g i x else x
section
variable {α : Type} {g : Nat → α → α} {l : List α} {d : α}
end
namespace Sp
def beg1 (f : FaT) : FaT := (andnI .i64 f.1 9, 0, f.2.2)
def fg1 (f : FaT) : FaT := (8, f.2.1, 0, 0, 0, [], 0, ())
def end1 (c : CfT) (cyc : Int) (f : FaT) : FaT :=
  if bt f 8 = true ∧ ¬ f.2.2.2.2.2.2.1 = cyc then
    if bt (andnI .i64 f.1 2, f.2) 4 = true then
      if f.2.2.2.1 + 1 = c.2.2.2.2.1 then fg1 f else
      if f.2.2.2.1 + 1 ≥ c.2.2.2.1 then (andnI .i64 (andnI .i64 f.1 2) 16, f.2.1, f.2.2.1, f.2.2.2.1 + 1, f.2.2.2.2) else (andnI .i64 f.1 2, f.2.1, f.2.2.1, f.2.2.2.1 + 1, f.2.2.2.2)
    else fg1 f
  else f
def err (e : Int) : FsT × Int × Unit := (([], [], 0, false, ()), e, ())
def begF (F : FsT) : FsT × Int × Unit := if vf F = true then (if F.2.2.2.1 = true then err 6 else if F.2.2.1 = 1073741824 then err 9 else ((F.1, mapTo (fun _ => beg1) F.2.1.length F.2.1, F.2.2.1 + 1, true, ()), 0, ())) else err 1
def endF (F : FsT) : FsT × Int × Unit := if vf F = true then (if F.2.2.2.1 = true then ((F.1, mapTo (fun j => end1 (F.1.getD j Zd0) F.2.2.1) F.2.1.length F.2.1, F.2.2.1, false, ()), 0, ()) else err 6) else err 1
end Sp
/-- What valid states have. -/
structure Vf (F : FsT) : Prop where
  n : F.1.length ≤ 64
  c : Sp.cfgs F.1 = true
  d : Sp.dst (F.1.map fun c => c.1) = true
  l : F.2.1.length = F.1.length
  y0 : 0 ≤ F.2.2.1
  y1 : F.2.2.1 ≤ 1073741824
  run : F.2.2.2.1 = true → 1 ≤ F.2.2.1
  r : ∀ j, j < F.1.length → Sp.rgt (F.1.getD j Zd0) (F.2.1.getD j Zd1) F.2.2.1 = true
theorem vf_iff {F : FsT} : Sp.vf F = true ↔ Vf F := by
  unfold Sp.vf Sp.rgts
  simp only [Bool.and_eq_true, decide_eq_true_eq, beq_iff_eq, inr_iff, Bool.or_eq_true, Bool.not_eq_true', List.all_eq_true, List.mem_range]
  constructor
  · rintro ⟨a, b, c, d, e, f, g⟩
    refine ⟨a, b, c, by omega, e.1, e.2, fun h => ?_, fun j hj => g j (by omega)⟩
    rcases f with f | f
    · rw [h] at f; cases f
    · omega
  · intro h
    refine ⟨h.n, h.c, h.d, by have := h.l; omega, ⟨h.y0, h.y1⟩, ?_, fun j hj => h.r j (by have := h.l; omega)⟩
    cases hr : F.2.2.2.1
    · exact Or.inl rfl
    · exact Or.inr (by have := h.run hr; omega)
theorem vals_len {c : CfT} {f : FaT} {cyc : Int} (hc : Sp.cfg c = true) (h : Sp.rgt c f cyc = true) : f.2.2.2.2.2.1.length ≤ 8 := by
  simp only [Sp.rgt, Sp.frq, Sp.cfg, Bool.and_eq_true, inr_iff, Bool.or_eq_true, beq_iff_eq] at h hc
  have := h.2.1.1
  omega
theorem Vf.cf {F : FsT} (h : Vf F) {j : Nat} (hj : j < F.1.length) : Sp.cfg (F.1.getD j Zd0) = true := cfgs_at h.c hj
theorem Vf.fl {F : FsT} (h : Vf F) {j : Nat} (hj : j < F.1.length) : (F.2.1.getD j Zd1).2.2.2.2.2.1.length ≤ 8 := vals_len (h.cf hj) (h.r j hj)
theorem Vf.sm {F : FsT} (h : Vf F) : Sm F := ⟨by have := h.l; have := h.n; omega, fun j hj => by have := h.fl (j := j) (by have := h.l; omega); omega⟩
end Go.Ev
set_option linter.unusedSimpArgs false
set_option linter.unusedVariables false
namespace Go.Ev
open Go
set_option maxRecDepth 100000
set_option maxHeartbeats 4000000
namespace Sp
/-- A bit of a number. -/
def sb (s k : Int) : Bool := andI .i64 s k == k
def fail1 (c : CfT) (cyc : Int) (frame : List Int) (f : FaT) (n : Int) : FaT :=
  let oc := if bt f 1 = true then f.2.2.2.2.1 else if 255 < f.2.2.2.2.1 + 1 then 255 else f.2.2.2.2.1 + 1
  let fr := if bt f 1 = true then f.2.2.2.2.2.1 else if bt f 4 = true then f.2.2.2.2.2.1 else frame
  let s := orI .i64 f.1 11
  if f.2.2.2.2.2.2.1 = cyc then (s, n, f.2.2.1, 0, oc, fr, f.2.2.2.2.2.2.1, ()) else
  let cy := if 2 < f.2.2.1 + 1 then 2 else f.2.2.1 + 1
  if cy < 2 then (s, n, cy, 0, oc, fr, cyc, ()) else
  (if c.2.2.2.2.2.2.1 = true then orI .i64 (orI .i64 s 4) 16 else orI .i64 s 4, n, cy, 0, oc, fr, cyc, ())
def cnt1 (c : CfT) (bad : Bool) (n : Int) : Int :=
  if bad = true then (let x := (if n > 0 then n else 0) + 1; if c.2.1 < x then c.2.1 else x) else (let x := (if n < 0 then n else 0) - 1; if 0 - c.2.2.1 > x then 0 - c.2.2.1 else x)
def res1 (c : CfT) (cyc : Int) (bad : Bool) (frame : List Int) (f : FaT) : FaT :=
  let n := cnt1 c bad f.2.1
  if n = c.2.1 then fail1 c cyc frame f n else
  if n = 0 - c.2.2.1 then (andnI .i64 (orI .i64 f.1 8) 1, n, f.2.2) else (f.1, n, f.2.2)
end Sp
theorem bt_sb (f : FaT) (k : Int) : Sp.bt f k = Sp.sb f.1 k := rfl
structure Rg (c : CfT) (f : FaT) (cyc : Int) : Prop where
  s0 : 0 ≤ f.1
  s1 : f.1 ≤ 31
  n0 : 0 - c.2.2.1 ≤ f.2.1
  n1 : f.2.1 ≤ c.2.1
  y0 : 0 ≤ f.2.2.1
  y1 : f.2.2.1 ≤ 2
  c0 : 0 ≤ f.2.2.2.1
  c1 : f.2.2.2.1 ≤ c.2.2.2.2.1 - 1
  o0 : 0 ≤ f.2.2.2.2.1
  o1 : f.2.2.2.2.1 ≤ 255
  l0 : 0 ≤ f.2.2.2.2.2.2.1
  l1 : f.2.2.2.2.2.2.1 ≤ cyc
  fr : Sp.vals f.2.2.2.2.2.1 = true
  fa : Sp.sb f.1 1 = true → Sp.sb f.1 2 = true ∧ Sp.sb f.1 8 = true ∧ f.2.2.2.2.2.2.1 = cyc
  co : Sp.sb f.1 4 = true ↔ f.2.2.1 = 2
  lp : Sp.sb f.1 16 = true → Sp.sb f.1 4 = true ∧ c.2.2.2.2.2.2.1 = true
  pe : Sp.sb f.1 2 = true → f.2.2.2.1 = 0
  kn : Sp.sb f.1 2 = true ∨ Sp.sb f.1 4 = true → f.2.2.2.2.1 ≥ 1 ∧ f.2.2.1 ≥ 1 ∧ f.2.2.2.2.2.2.1 ≥ 1 ∧ (f.2.2.2.2.2.1.length : Int) = c.2.2.2.2.2.2.2.1
  un : Sp.sb f.1 2 = false → Sp.sb f.1 4 = false → f.2.2.1 = 0 ∧ f.2.2.2.1 = 0 ∧ f.2.2.2.2.1 = 0 ∧ f.2.2.2.2.2.2.1 = 0 ∧ f.2.2.2.2.2.1.length = 0
theorem rgt_iff {c : CfT} {f : FaT} {cyc : Int} : Sp.rgt c f cyc = true ↔ Rg c f cyc := by
  have hq : ∀ b : Bool, (b == true) = b := by decide
  constructor
  · intro h
    simp only [Sp.rgt, Sp.rngs, Sp.frq, Sp.q0, Sp.q1, Sp.q2, Sp.fin, Sp.kno, Sp.unk, bt_sb, Bool.and_eq_true, inr_iff] at h
    obtain ⟨⟨hs, hn, hy, hcl, ho, hl⟩, ⟨_, hv⟩, ⟨q0, ⟨q1, ql⟩, q2⟩, hf⟩ := h
    refine ⟨hs.1, hs.2, hn.1, hn.2, hy.1, hy.2, hcl.1, hcl.2, ho.1, ho.2, hl.1, hl.2, hv, ?_, ?_, ?_, ?_, ?_, ?_⟩
    · intro h
      simpa [h, and_assoc] using q0
    · cases h : Sp.sb f.1 4 <;> simp [h] at q1 <;> simp [q1]
    · intro h
      simpa [h] using ql
    · intro h
      simpa [h] using q2
    · intro h
      have : (Sp.sb f.1 2 || Sp.sb f.1 4) = true := by rcases h with h | h <;> simp [h]
      rw [this] at hf
      simpa [and_assoc] using hf
    · intro h1 h2
      rw [h1, h2] at hf
      simpa [and_assoc] using hf
  · intro h
    simp only [Sp.rgt, Sp.rngs, Sp.frq, Sp.q0, Sp.q1, Sp.q2, Sp.fin, Sp.kno, Sp.unk, bt_sb, Bool.and_eq_true, inr_iff]
    refine ⟨⟨⟨h.s0, h.s1⟩, ⟨h.n0, h.n1⟩, ⟨h.y0, h.y1⟩, ⟨h.c0, h.c1⟩, ⟨h.o0, h.o1⟩, h.l0, h.l1⟩, ⟨?_, h.fr⟩, ⟨?_, ⟨?_, ?_⟩, ?_⟩, ?_⟩
    · cases h2 : Sp.sb f.1 2
      · cases h4 : Sp.sb f.1 4
        · have := h.un h2 h4
          simp [this.2.2.2.2]
        · have := h.kn (Or.inr h4)
          simp [this.2.2.2]
      · have := h.kn (Or.inl h2)
        simp [this.2.2.2]
    · cases h1 : Sp.sb f.1 1
      · rfl
      · have := h.fa h1
        simp [this]
    · have := h.co
      cases h4 : Sp.sb f.1 4 <;> simp [h4] at this ⊢ <;> exact this
    · cases h1 : Sp.sb f.1 16
      · rfl
      · have := h.lp h1
        simp [this]
    · cases h1 : Sp.sb f.1 2
      · rfl
      · have := h.pe h1
        simp [this]
    · cases h2 : Sp.sb f.1 2
      · cases h4 : Sp.sb f.1 4
        · have := h.un h2 h4
          simp [this]
        · have := h.kn (Or.inr h4)
          simp [this]
      · have := h.kn (Or.inl h2)
        simp [this]
/-! What operations do to bits. -/
end Go.Ev
set_option linter.unusedSimpArgs false
set_option linter.unusedVariables false
namespace Go.Ev
open Go
set_option maxRecDepth 100000
set_option maxHeartbeats 4000000
theorem aw : F_8 = some (true, ()) := by kernel_rfl
theorem aw_pv : Sp.p_8 = true ∧ Sp.v_8 = (true, ()) := pv_8 aw
/-- A fault that never was. -/
theorem zero_rg {c : CfT} (hc : Sp.cfg c = true) : Rg c Zd1 0 := by
  simp only [Sp.cfg, Bool.and_eq_true, inr_iff] at hc
  refine ⟨?_, ?_, ?_, ?_, ?_, ?_, ?_, ?_, ?_, ?_, ?_, ?_, rfl, ?_, ?_, ?_, ?_, ?_, ?_⟩ <;> simp only [Ty.dflt]
  · omega
  · omega
  · omega
  · omega
  · omega
  · omega
  · omega
  · omega
  · omega
  · omega
  · omega
  · omega
  · intro h; exact absurd h (by decide)
  · decide
  · intro h; exact absurd h (by decide)
  · intro _; trivial
  · intro h; exact absurd h (by decide)
  · intro _ _; simp
theorem new_vf {l : List CfT} (h : Sp.rcs l = 0) : Vf (l, List.replicate l.length Zd1, 0, false, ()) := by
  unfold Sp.rcs at h
  cases h1 : decide (l.length ≤ 64)
  · rw [h1] at h; cases h
  have h1 := of_decide_eq_true h1
  rw [decide_eq_true h1, cond_t] at h
  cases h2 : Sp.cfgs l
  · rw [h2] at h; cases h
  rw [h2, cond_t] at h
  cases h3 : Sp.dst (Sp.codesL l)
  · rw [h3] at h; cases h
  refine ⟨h1, h2, h3, by simp, ?_, ?_, ?_, ?_⟩ <;> dsimp only
  · omega
  · omega
  · intro h; cases h
  · intro j hj
    have e : (List.replicate l.length Zd1).getD j Zd1 = Zd1 := by
      rw [getD_at _ (by simpa using hj), List.getElem_replicate]
    rw [e]
    exact rgt_iff.2 (zero_rg (cfgs_at h2 hj))
end Go.Ev
namespace Go.Ev
open Go
set_option maxRecDepth 100000
set_option maxHeartbeats 4000000
set_option linter.unusedVariables false
noncomputable section

def sm_44 : Nat → Option Summ := fun f => bif Nat.beq f 26 then some s_26 else none
def T_44_0 (p0 : List Int) (p1 : Int) : St := St.mk ([CV.pure (Ty.slice (Ty.int IntKind.i64)) p0, jk, jk, CV.int IntKind.i64 p1] ++ (jl 12)) [] (0 : Nat)
def X_44_0_0 : St := St.mk ([jk, jk, CV.bool false] ++ (jl 13)) [] (0 : Nat)
def X_44_0_1 : St := St.mk (jl 16) [] (0 : Nat)
inductive Sp.E_44_0 where
  | e0
  | e1
def Sp.B_44_0 {R : Type} (r : Option Sp.E_44_0) (k0 : Option R) (k1 : Option R) : Option R := match r with
  | none => none
  | some (.e0) => k0
  | some (.e1) => k1
def Sp.L_44_0 : Nat → (List Int) → (Int) → Option Sp.E_44_0
  | 0, _, _ => none
  | m + 1, p0, p1 => bif decide (p1 < (↑(List.length p0) : Int)) then gd (inB p1 (List.length p0)) (gd (Sp.p_26 (List.getD p0 (Int.toNat p1) (0 : Int)) (-1099511627776 : Int) (1099511627776 : Int)) (bif !(Sp.v_26 (List.getD p0 (Int.toNat p1) (0 : Int)) (-1099511627776 : Int) (1099511627776 : Int)).1 then some (Sp.E_44_0.e0) else Sp.L_44_0 m p0 (IntKind.wrap IntKind.i64 (p1 + (1 : Int))))) else some (Sp.E_44_0.e1)
def G_44_0 {R : Type} (p0 : List Int) (p1 : Int) (k : Ex → St → Option R) : Option R := Sp.B_44_0 (Sp.L_44_0 FU p0 p1) (k Ex.ret (X_44_0_0)) (k (Ex.exit (0 : Nat)) (X_44_0_1))
def o_44_0 {R : Type} (G : (List Int) → (Int) → (Ex → St → Option R) → Option R) : St → (Ex → St → Option R) → Option R := fun T k => match T.sl.getD 0 .junk, T.sl.getD 3 .junk, T.hp with
  | CV.pure (Ty.slice (Ty.int IntKind.i64)) p0, CV.int IntKind.i64 p1, [] => gd (shapeOK T 16 [0, 3] (0 : Nat)) (G p0 p1 k)
  | _, _, _ => none
def O_44_44_0 {R : Type} : St → (Ex → St → Option R) → Option R := fun T k => o_44_0 G_44_0 T k
def F_44 (a0 : (List Int)) : Option (Bool × Unit) :=
  Sp.B_44_0 (Sp.L_44_0 (4611686018427387904 : Nat) a0 (0 : Int)) (some (false, PUnit.unit)) (some (true, PUnit.unit))
def Sp.p_44 (a0 : (List Int)) : Bool := (F_44 a0).isSome
def Sp.v_44 (a0 : (List Int)) : Bool × Unit := (F_44 a0).getD (dfH [.bool])
def s_44 : Summ := shN [(.slice (.int .i64))] [.bool] (fun x => Sp.p_44 x.1) (fun x => Sp.v_44 x.1)
end
end Go.Ev
namespace Go.Ev
open Go
set_option maxRecDepth 100000
set_option maxHeartbeats 4000000
set_option linter.unusedVariables false
noncomputable section

def sm_45 : Nat → Option Summ := fun f => none


def F_45 (a0 : (Int × (Int × (Int × (Int × (Int × ((List Int) × (Int × Unit)))))))) (a1 : Int) : Option (Bool × Unit) :=
  some (Sp.andI IntKind.i64 (a0.1) a1 != (0 : Int), PUnit.unit)
def Sp.p_45 (a0 : (Int × (Int × (Int × (Int × (Int × ((List Int) × (Int × Unit)))))))) (a1 : Int) : Bool := (F_45 a0 a1).isSome
def Sp.v_45 (a0 : (Int × (Int × (Int × (Int × (Int × ((List Int) × (Int × Unit)))))))) (a1 : Int) : Bool × Unit := (F_45 a0 a1).getD (dfH [.bool])
def s_45 : Summ := shN [(.pair (.int .i64) (.pair (.int .i64) (.pair (.int .i64) (.pair (.int .i64) (.pair (.int .i64) (.pair (.slice (.int .i64)) (.pair (.int .i64) .unit))))))), (.int .i64)] [.bool] (fun x => Sp.p_45 x.1 x.2.1) (fun x => Sp.v_45 x.1 x.2.1)
end
end Go.Ev
namespace Go.Ev
open Go
set_option maxRecDepth 100000
set_option maxHeartbeats 4000000
set_option linter.unusedVariables false
noncomputable section
abbrev Zt34_0 : Type := Int × Int × Int × Int × Int × List Int × Int × PUnit
abbrev Zt34_1 : Type := Int × Int × Int × Int × Int × Int × Bool × Int × PUnit
abbrev Zy34_2 : Ty := (Ty.pair (Ty.int IntKind.i64) (Ty.pair (Ty.int IntKind.i64) (Ty.pair (Ty.int IntKind.i64) (Ty.pair (Ty.int IntKind.i64) (Ty.pair (Ty.int IntKind.i64) (Ty.pair (Ty.int IntKind.i64) (Ty.pair Ty.bool (Ty.pair (Ty.int IntKind.i64) Ty.unit))))))))
abbrev Zy34_3 : Ty := (Ty.pair (Ty.int IntKind.i64) (Ty.pair (Ty.int IntKind.i64) (Ty.pair (Ty.int IntKind.i64) (Ty.pair (Ty.int IntKind.i64) (Ty.pair (Ty.int IntKind.i64) (Ty.pair (Ty.slice (Ty.int IntKind.i64)) (Ty.pair (Ty.int IntKind.i64) Ty.unit)))))))
abbrev Zy34_4 : Ty := (.pair (.int .i64) (.pair (.int .i64) (.pair (.int .i64) (.pair (.int .i64) (.pair (.int .i64) (.pair (.int .i64) (.pair .bool (.pair (.int .i64) .unit))))))))
abbrev Zy34_5 : Ty := (.pair (.int .i64) (.pair (.int .i64) (.pair (.int .i64) (.pair (.int .i64) (.pair (.int .i64) (.pair (.slice (.int .i64)) (.pair (.int .i64) .unit)))))))

def sm_34 : Nat → Option Summ := fun f => bif Nat.beq f 26 then some s_26 else bif Nat.beq f 44 then some s_44 else bif Nat.beq f 45 then some s_45 else none
def T_34_3 (p0 : Bool) (p1 : Zt34_1) (p2 : Zt34_0) : St := St.mk ([jk, jk, jk, CV.ptr (0 : Nat) [], CV.ptr (1 : Nat) [], jk, jk, CV.bool p0] ++ (jl 158)) [Blk.mem (CV.pure Zy34_2 p1), Blk.mem (CV.pure Zy34_3 p2)] (0 : Nat)
def X_34_3_0 (p1 : Zt34_1) (p2 : Zt34_0) : St := St.mk (jl 6 ++ ([CV.bool ((↑(List.length (p2.2.2.2.2.2.1)) : Int) == p1.2.2.2.2.2.2.2.1)] ++ (jl 159))) [] (0 : Nat)
def X_34_3_1 : St := St.mk (jl 6 ++ ([CV.bool false] ++ (jl 159))) [] (0 : Nat)
def X_34_3_2 (p2 : Zt34_0) : St := St.mk (jl 6 ++ ([CV.bool ((↑(List.length (p2.2.2.2.2.2.1)) : Int) == (0 : Int))] ++ (jl 159))) [] (0 : Nat)
inductive Sp.E_34_3 where
  | e0 (p1 : Zt34_1) (p2 : Zt34_0)
  | e1
  | e2 (p2 : Zt34_0)
def Sp.B_34_3 {R : Type} (r : Option Sp.E_34_3) (k0 : (Zt34_1) → (Zt34_0) → Option R) (k1 : Option R) (k2 : (Zt34_0) → Option R) : Option R := match r with
  | none => none
  | some (.e0 p1 p2) => k0 p1 p2
  | some (.e1) => k1
  | some (.e2 p2) => k2 p2
def Sp.J_34_3 (p0 : Bool) (p1 : Int × Int × Int × Int × Int × Int × Bool × Int × PUnit) (p2 : Int × Int × Int × Int × Int × List Int × Int × PUnit) : Option Sp.E_34_3 :=
  bif p0 then bif decide (p2.2.2.2.2.1 ≥ (1 : Int)) then bif decide (p2.2.2.1 ≥ (1 : Int)) then bif decide (p2.2.2.2.2.2.2.1 ≥ (1 : Int)) then some (Sp.E_34_3.e0 p1 p2) else some (Sp.E_34_3.e1) else some (Sp.E_34_3.e1) else some (Sp.E_34_3.e1) else bif p2.2.2.1 == (0 : Int) then bif p2.2.2.2.1 == (0 : Int) then bif p2.2.2.2.2.1 == (0 : Int) then bif p2.2.2.2.2.2.2.1 == (0 : Int) then some (Sp.E_34_3.e2 p2) else some (Sp.E_34_3.e1) else some (Sp.E_34_3.e1) else some (Sp.E_34_3.e1) else some (Sp.E_34_3.e1)
def G_34_3 {R : Type} (p0 : Bool) (p1 : Zt34_1) (p2 : Zt34_0) (k : Ex → St → Option R) : Option R := Sp.B_34_3 (Sp.J_34_3 p0 p1 p2) (fun p1 p2 => k Ex.ret (X_34_3_0 p1 p2)) (k Ex.ret (X_34_3_1)) (fun p2 => k Ex.ret (X_34_3_2 p2))
def o_34_3 {R : Type} (G : (Bool) → (Zt34_1) → (Zt34_0) → (Ex → St → Option R) → Option R) : St → (Ex → St → Option R) → Option R := fun T k => match T.sl.getD 3 .junk, T.sl.getD 4 .junk, T.sl.getD 7 .junk, T.hp with
  | CV.ptr (0 : Nat) [], CV.ptr (1 : Nat) [], CV.bool p0, ((Blk.mem (CV.pure (Ty.pair (Ty.int IntKind.i64) (Ty.pair (Ty.int IntKind.i64) (Ty.pair (Ty.int IntKind.i64) (Ty.pair (Ty.int IntKind.i64) (Ty.pair (Ty.int IntKind.i64) (Ty.pair (Ty.int IntKind.i64) (Ty.pair Ty.bool (Ty.pair (Ty.int IntKind.i64) Ty.unit)))))))) p1)) :: (Blk.mem (CV.pure (Ty.pair (Ty.int IntKind.i64) (Ty.pair (Ty.int IntKind.i64) (Ty.pair (Ty.int IntKind.i64) (Ty.pair (Ty.int IntKind.i64) (Ty.pair (Ty.int IntKind.i64) (Ty.pair (Ty.slice (Ty.int IntKind.i64)) (Ty.pair (Ty.int IntKind.i64) Ty.unit))))))) p2)) :: []) => gd (shapeOK T 166 [3, 4, 7] (0 : Nat)) (G p0 p1 p2 k)
  | _, _, _, _ => none
def T_34_2 (p0 : Bool) (p1 : Zt34_1) (p2 : Zt34_0) : St := St.mk ([jk, jk, jk, CV.ptr (0 : Nat) [], CV.ptr (1 : Nat) [], jk, jk, CV.bool p0] ++ (jl 158)) [Blk.mem (CV.pure Zy34_2 p1), Blk.mem (CV.pure Zy34_3 p2)] (0 : Nat)
def X_34_2_0 : St := St.mk (jl 6 ++ ([CV.bool false] ++ (jl 159))) [] (0 : Nat)
def X_34_2_1 (y6 : Zt34_1) (y7 : Zt34_0) : St := St.mk (jl 6 ++ ([CV.bool ((↑(List.length (y7.2.2.2.2.2.1)) : Int) == y6.2.2.2.2.2.2.2.1)] ++ (jl 159))) [] (0 : Nat)
def X_34_2_2 (y8 : Zt34_0) : St := St.mk (jl 6 ++ ([CV.bool ((↑(List.length (y8.2.2.2.2.2.1)) : Int) == (0 : Int))] ++ (jl 159))) [] (0 : Nat)
inductive Sp.E_34_2 where
  | e0
  | e1 (y6 : Zt34_1) (y7 : Zt34_0)
  | e2 (y8 : Zt34_0)
def Sp.B_34_2 {R : Type} (r : Option Sp.E_34_2) (k0 : Option R) (k1 : (Zt34_1) → (Zt34_0) → Option R) (k2 : (Zt34_0) → Option R) : Option R := match r with
  | none => none
  | some (.e0) => k0
  | some (.e1 y6 y7) => k1 y6 y7
  | some (.e2 y8) => k2 y8
def Sp.J_34_2 (p0 : Bool) (p1 : Int × Int × Int × Int × Int × Int × Bool × Int × PUnit) (p2 : Int × Int × Int × Int × Int × List Int × Int × PUnit) : Option Sp.E_34_2 :=
  gd (Sp.p_45 p2 (2 : Int)) (bif (Sp.v_45 p2 (2 : Int)).1 then bif p2.2.2.2.1 != (0 : Int) then some (Sp.E_34_2.e0) else Sp.B_34_3 (Sp.J_34_3 p0 p1 p2) (fun (y6 : Int × Int × Int × Int × Int × Int × Bool × Int × PUnit) (y7 : Int × Int × Int × Int × Int × List Int × Int × PUnit) => some (Sp.E_34_2.e1 y6 y7)) (some (Sp.E_34_2.e0)) fun (y8 : Int × Int × Int × Int × Int × List Int × Int × PUnit) => some (Sp.E_34_2.e2 y8) else Sp.B_34_3 (Sp.J_34_3 p0 p1 p2) (fun (y9 : Int × Int × Int × Int × Int × Int × Bool × Int × PUnit) (y10 : Int × Int × Int × Int × Int × List Int × Int × PUnit) => some (Sp.E_34_2.e1 y9 y10)) (some (Sp.E_34_2.e0)) fun (y11 : Int × Int × Int × Int × Int × List Int × Int × PUnit) => some (Sp.E_34_2.e2 y11))
def G_34_2 {R : Type} (p0 : Bool) (p1 : Zt34_1) (p2 : Zt34_0) (k : Ex → St → Option R) : Option R := Sp.B_34_2 (Sp.J_34_2 p0 p1 p2) (k Ex.ret (X_34_2_0)) (fun y6 y7 => k Ex.ret (X_34_2_1 y6 y7)) (fun y8 => k Ex.ret (X_34_2_2 y8))
def o_34_2 {R : Type} (G : (Bool) → (Zt34_1) → (Zt34_0) → (Ex → St → Option R) → Option R) : St → (Ex → St → Option R) → Option R := fun T k => match T.sl.getD 3 .junk, T.sl.getD 4 .junk, T.sl.getD 7 .junk, T.hp with
  | CV.ptr (0 : Nat) [], CV.ptr (1 : Nat) [], CV.bool p0, ((Blk.mem (CV.pure (Ty.pair (Ty.int IntKind.i64) (Ty.pair (Ty.int IntKind.i64) (Ty.pair (Ty.int IntKind.i64) (Ty.pair (Ty.int IntKind.i64) (Ty.pair (Ty.int IntKind.i64) (Ty.pair (Ty.int IntKind.i64) (Ty.pair Ty.bool (Ty.pair (Ty.int IntKind.i64) Ty.unit)))))))) p1)) :: (Blk.mem (CV.pure (Ty.pair (Ty.int IntKind.i64) (Ty.pair (Ty.int IntKind.i64) (Ty.pair (Ty.int IntKind.i64) (Ty.pair (Ty.int IntKind.i64) (Ty.pair (Ty.int IntKind.i64) (Ty.pair (Ty.slice (Ty.int IntKind.i64)) (Ty.pair (Ty.int IntKind.i64) Ty.unit))))))) p2)) :: []) => gd (shapeOK T 166 [3, 4, 7] (0 : Nat)) (G p0 p1 p2 k)
  | _, _, _, _ => none
def T_34_1 (p0 : Bool) (p1 : Zt34_1) (p2 : Zt34_0) : St := St.mk ([jk, jk, jk, CV.ptr (0 : Nat) [], CV.ptr (1 : Nat) [], jk, jk, CV.bool p0] ++ (jl 158)) [Blk.mem (CV.pure Zy34_2 p1), Blk.mem (CV.pure Zy34_3 p2)] (0 : Nat)
def X_34_1_0 : St := St.mk (jl 6 ++ ([CV.bool false] ++ (jl 159))) [] (0 : Nat)
def X_34_1_1 (y6 : Zt34_1) (y7 : Zt34_0) : St := St.mk (jl 6 ++ ([CV.bool ((↑(List.length (y7.2.2.2.2.2.1)) : Int) == y6.2.2.2.2.2.2.2.1)] ++ (jl 159))) [] (0 : Nat)
def X_34_1_2 (y8 : Zt34_0) : St := St.mk (jl 6 ++ ([CV.bool ((↑(List.length (y8.2.2.2.2.2.1)) : Int) == (0 : Int))] ++ (jl 159))) [] (0 : Nat)
inductive Sp.E_34_1 where
  | e0
  | e1 (y6 : Zt34_1) (y7 : Zt34_0)
  | e2 (y8 : Zt34_0)
def Sp.B_34_1 {R : Type} (r : Option Sp.E_34_1) (k0 : Option R) (k1 : (Zt34_1) → (Zt34_0) → Option R) (k2 : (Zt34_0) → Option R) : Option R := match r with
  | none => none
  | some (.e0) => k0
  | some (.e1 y6 y7) => k1 y6 y7
  | some (.e2 y8) => k2 y8
def Sp.J_34_1 (p0 : Bool) (p1 : Int × Int × Int × Int × Int × Int × Bool × Int × PUnit) (p2 : Int × Int × Int × Int × Int × List Int × Int × PUnit) : Option Sp.E_34_1 :=
  gd (Sp.p_45 p2 (4 : Int)) (bif !(Sp.v_45 p2 (4 : Int)).1 == (p2.2.2.1 == (2 : Int)) then some (Sp.E_34_1.e0) else gd (Sp.p_45 p2 (16 : Int)) (bif (Sp.v_45 p2 (16 : Int)).1 then gd (Sp.p_45 p2 (4 : Int)) (bif (Sp.v_45 p2 (4 : Int)).1 then bif !p1.2.2.2.2.2.2.1 then some (Sp.E_34_1.e0) else Sp.B_34_2 (Sp.J_34_2 p0 p1 p2) (some (Sp.E_34_1.e0)) (fun (y6 : Int × Int × Int × Int × Int × Int × Bool × Int × PUnit) (y7 : Int × Int × Int × Int × Int × List Int × Int × PUnit) => some (Sp.E_34_1.e1 y6 y7)) fun (y8 : Int × Int × Int × Int × Int × List Int × Int × PUnit) => some (Sp.E_34_1.e2 y8) else some (Sp.E_34_1.e0)) else Sp.B_34_2 (Sp.J_34_2 p0 p1 p2) (some (Sp.E_34_1.e0)) (fun (y9 : Int × Int × Int × Int × Int × Int × Bool × Int × PUnit) (y10 : Int × Int × Int × Int × Int × List Int × Int × PUnit) => some (Sp.E_34_1.e1 y9 y10)) fun (y11 : Int × Int × Int × Int × Int × List Int × Int × PUnit) => some (Sp.E_34_1.e2 y11)))
def G_34_1 {R : Type} (p0 : Bool) (p1 : Zt34_1) (p2 : Zt34_0) (k : Ex → St → Option R) : Option R := Sp.B_34_1 (Sp.J_34_1 p0 p1 p2) (k Ex.ret (X_34_1_0)) (fun y6 y7 => k Ex.ret (X_34_1_1 y6 y7)) (fun y8 => k Ex.ret (X_34_1_2 y8))
def o_34_1 {R : Type} (G : (Bool) → (Zt34_1) → (Zt34_0) → (Ex → St → Option R) → Option R) : St → (Ex → St → Option R) → Option R := fun T k => match T.sl.getD 3 .junk, T.sl.getD 4 .junk, T.sl.getD 7 .junk, T.hp with
  | CV.ptr (0 : Nat) [], CV.ptr (1 : Nat) [], CV.bool p0, ((Blk.mem (CV.pure (Ty.pair (Ty.int IntKind.i64) (Ty.pair (Ty.int IntKind.i64) (Ty.pair (Ty.int IntKind.i64) (Ty.pair (Ty.int IntKind.i64) (Ty.pair (Ty.int IntKind.i64) (Ty.pair (Ty.int IntKind.i64) (Ty.pair Ty.bool (Ty.pair (Ty.int IntKind.i64) Ty.unit)))))))) p1)) :: (Blk.mem (CV.pure (Ty.pair (Ty.int IntKind.i64) (Ty.pair (Ty.int IntKind.i64) (Ty.pair (Ty.int IntKind.i64) (Ty.pair (Ty.int IntKind.i64) (Ty.pair (Ty.int IntKind.i64) (Ty.pair (Ty.slice (Ty.int IntKind.i64)) (Ty.pair (Ty.int IntKind.i64) Ty.unit))))))) p2)) :: []) => gd (shapeOK T 166 [3, 4, 7] (0 : Nat)) (G p0 p1 p2 k)
  | _, _, _, _ => none
def T_34_0 (p0 : Int) (p1 : Bool) (p2 : Zt34_1) (p3 : Zt34_0) : St := St.mk ([jk, jk, CV.int IntKind.i64 p0, CV.ptr (0 : Nat) [], CV.ptr (1 : Nat) [], jk, jk, CV.bool p1] ++ (jl 158)) [Blk.mem (CV.pure Zy34_2 p2), Blk.mem (CV.pure Zy34_3 p3)] (0 : Nat)
def X_34_0_0 : St := St.mk (jl 6 ++ ([CV.bool false] ++ (jl 159))) [] (0 : Nat)
def X_34_0_1 (y6 : Zt34_1) (y7 : Zt34_0) : St := St.mk (jl 6 ++ ([CV.bool ((↑(List.length (y7.2.2.2.2.2.1)) : Int) == y6.2.2.2.2.2.2.2.1)] ++ (jl 159))) [] (0 : Nat)
def X_34_0_2 (y8 : Zt34_0) : St := St.mk (jl 6 ++ ([CV.bool ((↑(List.length (y8.2.2.2.2.2.1)) : Int) == (0 : Int))] ++ (jl 159))) [] (0 : Nat)
inductive Sp.E_34_0 where
  | e0
  | e1 (y6 : Zt34_1) (y7 : Zt34_0)
  | e2 (y8 : Zt34_0)
def Sp.B_34_0 {R : Type} (r : Option Sp.E_34_0) (k0 : Option R) (k1 : (Zt34_1) → (Zt34_0) → Option R) (k2 : (Zt34_0) → Option R) : Option R := match r with
  | none => none
  | some (.e0) => k0
  | some (.e1 y6 y7) => k1 y6 y7
  | some (.e2 y8) => k2 y8
def Sp.J_34_0 (p0 : Int) (p1 : Bool) (p2 : Int × Int × Int × Int × Int × Int × Bool × Int × PUnit) (p3 : Int × Int × Int × Int × Int × List Int × Int × PUnit) : Option Sp.E_34_0 :=
  gd (Sp.p_45 p3 (1 : Int)) (bif (Sp.v_45 p3 (1 : Int)).1 then gd (Sp.p_45 p3 (2 : Int)) (bif (Sp.v_45 p3 (2 : Int)).1 then gd (Sp.p_45 p3 (8 : Int)) (bif (Sp.v_45 p3 (8 : Int)).1 then bif !p3.2.2.2.2.2.2.1 == p0 then some (Sp.E_34_0.e0) else Sp.B_34_1 (Sp.J_34_1 p1 p2 p3) (some (Sp.E_34_0.e0)) (fun (y6 : Int × Int × Int × Int × Int × Int × Bool × Int × PUnit) (y7 : Int × Int × Int × Int × Int × List Int × Int × PUnit) => some (Sp.E_34_0.e1 y6 y7)) fun (y8 : Int × Int × Int × Int × Int × List Int × Int × PUnit) => some (Sp.E_34_0.e2 y8) else some (Sp.E_34_0.e0)) else some (Sp.E_34_0.e0)) else Sp.B_34_1 (Sp.J_34_1 p1 p2 p3) (some (Sp.E_34_0.e0)) (fun (y9 : Int × Int × Int × Int × Int × Int × Bool × Int × PUnit) (y10 : Int × Int × Int × Int × Int × List Int × Int × PUnit) => some (Sp.E_34_0.e1 y9 y10)) fun (y11 : Int × Int × Int × Int × Int × List Int × Int × PUnit) => some (Sp.E_34_0.e2 y11))
def G_34_0 {R : Type} (p0 : Int) (p1 : Bool) (p2 : Zt34_1) (p3 : Zt34_0) (k : Ex → St → Option R) : Option R := Sp.B_34_0 (Sp.J_34_0 p0 p1 p2 p3) (k Ex.ret (X_34_0_0)) (fun y6 y7 => k Ex.ret (X_34_0_1 y6 y7)) (fun y8 => k Ex.ret (X_34_0_2 y8))
def o_34_0 {R : Type} (G : (Int) → (Bool) → (Zt34_1) → (Zt34_0) → (Ex → St → Option R) → Option R) : St → (Ex → St → Option R) → Option R := fun T k => match T.sl.getD 2 .junk, T.sl.getD 3 .junk, T.sl.getD 4 .junk, T.sl.getD 7 .junk, T.hp with
  | CV.int IntKind.i64 p0, CV.ptr (0 : Nat) [], CV.ptr (1 : Nat) [], CV.bool p1, ((Blk.mem (CV.pure (Ty.pair (Ty.int IntKind.i64) (Ty.pair (Ty.int IntKind.i64) (Ty.pair (Ty.int IntKind.i64) (Ty.pair (Ty.int IntKind.i64) (Ty.pair (Ty.int IntKind.i64) (Ty.pair (Ty.int IntKind.i64) (Ty.pair Ty.bool (Ty.pair (Ty.int IntKind.i64) Ty.unit)))))))) p2)) :: (Blk.mem (CV.pure (Ty.pair (Ty.int IntKind.i64) (Ty.pair (Ty.int IntKind.i64) (Ty.pair (Ty.int IntKind.i64) (Ty.pair (Ty.int IntKind.i64) (Ty.pair (Ty.int IntKind.i64) (Ty.pair (Ty.slice (Ty.int IntKind.i64)) (Ty.pair (Ty.int IntKind.i64) Ty.unit))))))) p3)) :: []) => gd (shapeOK T 166 [2, 3, 4, 7] (0 : Nat)) (G p0 p1 p2 p3 k)
  | _, _, _, _, _ => none
def O_34_34_3 {R : Type} : St → (Ex → St → Option R) → Option R := fun T k => o_34_3 G_34_3 T k
def O_34_34_2 {R : Type} : St → (Ex → St → Option R) → Option R := fun T k => o_34_2 G_34_2 T k
def O_34_34_1 {R : Type} : St → (Ex → St → Option R) → Option R := fun T k => o_34_1 G_34_1 T k
def O_34_34_0 {R : Type} : St → (Ex → St → Option R) → Option R := fun T k => o_34_0 G_34_0 T k
def F_34 (a0 : (Int × (Int × (Int × (Int × (Int × (Int × (Bool × (Int × Unit))))))))) (a1 : (Int × (Int × (Int × (Int × (Int × ((List Int) × (Int × Unit)))))))) (a2 : Int) : Option (Bool × Unit) :=
  gd (Sp.p_26 (a1.1) (0 : Int) (31 : Int)) (bif !(Sp.v_26 (a1.1) (0 : Int) (31 : Int)).1 then some (false, PUnit.unit) else gd (Sp.p_26 (a1.2.1) (IntKind.wrap IntKind.i64 ((0 : Int) - a0.2.2.1)) (a0.2.1)) (bif !(Sp.v_26 (a1.2.1) (IntKind.wrap IntKind.i64 ((0 : Int) - a0.2.2.1)) (a0.2.1)).1 then some (false, PUnit.unit) else gd (Sp.p_26 (a1.2.2.1) (0 : Int) (2 : Int)) (bif !(Sp.v_26 (a1.2.2.1) (0 : Int) (2 : Int)).1 then some (false, PUnit.unit) else gd (Sp.p_26 (a1.2.2.2.1) (0 : Int) (IntKind.wrap IntKind.i64 (a0.2.2.2.2.1 - (1 : Int)))) (bif !(Sp.v_26 (a1.2.2.2.1) (0 : Int) (IntKind.wrap IntKind.i64 (a0.2.2.2.2.1 - (1 : Int)))).1 then some (false, PUnit.unit) else gd (Sp.p_26 (a1.2.2.2.2.1) (0 : Int) (255 : Int)) (bif !(Sp.v_26 (a1.2.2.2.2.1) (0 : Int) (255 : Int)).1 then some (false, PUnit.unit) else gd (Sp.p_26 (a1.2.2.2.2.2.2.1) (0 : Int) a2) (bif !(Sp.v_26 (a1.2.2.2.2.2.2.1) (0 : Int) a2).1 then some (false, PUnit.unit) else bif (↑(List.length (a1.2.2.2.2.2.1)) : Int) != (0 : Int) then bif (↑(List.length (a1.2.2.2.2.2.1)) : Int) != a0.2.2.2.2.2.2.2.1 then some (false, PUnit.unit) else gd (Sp.p_44 (a1.2.2.2.2.2.1)) (bif !(Sp.v_44 (a1.2.2.2.2.2.1)).1 then some (false, PUnit.unit) else gd (Sp.p_45 a1 (2 : Int)) (bif (Sp.v_45 a1 (2 : Int)).1 then Sp.B_34_0 (Sp.J_34_0 a2 true a0 a1) (some (false, PUnit.unit)) (fun (y12 : Int × Int × Int × Int × Int × Int × Bool × Int × PUnit) (y13 : Int × Int × Int × Int × Int × List Int × Int × PUnit) => some ((↑(List.length (y13.2.2.2.2.2.1)) : Int) == y12.2.2.2.2.2.2.2.1, PUnit.unit)) fun (y14 : Int × Int × Int × Int × Int × List Int × Int × PUnit) => some ((↑(List.length (y14.2.2.2.2.2.1)) : Int) == (0 : Int), PUnit.unit) else gd (Sp.p_45 a1 (4 : Int)) (Sp.B_34_0 (Sp.J_34_0 a2 ((Sp.v_45 a1 (4 : Int)).1) a0 a1) (some (false, PUnit.unit)) (fun (y15 : Int × Int × Int × Int × Int × Int × Bool × Int × PUnit) (y16 : Int × Int × Int × Int × Int × List Int × Int × PUnit) => some ((↑(List.length (y16.2.2.2.2.2.1)) : Int) == y15.2.2.2.2.2.2.2.1, PUnit.unit)) fun (y17 : Int × Int × Int × Int × Int × List Int × Int × PUnit) => some ((↑(List.length (y17.2.2.2.2.2.1)) : Int) == (0 : Int), PUnit.unit)))) else gd (Sp.p_44 (a1.2.2.2.2.2.1)) (bif !(Sp.v_44 (a1.2.2.2.2.2.1)).1 then some (false, PUnit.unit) else gd (Sp.p_45 a1 (2 : Int)) (bif (Sp.v_45 a1 (2 : Int)).1 then Sp.B_34_0 (Sp.J_34_0 a2 true a0 a1) (some (false, PUnit.unit)) (fun (y18 : Int × Int × Int × Int × Int × Int × Bool × Int × PUnit) (y19 : Int × Int × Int × Int × Int × List Int × Int × PUnit) => some ((↑(List.length (y19.2.2.2.2.2.1)) : Int) == y18.2.2.2.2.2.2.2.1, PUnit.unit)) fun (y20 : Int × Int × Int × Int × Int × List Int × Int × PUnit) => some ((↑(List.length (y20.2.2.2.2.2.1)) : Int) == (0 : Int), PUnit.unit) else gd (Sp.p_45 a1 (4 : Int)) (Sp.B_34_0 (Sp.J_34_0 a2 ((Sp.v_45 a1 (4 : Int)).1) a0 a1) (some (false, PUnit.unit)) (fun (y21 : Int × Int × Int × Int × Int × Int × Bool × Int × PUnit) (y22 : Int × Int × Int × Int × Int × List Int × Int × PUnit) => some ((↑(List.length (y22.2.2.2.2.2.1)) : Int) == y21.2.2.2.2.2.2.2.1, PUnit.unit)) fun (y23 : Int × Int × Int × Int × Int × List Int × Int × PUnit) => some ((↑(List.length (y23.2.2.2.2.2.1)) : Int) == (0 : Int), PUnit.unit))))))))))
def Sp.p_34 (a0 : (Int × (Int × (Int × (Int × (Int × (Int × (Bool × (Int × Unit))))))))) (a1 : (Int × (Int × (Int × (Int × (Int × ((List Int) × (Int × Unit)))))))) (a2 : Int) : Bool := (F_34 a0 a1 a2).isSome
def Sp.v_34 (a0 : (Int × (Int × (Int × (Int × (Int × (Int × (Bool × (Int × Unit))))))))) (a1 : (Int × (Int × (Int × (Int × (Int × ((List Int) × (Int × Unit)))))))) (a2 : Int) : Bool × Unit := (F_34 a0 a1 a2).getD (dfH [.bool])
def s_34 : Summ := shN [Zy34_4, Zy34_5, (.int .i64)] [.bool] (fun x => Sp.p_34 x.1 x.2.1 x.2.2.1) (fun x => Sp.v_34 x.1 x.2.1 x.2.2.1)
end
end Go.Ev
set_option linter.unusedSimpArgs false
set_option linter.unusedVariables false
namespace Go.Ev
open Go
set_option maxRecDepth 100000
set_option maxHeartbeats 4000000
theorem rin_ok (x l h : Int) : F_26 x l h = some (Sp.inr x l h, ()) := by
  unfold F_26 Sp.inr
  cases decide (x ≥ l) <;> rfl
theorem rin_pv (x l h : Int) : Sp.p_26 x l h = true ∧ Sp.v_26 x l h = (Sp.inr x l h, ()) := pv_26 x l h (rin_ok x l h)
theorem rcfg_ok (c : CfT) : F_10 c = some (Sp.cfg c, ()) := by
  unfold F_10 Sp.cfg
  simp only [rin_pv, gd_tt]
  cases Sp.inr c.1 1 16777215 <;> try rfl
  cases Sp.inr c.2.1 1 100 <;> try rfl
  cases Sp.inr c.2.2.1 1 100 <;> try rfl
  cases Sp.inr c.2.2.2.1 1 100 <;> try rfl
  cases Sp.inr c.2.2.2.2.1 c.2.2.2.1 255 <;> try rfl
  cases Sp.inr c.2.2.2.2.2.1 0 255 <;> rfl
theorem rcfg_pv (c : CfT) : Sp.p_10 c = true ∧ Sp.v_10 c = (Sp.cfg c, ()) := pv_10 c (rcfg_ok c)
section
variable {c : CfT} {f : FaT} {cyc : Int}
end
end Go.Ev
namespace Go.Ev
open Go
set_option maxRecDepth 100000
set_option maxHeartbeats 4000000
set_option linter.unusedVariables false
noncomputable section
abbrev Zt18_0 : Type := List (Int × Int × Int × Int × Int × Int × Bool × Int × PUnit) × List (Int × Int × Int × Int × Int × List Int × Int × PUnit) × Int × Bool × PUnit
abbrev Zy18_1 : Ty := (.pair (.slice (.pair (.int .i64) (.pair (.int .i64) (.pair (.int .i64) (.pair (.int .i64) (.pair (.int .i64) (.pair (.int .i64) (.pair .bool (.pair (.int .i64) .unit))))))))) (.pair (.slice (.pair (.int .i64) (.pair (.int .i64) (.pair (.int .i64) (.pair (.int .i64) (.pair (.int .i64) (.pair (.slice (.int .i64)) (.pair (.int .i64) .unit)))))))) (.pair (.int .i64) (.pair .bool .unit))))
abbrev Zy18_2 : Ty := (Ty.pair (Ty.slice (Ty.pair (Ty.int IntKind.i64) (Ty.pair (Ty.int IntKind.i64) (Ty.pair (Ty.int IntKind.i64) (Ty.pair (Ty.int IntKind.i64) (Ty.pair (Ty.int IntKind.i64) (Ty.pair (Ty.int IntKind.i64) (Ty.pair Ty.bool (Ty.pair (Ty.int IntKind.i64) Ty.unit))))))))) (Ty.pair (Ty.slice (Ty.pair (Ty.int IntKind.i64) (Ty.pair (Ty.int IntKind.i64) (Ty.pair (Ty.int IntKind.i64) (Ty.pair (Ty.int IntKind.i64) (Ty.pair (Ty.int IntKind.i64) (Ty.pair (Ty.slice (Ty.int IntKind.i64)) (Ty.pair (Ty.int IntKind.i64) Ty.unit)))))))) (Ty.pair (Ty.int IntKind.i64) (Ty.pair Ty.bool Ty.unit))))
abbrev Zy18_3 : Ty := (Ty.pair (Ty.int IntKind.i64) (Ty.pair (Ty.int IntKind.i64) (Ty.pair (Ty.int IntKind.i64) (Ty.pair (Ty.int IntKind.i64) (Ty.pair (Ty.int IntKind.i64) (Ty.pair (Ty.int IntKind.i64) (Ty.pair Ty.bool (Ty.pair (Ty.int IntKind.i64) Ty.unit))))))))
abbrev Zy18_4 : Ty := (Ty.pair (Ty.int IntKind.i64) (Ty.pair (Ty.int IntKind.i64) (Ty.pair (Ty.int IntKind.i64) (Ty.pair (Ty.int IntKind.i64) (Ty.pair (Ty.int IntKind.i64) (Ty.pair (Ty.slice (Ty.int IntKind.i64)) (Ty.pair (Ty.int IntKind.i64) Ty.unit)))))))

def sm_18 : Nat → Option Summ := fun f => bif Nat.beq f 12 then some s_12 else bif Nat.beq f 26 then some s_26 else bif Nat.beq f 34 then some s_34 else none
def T_18_1 (p0 : Int) (p1 : Zt18_0) : St := St.mk ([jk, CV.ptr (0 : Nat) [], jk, CV.int IntKind.i64 p0] ++ (jl 49)) [Blk.mem (CV.pure Zy18_2 p1)] (0 : Nat)
def X_18_1_0 : St := St.mk ([jk, jk, CV.bool false] ++ (jl 50)) [] (0 : Nat)
def X_18_1_1 : St := St.mk (jl 53) [] (0 : Nat)
inductive Sp.E_18_1 where
  | e0
  | e1
def Sp.B_18_1 {R : Type} (r : Option Sp.E_18_1) (k0 : Option R) (k1 : Option R) : Option R := match r with
  | none => none
  | some (.e0) => k0
  | some (.e1) => k1
def Sp.L_18_1 : Nat → (Int) → (List (Int × Int × Int × Int × Int × Int × Bool × Int × PUnit) × List (Int × Int × Int × Int × Int × List Int × Int × PUnit) × Int × Bool × PUnit) → Option Sp.E_18_1
  | 0, _, _ => none
  | m + 1, p0, p1 => bif decide (p0 < (↑(List.length (p1.2.1)) : Int)) then gd (inB p0 (List.length (p1.1))) (gd (inB p0 (List.length (p1.2.1))) (gd (Sp.p_34 (List.getD (p1.1) (Int.toNat p0) Zd0) (List.getD (p1.2.1) (Int.toNat p0) Zd1) (p1.2.2.1)) (bif !(Sp.v_34 (List.getD (p1.1) (Int.toNat p0) Zd0) (List.getD (p1.2.1) (Int.toNat p0) Zd1) (p1.2.2.1)).1 then some (Sp.E_18_1.e0) else Sp.L_18_1 m (IntKind.wrap IntKind.i64 (p0 + (1 : Int))) p1))) else some (Sp.E_18_1.e1)
def G_18_1 {R : Type} (p0 : Int) (p1 : Zt18_0) (k : Ex → St → Option R) : Option R := Sp.B_18_1 (Sp.L_18_1 FU p0 p1) (k Ex.ret (X_18_1_0)) (k (Ex.exit (0 : Nat)) (X_18_1_1))
def o_18_1 {R : Type} (G : (Int) → (Zt18_0) → (Ex → St → Option R) → Option R) : St → (Ex → St → Option R) → Option R := fun T k => match T.sl.getD 1 .junk, T.sl.getD 3 .junk, T.hp with
  | CV.ptr (0 : Nat) [], CV.int IntKind.i64 p0, ((Blk.mem (CV.pure (Ty.pair (Ty.slice (Ty.pair (Ty.int IntKind.i64) (Ty.pair (Ty.int IntKind.i64) (Ty.pair (Ty.int IntKind.i64) (Ty.pair (Ty.int IntKind.i64) (Ty.pair (Ty.int IntKind.i64) (Ty.pair (Ty.int IntKind.i64) (Ty.pair Ty.bool (Ty.pair (Ty.int IntKind.i64) Ty.unit))))))))) (Ty.pair (Ty.slice (Ty.pair (Ty.int IntKind.i64) (Ty.pair (Ty.int IntKind.i64) (Ty.pair (Ty.int IntKind.i64) (Ty.pair (Ty.int IntKind.i64) (Ty.pair (Ty.int IntKind.i64) (Ty.pair (Ty.slice (Ty.int IntKind.i64)) (Ty.pair (Ty.int IntKind.i64) Ty.unit)))))))) (Ty.pair (Ty.int IntKind.i64) (Ty.pair Ty.bool Ty.unit)))) p1)) :: []) => gd (shapeOK T 53 [1, 3] (0 : Nat)) (G p0 p1 k)
  | _, _, _ => none
def T_18_0 (p0 : Zt18_0) : St := St.mk ([jk, CV.ptr (0 : Nat) []] ++ (jl 51)) [Blk.mem (CV.pure Zy18_2 p0)] (0 : Nat)
def X_18_0_0 : St := St.mk ([jk, jk, CV.bool false] ++ (jl 50)) [] (0 : Nat)
def X_18_0_1 : St := St.mk ([jk, jk, CV.bool true] ++ (jl 50)) [] (0 : Nat)
inductive Sp.E_18_0 where
  | e0
  | e1
def Sp.B_18_0 {R : Type} (r : Option Sp.E_18_0) (k0 : Option R) (k1 : Option R) : Option R := match r with
  | none => none
  | some (.e0) => k0
  | some (.e1) => k1
def Sp.J_18_0 (p0 : List (Int × Int × Int × Int × Int × Int × Bool × Int × PUnit) × List (Int × Int × Int × Int × Int × List Int × Int × PUnit) × Int × Bool × PUnit) : Option Sp.E_18_0 :=
  Sp.B_18_1 (Sp.L_18_1 (4611686018427387904 : Nat) (0 : Int) p0) (some (Sp.E_18_0.e0)) (some (Sp.E_18_0.e1))
def G_18_0 {R : Type} (p0 : Zt18_0) (k : Ex → St → Option R) : Option R := Sp.B_18_0 (Sp.J_18_0 p0) (k Ex.ret (X_18_0_0)) (k Ex.ret (X_18_0_1))
def o_18_0 {R : Type} (G : (Zt18_0) → (Ex → St → Option R) → Option R) : St → (Ex → St → Option R) → Option R := fun T k => match T.sl.getD 1 .junk, T.hp with
  | CV.ptr (0 : Nat) [], ((Blk.mem (CV.pure (Ty.pair (Ty.slice (Ty.pair (Ty.int IntKind.i64) (Ty.pair (Ty.int IntKind.i64) (Ty.pair (Ty.int IntKind.i64) (Ty.pair (Ty.int IntKind.i64) (Ty.pair (Ty.int IntKind.i64) (Ty.pair (Ty.int IntKind.i64) (Ty.pair Ty.bool (Ty.pair (Ty.int IntKind.i64) Ty.unit))))))))) (Ty.pair (Ty.slice (Ty.pair (Ty.int IntKind.i64) (Ty.pair (Ty.int IntKind.i64) (Ty.pair (Ty.int IntKind.i64) (Ty.pair (Ty.int IntKind.i64) (Ty.pair (Ty.int IntKind.i64) (Ty.pair (Ty.slice (Ty.int IntKind.i64)) (Ty.pair (Ty.int IntKind.i64) Ty.unit)))))))) (Ty.pair (Ty.int IntKind.i64) (Ty.pair Ty.bool Ty.unit)))) p0)) :: []) => gd (shapeOK T 53 [1] (0 : Nat)) (G p0 k)
  | _, _ => none
def O_18_18_1 {R : Type} : St → (Ex → St → Option R) → Option R := fun T k => o_18_1 G_18_1 T k
def O_18_18_0 {R : Type} : St → (Ex → St → Option R) → Option R := fun T k => o_18_0 G_18_0 T k
def F_18 (a0 : ((List (Int × (Int × (Int × (Int × (Int × (Int × (Bool × (Int × Unit))))))))) × ((List (Int × (Int × (Int × (Int × (Int × ((List Int) × (Int × Unit)))))))) × (Int × (Bool × Unit))))) : Option (Bool × Unit) :=
  gd (Sp.p_12 (a0.1)) (bif (Sp.v_12 (a0.1)).1 != (0 : Int) then some (false, PUnit.unit) else bif (↑(List.length (a0.2.1)) : Int) != (↑(List.length (a0.1)) : Int) then some (false, PUnit.unit) else gd (Sp.p_26 (a0.2.2.1) (0 : Int) (1073741824 : Int)) (bif !(Sp.v_26 (a0.2.2.1) (0 : Int) (1073741824 : Int)).1 then some (false, PUnit.unit) else bif a0.2.2.2.1 then bif decide (a0.2.2.1 < (1 : Int)) then some (false, PUnit.unit) else Sp.B_18_0 (Sp.J_18_0 a0) (some (false, PUnit.unit)) (some (true, PUnit.unit)) else Sp.B_18_0 (Sp.J_18_0 a0) (some (false, PUnit.unit)) (some (true, PUnit.unit))))
def Sp.p_18 (a0 : ((List (Int × (Int × (Int × (Int × (Int × (Int × (Bool × (Int × Unit))))))))) × ((List (Int × (Int × (Int × (Int × (Int × ((List Int) × (Int × Unit)))))))) × (Int × (Bool × Unit))))) : Bool := (F_18 a0).isSome
def Sp.v_18 (a0 : ((List (Int × (Int × (Int × (Int × (Int × (Int × (Bool × (Int × Unit))))))))) × ((List (Int × (Int × (Int × (Int × (Int × ((List Int) × (Int × Unit)))))))) × (Int × (Bool × Unit))))) : Bool × Unit := (F_18 a0).getD (dfH [.bool])
def s_18 : Summ := shN [Zy18_1] [.bool] (fun x => Sp.p_18 x.1) (fun x => Sp.v_18 x.1)
end
end Go.Ev
set_option linter.unusedSimpArgs false
set_option linter.unusedVariables false
namespace Go.Ev
open Go
set_option maxRecDepth 100000
set_option maxHeartbeats 4000000
theorem dst_all (l : List Int) : Sp.dst l = (List.range l.length).all fun i => (List.range i).all fun k => !(l.getD k 0 == l.getD i 0) := by
  rw [Bool.eq_iff_iff, Sp.dst_nodup, List.Nodup, List.pairwise_iff_getElem]
  simp only [List.all_eq_true, List.mem_range, Bool.not_eq_true', beq_eq_false_iff_ne]
  constructor
  · intro h i hi k hk
    rw [getD_at 0 (show k < l.length by omega), getD_at 0 hi]
    exact h k i (by omega) hi hk
  · intro h i j hi hj hij
    have := h j hj i hij
    rwa [getD_at 0 hi, getD_at 0 hj] at this
theorem rcs_ok (l : List CfT) : F_12 l = some (Sp.rcs l, ()) := by
  unfold F_12 Sp.rcs
  by_cases h1 : (l.length : Int) > 64
  · rw [cond_dtt h1, decide_eq_false (by omega)]; rfl
  rw [cond_dff h1, decide_eq_true (p := l.length ≤ 64) (by omega), cond_t]
  have ha := all0 (fun m i => Sp.L_12_0 m l i) (n := l.length) (fun j => Sp.cfg (l.getD j Zd0)) (e0 := some .e0) (e1 := some (.e1 l)) (by omega) (fun m j hj => by
    show Sp.L_12_0 (m + 1) l j = bif Sp.cfg (l.getD j Zd0) then Sp.L_12_0 m l ((j + 1 : Nat) : Int) else some .e0
    rw [Sp.L_12_0, cond_dtt (by omega), gd_inB (by omega) (by omega), Int.toNat_natCast, (rcfg_pv _).1, (rcfg_pv _).2, gd_tt, wi64 (by omega) (by omega)]
    push_cast
    cases Sp.cfg (l.getD j Zd0) <;> rfl) (fun m => by
    show Sp.L_12_0 (m + 1) l l.length = _
    rw [Sp.L_12_0, cond_dff (by omega)])
  rw [ha]
  have ec : (List.range l.length).all (fun j => Sp.cfg (l.getD j Zd0)) = Sp.cfgs l := rfl
  rw [ec]
  cases Sp.cfgs l
  · rfl
  simp only [cond_t, Sp.B_12_0]
  have hin : ∀ i, i < l.length → Sp.L_12_2 4611686018427387904 l (i : Int) 0 = bif (List.range i).all (fun k => !((l.getD k Zd0).1 == (l.getD i Zd0).1)) then some (.e1 l i) else some .e0 := by
    intro i hi
    exact all0 (fun m k => Sp.L_12_2 m l (i : Int) k) (n := i) (fun k => !((l.getD k Zd0).1 == (l.getD i Zd0).1)) (e0 := some .e0) (e1 := some (.e1 l i)) (by omega) (fun m k hk => by
      show Sp.L_12_2 (m + 1) l (i : Int) (k : Int) = bif !((l.getD k Zd0).1 == (l.getD i Zd0).1) then Sp.L_12_2 m l (i : Int) ((k + 1 : Nat) : Int) else some .e0
      rw [Sp.L_12_2, cond_dtt (by omega), gd_inB (by omega) (by omega), gd_inB (by omega) (by omega), Int.toNat_natCast, Int.toNat_natCast, wi64 (by omega) (by omega)]
      push_cast
      cases (l.getD k Zd0).1 == (l.getD i Zd0).1 <;> rfl) (fun m => by
      show Sp.L_12_2 (m + 1) l (i : Int) (i : Int) = _
      rw [Sp.L_12_2, cond_dff (by omega)])
  have ho := all0 (fun m i => Sp.L_12_1 m l i) (n := l.length) (fun i => (List.range i).all (fun k => !((l.getD k Zd0).1 == (l.getD i Zd0).1))) (e0 := some .e0) (e1 := some .e1) (by omega) (fun m i hi => by
    show Sp.L_12_1 (m + 1) l i = bif (List.range i).all (fun k => !((l.getD k Zd0).1 == (l.getD i Zd0).1)) then Sp.L_12_1 m l ((i + 1 : Nat) : Int) else some .e0
    rw [Sp.L_12_1, cond_dtt (by omega), hin i hi]
    cases (List.range i).all (fun k => !((l.getD k Zd0).1 == (l.getD i Zd0).1))
    · rfl
    · simp only [cond_t, Sp.B_12_2]
      rw [wi64 (by omega) (by omega)]
      push_cast
      rfl) (fun m => by
    show Sp.L_12_1 (m + 1) l l.length = _
    rw [Sp.L_12_1, cond_dff (by omega)])
  rw [ho]
  have ed : (List.range l.length).all (fun i => (List.range i).all (fun k => !((l.getD k Zd0).1 == (l.getD i Zd0).1))) = Sp.dst (Sp.codesL l) := by
    rw [dst_all, show (Sp.codesL l).length = l.length by simp [Sp.codesL], Bool.eq_iff_iff]
    simp only [List.all_eq_true, List.mem_range]
    constructor
    · intro h i hi k hk
      rw [codesL_at l hi, codesL_at l (show k < l.length by omega)]
      exact h i hi k hk
    · intro h i hi k hk
      have := h i hi k hk
      rwa [codesL_at l hi, codesL_at l (show k < l.length by omega)] at this
  rw [ed]
  cases Sp.dst (Sp.codesL l) <;> rfl
theorem rcs_pv (l : List CfT) : Sp.p_12 l = true ∧ Sp.v_12 l = (Sp.rcs l, ()) := pv_12 l (rcs_ok l)
theorem num_pv (l : List Int) (h : l.length < 4611686018427387904) : Sp.p_42 l l = true ∧ Sp.v_42 l l = (true, ()) := by
  refine pv_42 l l ?_
  unfold F_42
  rw [cond_nff rfl]
  have h1 := run0 (fun m i (_ : Unit) => Sp.L_42_0 m l l i) (n := l.length) (fun _ => ()) (r := some .e1) h (fun m j hj => by
    show Sp.L_42_0 (m + 1) l l (j : Int) = Sp.L_42_0 m l l ((j + 1 : Nat) : Int)
    rw [Sp.L_42_0, cond_dtt (by omega), gd_inB (by omega) (by omega), gd_inB (by omega) (by omega), cond_nff rfl, wi64 (by omega) (by omega)]
    push_cast
    rfl) (fun m => by
    show Sp.L_42_0 (m + 1) l l l.length = _
    rw [Sp.L_42_0, cond_dff (by omega)])
  have e1 : Sp.L_42_0 4611686018427387904 l l 0 = _ := h1
  rw [e1]
  rfl
theorem fsame_pv (f : FaT) (h : f.2.2.2.2.2.1.length < 4611686018427387904) : Sp.p_31 f f = true ∧ Sp.v_31 f f = (true, ()) := by
  refine pv_31 f f ?_
  unfold F_31
  simp only [beq_self_eq_true, cond_t, num_pv _ h, gd_tt]
theorem cfg_beq (c : CfT) : Ty.beq (.pair (.int .i64) (.pair (.int .i64) (.pair (.int .i64) (.pair (.int .i64) (.pair (.int .i64) (.pair (.int .i64) (.pair .bool (.pair (.int .i64) .unit)))))))) c c = true := by
  simp [Ty.beq]
theorem same_pv {F : FsT} (hs : Sm F) (h : F.1.length < 4611686018427387904) : Sp.p_14 F F = true ∧ Sp.v_14 F F = (true, ()) := by
  refine pv_14 F F ?_
  unfold F_14
  rw [cond_nff rfl, cond_nff rfl, cond_nff rfl, beq_self_eq_true, Bool.not_true, cond_f]
  have h1 := run0 (fun m i (_ : Unit) => Sp.L_14_0 m i F F) (n := F.1.length) (fun _ => ()) (r := some (.e1 F F)) h (fun m j hj => by
    show Sp.L_14_0 (m + 1) (j : Int) F F = Sp.L_14_0 m ((j + 1 : Nat) : Int) F F
    rw [Sp.L_14_0, cond_dtt (by omega), gd_inB (by omega) (by omega), gd_inB (by omega) (by omega), cfg_beq, Bool.not_true, cond_f, wi64 (by omega) (by omega)]
    push_cast
    rfl) (fun m => by
    show Sp.L_14_0 (m + 1) F.1.length F F = _
    rw [Sp.L_14_0, cond_dff (by omega)])
  have h2 := run0 (fun m i (_ : Unit) => Sp.L_14_1 m i F F) (n := F.2.1.length) (fun _ => ()) (r := some .e1) hs.l (fun m j hj => by
    show Sp.L_14_1 (m + 1) (j : Int) F F = Sp.L_14_1 m ((j + 1 : Nat) : Int) F F
    have hx := hs.l
    have hq := fsame_pv (F.2.1.getD j Zd1) (hs.f j hj)
    rw [Sp.L_14_1, cond_dtt (by omega), gd_inB (by omega) (by omega), gd_inB (by omega) (by omega), Int.toNat_natCast, hq.1, hq.2, gd_tt, wi64 (by omega) (by omega)]
    push_cast
    rfl) (fun m => by
    show Sp.L_14_1 (m + 1) F.2.1.length F F = _
    rw [Sp.L_14_1, cond_dff (by omega)])
  have e1 : Sp.L_14_0 4611686018427387904 0 F F = _ := h1
  have e2 : Sp.L_14_1 4611686018427387904 0 F F = _ := h2
  rw [e1]
  simp only [Sp.B_14_0]
  rw [e2]
  rfl
theorem none_pv : Sp.p_13 ([], [], 0, false, ()) = true ∧ Sp.v_13 ([], [], 0, false, ()) = (true, ()) := by
  refine pv_13 _ ?_
  have hs : Sm ([], [], 0, false, ()) := ⟨by decide, fun j hj => absurd hj (Nat.not_lt_zero j)⟩
  unfold F_13
  rw [(same_pv hs (by decide)).1, (same_pv hs (by decide)).2]
  rfl
end Go.Ev
set_option linter.unusedSimpArgs false
set_option linter.unusedVariables false
namespace Go.Ev
open Go
set_option maxRecDepth 100000
set_option maxHeartbeats 4000000
theorem plain_3 (c : CfT) (l : List CfT) (_ : wfD (.pair (.int .i64) (.pair (.int .i64) (.pair (.int .i64) (.pair (.int .i64) (.pair (.int .i64) (.pair (.int .i64) (.pair .bool (.pair (.int .i64) .unit)))))))) c) (_ : wfD (.slice (.pair (.int .i64) (.pair (.int .i64) (.pair (.int .i64) (.pair (.int .i64) (.pair (.int .i64) (.pair (.int .i64) (.pair .bool (.pair (.int .i64) .unit))))))))) l) : F_3 c l = some true := by
  unfold F_3
  rw [aw_pv.1, aw_pv.2, gd_tt, Bool.not_true, cond_f]
  by_cases h1 : (l.length : Int) > 100
  · rw [cond_dtt h1]
  rw [cond_dff h1, (cfg_pv c).1, (cfg_pv c).2, (rcfg_pv c).1, (rcfg_pv c).2, gd_tt, gd_tt]
  have e1 : ((!(Sp.cfg c, ()).1) == (Sp.cfg c, ()).1) = false := by cases Sp.cfg c <;> rfl
  have e2 : (!((Sp.cfg c, ()).1 == (Sp.cfg c, ()).1)) = false := by cases Sp.cfg c <;> rfl
  rw [show (!((Sp.cfg c, ()).1 == (Sp.cfg c, ()).1)) = false from e2, cond_f, (new_pv l).1, (new_pv l).2, (rcs_pv l).1, (rcs_pv l).2, gd_tt, gd_tt]
  unfold Sp.newF
  by_cases h2 : Sp.rcs l = 0
  · have hV := new_vf h2
    have hl : l.length ≤ 64 := hV.n
    rw [cond_nff h2, cond_ett h2, cond_ett rfl, Int.toNat_natCast, beq_self_eq_true, Bool.true_and, show room l.length 72 = true from room_ok (by omega) (by omega), gd_tt]
    dsimp only
    have hq := same_pv hV.sm (show l.length < 4611686018427387904 by omega)
    have hr := vf_pv hV.sm
    rw [hq.1, hq.2, hr.1, hr.2, vf_iff.2 hV]
    rfl
  · rw [cond_ntt h2, cond_eff h2]
    dsimp only
    rw [cond_ett rfl, none_pv.1, none_pv.2]
    rfl
end Go.Ev
