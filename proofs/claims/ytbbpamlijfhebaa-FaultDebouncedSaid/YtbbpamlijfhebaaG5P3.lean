/- Helpers: functions of the program as Lean functions, and what they compute. No condition. -/
import Derived.Test.YtbbpamlijfhebaaE5P2
import Derived.Test.YtbbpamlijfhebaaG5P0
import Derived.Test.YtbbpamlijfhebaaE5P3
import Derived.Test.YtbbpamlijfhebaaG5P2
import Derived.Test.YtbbpamlijfhebaaG5P1
set_option maxRecDepth 10000
set_option linter.unusedVariables false
set_option linter.unusedSimpArgs false
namespace Go.Ev
open Go
set_option maxRecDepth 100000
set_option maxHeartbeats 4000000
set_option linter.unusedVariables false
noncomputable section

def sm_28 : Nat → Option Summ := fun f => bif Nat.beq f 9 then some s_9 else none


def F_28 (a0 : (Int × (Int × (Int × (Int × (Int × (Int × (Bool × (Int × Unit))))))))) : Option (Bool × Unit) :=
  gd (Sp.p_9 a0) (some (!(Sp.v_9 a0).1, PUnit.unit))
def Sp.p_28 (a0 : (Int × (Int × (Int × (Int × (Int × (Int × (Bool × (Int × Unit))))))))) : Bool := (F_28 a0).isSome
def Sp.v_28 (a0 : (Int × (Int × (Int × (Int × (Int × (Int × (Bool × (Int × Unit))))))))) : Bool × Unit := (F_28 a0).getD (dfH [.bool])
def s_28 : Summ := shN [(.pair (.int .i64) (.pair (.int .i64) (.pair (.int .i64) (.pair (.int .i64) (.pair (.int .i64) (.pair (.int .i64) (.pair .bool (.pair (.int .i64) .unit))))))))] [.bool] (fun x => Sp.p_28 x.1) (fun x => Sp.v_28 x.1)
end
end Go.Ev
set_option linter.unusedSimpArgs false
set_option linter.unusedVariables false
namespace Go.Ev
open Go
set_option maxRecDepth 100000
set_option maxHeartbeats 4000000
abbrev CfT := Int × Int × Int × Int × Int × Int × Bool × Int × Unit
abbrev FaT := Int × Int × Int × Int × Int × List Int × Int × Unit
abbrev FsT := List CfT × List FaT × Int × Bool × Unit
namespace Sp
def inr (x l h : Int) : Bool := decide (x ≥ l) && decide (x ≤ h)
def cfg (c : CfT) : Bool := inr c.1 1 16777215 && (inr c.2.1 1 100 && (inr c.2.2.1 1 100 && (inr c.2.2.2.1 1 100 && (inr c.2.2.2.2.1 c.2.2.2.1 255 && (inr c.2.2.2.2.2.1 0 255 && inr c.2.2.2.2.2.2.2.1 0 8)))))
def val (x : Int) : Bool := inr x (-1099511627776) 1099511627776
def vals (l : List Int) : Bool := (List.range l.length).all fun j => val (l.getD j 0)
/-- A bit of a status. -/
def bt (f : FaT) (k : Int) : Bool := andI .i64 f.1 k == k
def kno (f : FaT) : Bool := decide (f.2.2.2.2.1 ≥ 1) && (decide (f.2.2.1 ≥ 1) && decide (f.2.2.2.2.2.2.1 ≥ 1))
def unk (f : FaT) : Bool := (f.2.2.1 == 0) && ((f.2.2.2.1 == 0) && ((f.2.2.2.2.1 == 0) && (f.2.2.2.2.2.2.1 == 0)))
def q2 (f : FaT) : Bool := !(bt f 2 && (f.2.2.2.1 != 0))
def q1 (c : CfT) (f : FaT) : Bool := (bt f 4 == (f.2.2.1 == 2)) && (!bt f 16 || (bt f 4 && c.2.2.2.2.2.2.1))
def q0 (cyc : Int) (f : FaT) : Bool := !bt f 1 || ((bt f 2 && bt f 8) && (f.2.2.2.2.2.2.1 == cyc))
def rngs (c : CfT) (f : FaT) (cyc : Int) : Bool := inr f.1 0 31 && (inr f.2.1 (0 - c.2.2.1) c.2.1 && (inr f.2.2.1 0 2 && (inr f.2.2.2.1 0 (c.2.2.2.2.1 - 1) && (inr f.2.2.2.2.1 0 255 && inr f.2.2.2.2.2.2.1 0 cyc))))
def frq (c : CfT) (f : FaT) : Bool := (((f.2.2.2.2.2.1.length : Int) == 0) || ((f.2.2.2.2.2.1.length : Int) == c.2.2.2.2.2.2.2.1)) && vals f.2.2.2.2.2.1
def fin (c : CfT) (f : FaT) : Bool := bif bt f 2 || bt f 4 then kno f && ((f.2.2.2.2.2.1.length : Int) == c.2.2.2.2.2.2.2.1) else unk f && ((f.2.2.2.2.2.1.length : Int) == 0)
/-- The state of a fault is valid. -/
def rgt (c : CfT) (f : FaT) (cyc : Int) : Bool := rngs c f cyc && (frq c f && ((q0 cyc f && (q1 c f && q2 f)) && fin c f))
end Sp
theorem inr_iff {x l h : Int} : Sp.inr x l h = true ↔ l ≤ x ∧ x ≤ h := by simp [Sp.inr]
theorem wit_ok (x l h : Int) : F_25 x l h = some (Sp.inr x l h, ()) := by
  unfold F_25 Sp.inr
  cases decide (x ≥ l) <;> rfl
theorem wit_pv (x l h : Int) : Sp.p_25 x l h = true ∧ Sp.v_25 x l h = (Sp.inr x l h, ()) := pv_25 x l h (wit_ok x l h)
theorem cfg_ok (c : CfT) : F_9 c = some (Sp.cfg c, ()) := by
  unfold F_9 Sp.cfg
  simp only [wit_pv, gd_tt]
  cases Sp.inr c.1 1 16777215 <;> try rfl
  cases Sp.inr c.2.1 1 100 <;> try rfl
  cases Sp.inr c.2.2.1 1 100 <;> try rfl
  cases Sp.inr c.2.2.2.1 1 100 <;> try rfl
  cases Sp.inr c.2.2.2.2.1 c.2.2.2.1 255 <;> try rfl
  cases Sp.inr c.2.2.2.2.2.1 0 255 <;> rfl
theorem cfg_pv (c : CfT) : Sp.p_9 c = true ∧ Sp.v_9 c = (Sp.cfg c, ()) := pv_9 c (cfg_ok c)
theorem has_pv (f : FaT) (k : Int) : Sp.p_40 f k = true ∧ Sp.v_40 f k = (Sp.bt f k, ()) := pv_40 f k rfl
/-- Bits of small numbers. -/
theorem tab (P : Int → Bool) (h : (List.range 32).all (fun n => P (n : Int)) = true) {s : Int} (h0 : 0 ≤ s) (h1 : s ≤ 31) : P s = true := by
  obtain ⟨n, rfl⟩ := Int.eq_ofNat_of_zero_le h0
  rw [List.all_eq_true] at h
  exact h n (by rw [List.mem_range]; omega)
theorem bt_ne {s : Int} (h0 : 0 ≤ s) (h1 : s ≤ 31) : ((Sp.andI .i64 s 1 != 0) = (Sp.andI .i64 s 1 == 1) ∧ (Sp.andI .i64 s 2 != 0) = (Sp.andI .i64 s 2 == 2) ∧ (Sp.andI .i64 s 4 != 0) = (Sp.andI .i64 s 4 == 4)) ∧ ((Sp.andI .i64 s 8 != 0) = (Sp.andI .i64 s 8 == 8) ∧ (Sp.andI .i64 s 16 != 0) = (Sp.andI .i64 s 16 == 16)) ∧ (Sp.andI .i64 s 10 == 10) = ((Sp.andI .i64 s 2 == 2) && (Sp.andI .i64 s 8 == 8)) ∧ (Sp.andI .i64 s 6 != 0) = ((Sp.andI .i64 s 2 == 2) || (Sp.andI .i64 s 4 == 4)) := by
  have := tab (fun s => ((((Sp.andI .i64 s 1 != 0) == (Sp.andI .i64 s 1 == 1)) && ((Sp.andI .i64 s 2 != 0) == (Sp.andI .i64 s 2 == 2)) && ((Sp.andI .i64 s 4 != 0) == (Sp.andI .i64 s 4 == 4)))) && ((((Sp.andI .i64 s 8 != 0) == (Sp.andI .i64 s 8 == 8)) && ((Sp.andI .i64 s 16 != 0) == (Sp.andI .i64 s 16 == 16)))) && ((Sp.andI .i64 s 10 == 10) == ((Sp.andI .i64 s 2 == 2) && (Sp.andI .i64 s 8 == 8))) && ((Sp.andI .i64 s 6 != 0) == ((Sp.andI .i64 s 2 == 2) || (Sp.andI .i64 s 4 == 4)))) (by decide +kernel) h0 h1
  simp only [Bool.and_eq_true, beq_iff_eq] at this
  exact ⟨⟨this.1.1.1.1.1, this.1.1.1.1.2, this.1.1.1.2⟩, this.1.1.2, this.1.2, this.2⟩
end Go.Ev
set_option linter.unusedSimpArgs false
set_option linter.unusedVariables false
namespace Go.Ev
open Go
set_option maxRecDepth 100000
set_option maxHeartbeats 4000000
theorem fnd_all (P : Nat → Bool) (n : Nat) : (fnd (fun j => !P j) n 0 = none) ↔ (List.range n).all P = true := by
  rw [fnd_none, List.all_eq_true]
  constructor
  · intro h x hx
    have := h x (by omega) (by rw [List.mem_range] at hx; omega)
    simpa using this
  · intro h i _ hi
    rw [h i (by rw [List.mem_range]; omega)]
    rfl
namespace Sp
def frm (c : CfT) (l : List Int) : Bool := ((l.length : Int) == c.2.2.2.2.2.2.2.1) && vals l
def cfgs (l : List CfT) : Bool := (List.range l.length).all fun j => cfg (l.getD j Zd0)
def rgts (F : FsT) : Bool := (List.range F.2.1.length).all fun j => rgt (F.1.getD j Zd0) (F.2.1.getD j Zd1) F.2.2.1
/-- A state is valid. -/
def vf (F : FsT) : Bool := decide (F.1.length ≤ 64) && (cfgs F.1 && (dst (F.1.map fun c => c.1) && (((F.2.1.length : Int) == F.1.length) && (inr F.2.2.1 0 1073741824 && ((!F.2.2.2.1 || decide (F.2.2.1 ≥ 1)) && rgts F)))))
end Sp
theorem val_pv (x : Int) : Sp.p_50 x = true ∧ Sp.v_50 x = (Sp.val x, ()) := by
  refine pv_50 x ?_
  unfold F_50
  rw [(wit_pv _ _ _).1, (wit_pv _ _ _).2, gd_tt]
  rfl
theorem frm_ok (c : CfT) (l : List Int) (h : l.length < 4611686018427387904) : F_36 c l = some (Sp.frm c l, ()) := by
  unfold F_36 Sp.frm
  cases (l.length : Int) == c.2.2.2.2.2.2.2.1
  · rfl
  have hf := find0 (fun m i => Sp.L_36_52_0_0 m l l.length i c) (n := l.length) (fun j => !Sp.val (l.getD j 0)) (ex := fun j => some (.e0 (j : Int) c)) (e1 := some (.e1 c)) h (fun m j hj => by
    show Sp.L_36_52_0_0 (m + 1) l l.length j c = bif !Sp.val (l.getD j 0) then some (.e0 (j : Int) c) else Sp.L_36_52_0_0 m l l.length ((j + 1 : Nat) : Int) c
    rw [Sp.L_36_52_0_0, cond_dtt (by omega), gd_inB (by omega) (by omega), Int.toNat_natCast, (val_pv _).1, (val_pv _).2, gd_tt, wi64 (by omega) (by omega)]
    push_cast
    rfl) (fun m => by
    show Sp.L_36_52_0_0 (m + 1) l l.length l.length c = _
    rw [Sp.L_36_52_0_0, cond_dff (by omega)])
  rw [hf, cond_t]
  cases hk : fnd (fun j => !Sp.val (l.getD j 0)) l.length 0 with
  | none =>
    have : Sp.vals l = true := (fnd_all (fun j => Sp.val (l.getD j 0)) l.length).1 hk
    rw [this]
    rfl
  | some k =>
    have : Sp.vals l = false := by
      cases hv : Sp.vals l
      · rfl
      · have := (fnd_all (fun j => Sp.val (l.getD j 0)) l.length).2 hv
        rw [this] at hk; cases hk
    rw [this]
    simp only [Sp.B_36_52_0_0]
    rw [decide_eq_true (by omega)]
    rfl
theorem frm_pv (c : CfT) (l : List Int) (h : l.length < 4611686018427387904) : Sp.p_36 c l = true ∧ Sp.v_36 c l = (Sp.frm c l, ()) := pv_36 c l (frm_ok c l h)
section
variable {c : CfT} {f : FaT} {cyc : Int}
theorem kn_pv (h0 : 0 ≤ f.1) (h1 : f.1 ≤ 31) : Sp.p_43 f = true ∧ Sp.v_43 f = (Sp.bt f 2 || Sp.bt f 4, ()) := by
  refine pv_43 f ?_
  unfold F_43 Sp.bt
  rw [(bt_ne h0 h1).2.2.2]
theorem bt10 (h0 : 0 ≤ f.1) (h1 : f.1 ≤ 31) : Sp.bt f 10 = (Sp.bt f 2 && Sp.bt f 8) := (bt_ne h0 h1).2.2.1
theorem gJ3 (h0 : 0 ≤ f.1) (h1 : f.1 ≤ 31) : Sp.J_32_3 c f = some (bif Sp.bt f 2 || Sp.bt f 4 then (bif Sp.kno f then .e0 c f else .e1) else .e2 c f) := by
  unfold Sp.J_32_3 Sp.kno
  rw [(kn_pv h0 h1).1, (kn_pv h0 h1).2, gd_tt]
  cases Sp.bt f 2 || Sp.bt f 4 <;> try rfl
  cases decide (f.2.2.2.2.1 ≥ 1) <;> try rfl
  cases decide (f.2.2.1 ≥ 1) <;> try rfl
  cases decide (f.2.2.2.2.2.2.1 ≥ 1) <;> rfl
theorem gJ2 (h0 : 0 ≤ f.1) (h1 : f.1 ≤ 31) : Sp.J_32_2 c f = some (bif Sp.q2 f then (bif Sp.bt f 2 || Sp.bt f 4 then (bif Sp.kno f then .e1 c f else .e0) else .e2 c f) else .e0) := by
  unfold Sp.J_32_2 Sp.q2
  simp only [has_pv, gd_tt, gJ3 h0 h1]
  cases Sp.bt f 2 <;> cases f.2.2.2.1 != 0 <;> cases Sp.bt f 4 <;> cases Sp.kno f <;> rfl
theorem gJ1 (h0 : 0 ≤ f.1) (h1 : f.1 ≤ 31) : Sp.J_32_1 c f = some (bif Sp.q1 c f && Sp.q2 f then (bif Sp.bt f 2 || Sp.bt f 4 then (bif Sp.kno f then .e1 c f else .e0) else .e2 c f) else .e0) := by
  unfold Sp.J_32_1 Sp.q1
  simp only [has_pv, gd_tt, gJ2 h0 h1]
  cases Sp.bt f 4 <;> cases f.2.2.1 == 2 <;> cases Sp.bt f 16 <;> cases c.2.2.2.2.2.2.1 <;> cases Sp.q2 f <;> cases Sp.bt f 2 <;> cases Sp.kno f <;> rfl
theorem gJ0 (h0 : 0 ≤ f.1) (h1 : f.1 ≤ 31) : Sp.J_32_0 cyc c f = some (bif Sp.q0 cyc f && (Sp.q1 c f && Sp.q2 f) then (bif Sp.bt f 2 || Sp.bt f 4 then (bif Sp.kno f then .e1 c f else .e0) else bif Sp.unk f then .e2 f else .e0) else .e0) := by
  unfold Sp.J_32_0 Sp.q0 Sp.unk
  simp only [has_pv, gd_tt, gJ1 h0 h1, bt10 h0 h1]
  have hz : ∀ x y : Int, (bif !(x == y) then (some (Sp.E_32_0.e0) : Option Sp.E_32_0) else none) = (bif x != y then some (Sp.E_32_0.e0) else none) := fun _ _ => rfl
  cases e1 : f.2.2.1 == 0 <;> cases e2 : f.2.2.2.1 == 0 <;> cases e3 : f.2.2.2.2.1 == 0 <;> cases e4 : f.2.2.2.2.2.2.1 == 0 <;> cases e5 : f.2.2.2.2.2.2.1 == cyc <;> cases Sp.q1 c f && Sp.q2 f <;> cases Sp.bt f 1 <;> cases Sp.bt f 2 <;> cases Sp.bt f 8 <;> cases Sp.bt f 4 <;> cases Sp.kno f <;> simp only [bne, e1, e2, e3, e4, e5, Sp.B_32_1, Bool.not_true, Bool.not_false, cond_true, cond_false, Bool.and_true, Bool.and_false, Bool.true_and, Bool.false_and, Bool.or_true, Bool.or_false, Bool.true_or, Bool.false_or]
theorem right_ok (hc : Sp.cfg c = true) (hfr : f.2.2.2.2.2.1.length < 4611686018427387904) : F_32 c f cyc = some (Sp.rgt c f cyc, ()) := by
  simp only [Sp.cfg, Bool.and_eq_true, inr_iff] at hc
  unfold F_32 Sp.rgt Sp.rngs
  simp only [wit_pv, gd_tt]
  rw [wi64 (n := 0 - c.2.2.1) (by omega) (by omega), wi64 (n := c.2.2.2.2.1 - 1) (by omega) (by omega)]
  cases h1 : Sp.inr f.1 0 31
  · rfl
  have hb := inr_iff.1 h1
  cases Sp.inr f.2.1 (0 - c.2.2.1) c.2.1
  · rfl
  cases Sp.inr f.2.2.1 0 2
  · rfl
  cases Sp.inr f.2.2.2.1 0 (c.2.2.2.2.1 - 1)
  · rfl
  cases Sp.inr f.2.2.2.2.1 0 255
  · rfl
  cases Sp.inr f.2.2.2.2.2.2.1 0 cyc
  · rfl
  simp only [Bool.not_true, cond_f, Bool.and_true, Bool.true_and]
  simp only [frm_pv _ _ hfr, gd_tt, gJ0 hb.1 hb.2]
  unfold Sp.frq Sp.fin Sp.frm
  by_cases hl : f.2.2.2.2.2.1 = []
  · have hv : Sp.vals f.2.2.2.2.2.1 = true := by rw [hl]; rfl
    have hz : ((f.2.2.2.2.2.1.length : Int) == 0) = true := by rw [hl]; rfl
    rw [cond_dff (by rw [hl]; decide), hv, hz]
    cases e1 : ((f.2.2.2.2.2.1.length : Int) == c.2.2.2.2.2.2.2.1) <;> cases Sp.bt f 2 <;> cases Sp.bt f 4 <;> cases Sp.q0 cyc f && (Sp.q1 c f && Sp.q2 f) <;> cases Sp.kno f <;> cases Sp.unk f <;> simp only [bne, hz, e1, Sp.B_32_0, Bool.not_true, Bool.not_false, cond_true, cond_false, Bool.and_true, Bool.and_false, Bool.true_and, Bool.false_and, Bool.or_true, Bool.or_false, Bool.true_or, Bool.false_or]
  · have hp : 0 < f.2.2.2.2.2.1.length := List.length_pos_iff.2 hl
    have hz : ((f.2.2.2.2.2.1.length : Int) == 0) = false := beq_eq_false_iff_ne.2 (by omega)
    rw [cond_dtt (by omega), hz]
    cases e1 : ((f.2.2.2.2.2.1.length : Int) == c.2.2.2.2.2.2.2.1) <;> cases Sp.vals f.2.2.2.2.2.1 <;> cases Sp.bt f 2 <;> cases Sp.bt f 4 <;> cases Sp.q0 cyc f && (Sp.q1 c f && Sp.q2 f) <;> cases Sp.kno f <;> cases Sp.unk f <;> simp only [bne, hz, e1, Sp.B_32_0, Bool.not_true, Bool.not_false, cond_true, cond_false, Bool.and_true, Bool.and_false, Bool.true_and, Bool.false_and, Bool.or_true, Bool.or_false, Bool.true_or, Bool.false_or]
theorem right_pv (hc : Sp.cfg c = true) (hfr : f.2.2.2.2.2.1.length < 4611686018427387904) : Sp.p_32 c f cyc = true ∧ Sp.v_32 c f cyc = (Sp.rgt c f cyc, ()) := pv_32 c f cyc (right_ok hc hfr)
end
/-- Memory is not great. -/
structure Sm (F : FsT) : Prop where
  l : F.2.1.length < 4611686018427387904
  f : ∀ j, j < F.2.1.length → (F.2.1.getD j Zd1).2.2.2.2.2.1.length < 4611686018427387904
theorem cfgs_at {l : List CfT} (h : Sp.cfgs l = true) {j : Nat} (hj : j < l.length) : Sp.cfg (l.getD j Zd0) = true := by
  unfold Sp.cfgs at h
  rw [List.all_eq_true] at h
  exact h j (by rw [List.mem_range]; exact hj)
theorem vJ0 {F : FsT} (hs : Sm F) (hc : Sp.cfgs F.1 = true) (hl : F.2.1.length = F.1.length) : Sp.J_15_0 F = some (bif Sp.rgts F then .e1 else .e0) := by
  have := all0 (fun m i => Sp.L_15_1 m F.2.1 F.2.1.length i F) (n := F.2.1.length) (fun j => Sp.rgt (F.1.getD j Zd0) (F.2.1.getD j Zd1) F.2.2.1) (e0 := some .e0) (e1 := some .e1) hs.l (fun m j hj => by
    show Sp.L_15_1 (m + 1) F.2.1 F.2.1.length j F = bif Sp.rgt (F.1.getD j Zd0) (F.2.1.getD j Zd1) F.2.2.1 then Sp.L_15_1 m F.2.1 F.2.1.length ((j + 1 : Nat) : Int) F else some .e0
    have hr := right_pv (cyc := F.2.2.1) (cfgs_at hc (j := j) (by omega)) (hs.f j hj)
    rw [Sp.L_15_1, cond_dtt (by omega), gd_inB (by omega) (by omega), gd_inB (by omega) (by omega), Int.toNat_natCast, hr.1, hr.2, gd_tt, wi64 (by have := hs.l; omega) (by have := hs.l; omega)]
    push_cast
    cases Sp.rgt (F.1.getD j Zd0) (F.2.1.getD j Zd1) F.2.2.1 <;> rfl) (fun m => by
    show Sp.L_15_1 (m + 1) F.2.1 F.2.1.length F.2.1.length F = _
    rw [Sp.L_15_1, cond_dff (by omega)])
  unfold Sp.J_15_0
  rw [this]
  unfold Sp.rgts
  cases (List.range F.2.1.length).all fun j => Sp.rgt (F.1.getD j Zd0) (F.2.1.getD j Zd1) F.2.2.1 <;> rfl
theorem vf_ok {F : FsT} (hs : Sm F) : F_15 F = some (Sp.vf F, ()) := by
  unfold F_15 Sp.vf
  by_cases h1 : (F.1.length : Int) > 64
  · rw [cond_dtt h1, decide_eq_false (by omega)]; rfl
  rw [cond_dff h1, decide_eq_true (p := F.1.length ≤ 64) (by omega), Bool.true_and]
  have hf := find0 (fun m i => Sp.L_15_41_0_0 m F.1 F.1.length i F) (n := F.1.length) (fun j => !Sp.cfg (F.1.getD j Zd0)) (ex := fun j => some (.e0 (j : Int) F)) (e1 := some (.e1 F)) (by omega) (fun m j hj => by
    show Sp.L_15_41_0_0 (m + 1) F.1 F.1.length j F = bif !Sp.cfg (F.1.getD j Zd0) then some (.e0 (j : Int) F) else Sp.L_15_41_0_0 m F.1 F.1.length ((j + 1 : Nat) : Int) F
    rw [Sp.L_15_41_0_0, cond_dtt (by omega), gd_inB (by omega) (by omega), Int.toNat_natCast, (cfg_pv _).1, (cfg_pv _).2, gd_tt, wi64 (by omega) (by omega)]
    push_cast
    rfl) (fun m => by
    show Sp.L_15_41_0_0 (m + 1) F.1 F.1.length F.1.length F = _
    rw [Sp.L_15_41_0_0, cond_dff (by omega)])
  rw [hf]
  cases hk : fnd (fun j => !Sp.cfg (F.1.getD j Zd0)) F.1.length 0 with
  | some k =>
    have : Sp.cfgs F.1 = false := by
      cases hv : Sp.cfgs F.1
      · rfl
      · have := (fnd_all (fun j => Sp.cfg (F.1.getD j Zd0)) F.1.length).2 hv
        rw [this] at hk; cases hk
    rw [this]
    simp only [Sp.B_15_41_0_0]
    rw [cond_dtt (by omega)]
    rfl
  | none =>
    have hc : Sp.cfgs F.1 = true := (fnd_all (fun j => Sp.cfg (F.1.getD j Zd0)) F.1.length).1 hk
    rw [hc]
    simp only [Sp.B_15_41_0_0, Bool.true_and]
    have em : (List.map (fun (y : Ty.den CfgTy) => Prod.fst y) F.1) = (F.1.map fun c => c.1) := rfl
    rw [em]
    cases Sp.dst (F.1.map fun c => c.1)
    · rfl
    simp only [Bool.not_true, cond_f, Bool.true_and]
    by_cases hl : (F.2.1.length : Int) = (F.1.length : Int)
    rotate_left
    · rw [cond_ntt hl, beq_eq_false_iff_ne.2 hl]; rfl
    rw [cond_nff hl, beq_iff_eq.2 hl, Bool.true_and, (wit_pv _ _ _).1, (wit_pv _ _ _).2, gd_tt]
    cases Sp.inr F.2.2.1 0 1073741824
    · rfl
    simp only [Bool.not_true, cond_f, Bool.true_and]
    rw [vJ0 hs hc (by omega)]
    cases F.2.2.2.1
    · cases Sp.rgts F <;> rfl
    · by_cases hy : F.2.2.1 < 1
      · rw [cond_t, cond_dtt hy, decide_eq_false (by omega)]
        rfl
      · rw [cond_t, cond_dff hy, decide_eq_true (p := F.2.2.1 ≥ 1) (by omega)]
        cases Sp.rgts F <;> rfl
theorem vf_pv {F : FsT} (hs : Sm F) : Sp.p_15 F = true ∧ Sp.v_15 F = (Sp.vf F, ()) := pv_15 F (vf_ok hs)
end Go.Ev
set_option linter.unusedSimpArgs false
set_option linter.unusedVariables false
namespace Go.Ev
open Go
set_option maxRecDepth 100000
set_option maxHeartbeats 4000000
namespace Sp
def codesL (l : List CfT) : List Int := l.map fun c => c.1
def rcs (l : List CfT) : Int := bif decide (l.length ≤ 64) then (bif cfgs l then (bif dst (codesL l) then 0 else 8) else 1) else 5
def newF (l : List CfT) : FsT × Int × Unit := bif rcs l == 0 then ((l, List.replicate l.length Zd1, 0, false, ()), 0, ()) else (([], [], 0, false, ()), rcs l, ())
end Sp
theorem new_ok (l : List CfT) : F_11 l = some (Sp.newF l) := by
  unfold F_11 Sp.newF Sp.rcs
  by_cases h1 : (l.length : Int) > 64
  · rw [cond_dtt h1, decide_eq_false (by omega)]; rfl
  rw [cond_dff h1, decide_eq_true (p := l.length ≤ 64) (by omega), cond_t]
  have hf := find0 (fun m i => Sp.L_11_41_0_0 m l l.length i (0, false, ())) (n := l.length) (fun j => !Sp.cfg (l.getD j Zd0)) (ex := fun j => some (.e0 (j : Int) (0, false, ()))) (e1 := some (.e1 (0, false, ()))) (by omega) (fun m j hj => by
    show Sp.L_11_41_0_0 (m + 1) l l.length j (0, false, ()) = bif !Sp.cfg (l.getD j Zd0) then some (.e0 (j : Int) (0, false, ())) else Sp.L_11_41_0_0 m l l.length ((j + 1 : Nat) : Int) (0, false, ())
    rw [Sp.L_11_41_0_0, cond_dtt (by omega), gd_inB (by omega) (by omega), Int.toNat_natCast, (cfg_pv _).1, (cfg_pv _).2, gd_tt, wi64 (by omega) (by omega)]
    push_cast
    rfl) (fun m => by
    show Sp.L_11_41_0_0 (m + 1) l l.length l.length (0, false, ()) = _
    rw [Sp.L_11_41_0_0, cond_dff (by omega)])
  rw [hf]
  cases hk : fnd (fun j => !Sp.cfg (l.getD j Zd0)) l.length 0 with
  | some k =>
    have : Sp.cfgs l = false := by
      cases hv : Sp.cfgs l
      · rfl
      · have := (fnd_all (fun j => Sp.cfg (l.getD j Zd0)) l.length).2 hv
        rw [this] at hk; cases hk
    rw [this]
    simp only [Sp.B_11_41_0_0]
    rw [cond_dtt (by omega)]
    rfl
  | none =>
    have hc : Sp.cfgs l = true := (fnd_all (fun j => Sp.cfg (l.getD j Zd0)) l.length).1 hk
    rw [hc]
    simp only [Sp.B_11_41_0_0]
    rw [gd_room (by omega) (by omega), Int.toNat_natCast, beq_self_eq_true, Bool.true_and, show room l.length 72 = true from room_ok (by omega) (by omega), gd_tt]
    have em : (List.map (fun (y : Ty.den CfgTy) => Prod.fst y) l) = Sp.codesL l := rfl
    rw [em]
    cases Sp.dst (Sp.codesL l) <;> rfl
theorem new_pv (l : List CfT) : Sp.p_11 l = true ∧ Sp.v_11 l = Sp.newF l := pv_11 l (new_ok l)
end Go.Ev
set_option linter.unusedSimpArgs false
set_option linter.unusedVariables false
namespace Go.Ev
open Go
set_option maxRecDepth 100000
set_option maxHeartbeats 4000000
theorem gs {α : Type} {l : List α} {i : Nat} {x d : α} (h : i < l.length) : (l.set i x).getD i d = x := by
  simp [List.getD_eq_getElem?_getD, h]
theorem sg {α : Type} {l : List α} {i : Nat} (d : α) (h : i < l.length) : l.set i (l.getD i d) = l := by
  rw [getD_at d h]
  exact List.set_getElem_self h
theorem getD_set {α : Type} (l : List α) (i j : Nat) (x d : α) (h : i < l.length) : (l.set i x).getD j d = if i = j then x else l.getD j d := by
  simp only [List.getD_eq_getElem?_getD, List.getElem?_set]
  split
  · simp [h]
  · rfl
/-- A list that is changed from its beginning on. -/
def mapTo {α : Type} (g : Nat → α → α) (n : Nat) (l : List α) : List α := l.mapIdx fun i x => if i < n then g i x else x
section
variable {α : Type} {g : Nat → α → α} {l : List α} {d : α}
theorem mapTo_len (n : Nat) : (mapTo g n l).length = l.length := by simp [mapTo]
theorem mapTo_get (n : Nat) {i : Nat} (h : i < l.length) : (mapTo g n l).getD i d = if i < n then g i (l.getD i d) else l.getD i d := by
  rw [getD_at d (by rw [mapTo_len]; exact h), getD_at d h]
  simp [mapTo]
theorem mapTo_zero : mapTo g 0 l = l := by
  cases l with
  | nil => rfl
  | cons a l =>
    refine list_ext a (mapTo_len 0) fun j hj => ?_
    rw [mapTo_len] at hj
    rw [mapTo_get 0 hj, if_neg (by omega)]
theorem mapTo_succ {n : Nat} (h : n < l.length) : (mapTo g n l).set n (g n (l.getD n d)) = mapTo g (n + 1) l := by
  refine list_ext d (by rw [List.length_set, mapTo_len, mapTo_len]) fun j hj => ?_
  rw [List.length_set, mapTo_len] at hj
  rw [getD_set _ _ _ _ _ (by rw [mapTo_len]; exact h), mapTo_get _ hj, mapTo_get _ hj]
  split
  · subst j
    rw [if_pos (by omega)]
  · by_cases hh : j < n
    · rw [if_pos hh, if_pos (by omega)]
    · rw [if_neg hh, if_neg (by omega)]
end
namespace Sp
def beg1 (f : FaT) : FaT := (andnI .i64 f.1 9, 0, f.2.2)
def fg1 (f : FaT) : FaT := (8, f.2.1, 0, 0, 0, [], 0, ())
def end1 (c : CfT) (cyc : Int) (f : FaT) : FaT :=
  if bt f 8 = true ∧ ¬ f.2.2.2.2.2.2.1 = cyc then
    if bt (andnI .i64 f.1 2, f.2) 4 = true then
      if f.2.2.2.1 + 1 = c.2.2.2.2.1 then fg1 f else
      if f.2.2.2.1 + 1 ≥ c.2.2.2.1 then (andnI .i64 (andnI .i64 f.1 2) 16, f.2.1, f.2.2.1, f.2.2.2.1 + 1, f.2.2.2.2) else (andnI .i64 f.1 2, f.2.1, f.2.2.1, f.2.2.2.1 + 1, f.2.2.2.2)
    else fg1 f
  else f
def err (e : Int) : FsT × Int × Unit := (([], [], 0, false, ()), e, ())
def begF (F : FsT) : FsT × Int × Unit := if vf F = true then (if F.2.2.2.1 = true then err 6 else if F.2.2.1 = 1073741824 then err 9 else ((F.1, mapTo (fun _ => beg1) F.2.1.length F.2.1, F.2.2.1 + 1, true, ()), 0, ())) else err 1
def endF (F : FsT) : FsT × Int × Unit := if vf F = true then (if F.2.2.2.1 = true then ((F.1, mapTo (fun j => end1 (F.1.getD j Zd0) F.2.2.1) F.2.1.length F.2.1, F.2.2.1, false, ()), 0, ()) else err 6) else err 1
end Sp
/-- What valid states have. -/
structure Vf (F : FsT) : Prop where
  n : F.1.length ≤ 64
  c : Sp.cfgs F.1 = true
  d : Sp.dst (F.1.map fun c => c.1) = true
  l : F.2.1.length = F.1.length
  y0 : 0 ≤ F.2.2.1
  y1 : F.2.2.1 ≤ 1073741824
  run : F.2.2.2.1 = true → 1 ≤ F.2.2.1
  r : ∀ j, j < F.1.length → Sp.rgt (F.1.getD j Zd0) (F.2.1.getD j Zd1) F.2.2.1 = true
theorem vf_iff {F : FsT} : Sp.vf F = true ↔ Vf F := by
  unfold Sp.vf Sp.rgts
  simp only [Bool.and_eq_true, decide_eq_true_eq, beq_iff_eq, inr_iff, Bool.or_eq_true, Bool.not_eq_true', List.all_eq_true, List.mem_range]
  constructor
  · rintro ⟨a, b, c, d, e, f, g⟩
    refine ⟨a, b, c, by omega, e.1, e.2, fun h => ?_, fun j hj => g j (by omega)⟩
    rcases f with f | f
    · rw [h] at f; cases f
    · omega
  · intro h
    refine ⟨h.n, h.c, h.d, by have := h.l; omega, ⟨h.y0, h.y1⟩, ?_, fun j hj => h.r j (by have := h.l; omega)⟩
    cases hr : F.2.2.2.1
    · exact Or.inl rfl
    · exact Or.inr (by have := h.run hr; omega)
theorem vals_len {c : CfT} {f : FaT} {cyc : Int} (hc : Sp.cfg c = true) (h : Sp.rgt c f cyc = true) : f.2.2.2.2.2.1.length ≤ 8 := by
  simp only [Sp.rgt, Sp.frq, Sp.cfg, Bool.and_eq_true, inr_iff, Bool.or_eq_true, beq_iff_eq] at h hc
  have := h.2.1.1
  omega
theorem Vf.cf {F : FsT} (h : Vf F) {j : Nat} (hj : j < F.1.length) : Sp.cfg (F.1.getD j Zd0) = true := cfgs_at h.c hj
theorem Vf.fl {F : FsT} (h : Vf F) {j : Nat} (hj : j < F.1.length) : (F.2.1.getD j Zd1).2.2.2.2.2.1.length ≤ 8 := vals_len (h.cf hj) (h.r j hj)
theorem Vf.sm {F : FsT} (h : Vf F) : Sm F := ⟨by have := h.l; have := h.n; omega, fun j hj => by have := h.fl (j := j) (by have := h.l; omega); omega⟩
theorem beg_copy {F : FsT} (h : Vf F) (p2 : FsT) (p3 p5 p7 : Int × Bool × Unit) (p4 p8 : List CfT) (p9 : List FaT) : Sp.L_19_35_0_0 4611686018427387904 F.2.1.length 0 p2 p3 p4 p5 F.2.1 p7 p8 p9 = some (.e0 p2 p3 p4 p5 F.2.1 p7 p8 p9) := by
  have h1 := run0 (fun m i (_ : Unit) => Sp.L_19_35_0_0 m F.2.1.length i p2 p3 p4 p5 F.2.1 p7 p8 p9) (n := F.2.1.length) (fun _ => ()) (r := some (.e0 p2 p3 p4 p5 F.2.1 p7 p8 p9)) h.sm.l (fun m j hj => by
    show Sp.L_19_35_0_0 (m + 1) F.2.1.length (j : Int) p2 p3 p4 p5 F.2.1 p7 p8 p9 = Sp.L_19_35_0_0 m F.2.1.length ((j + 1 : Nat) : Int) p2 p3 p4 p5 F.2.1 p7 p8 p9
    have hl := h.l
    have hn := h.n
    have hf := h.fl (j := j) (by omega)
    rw [Sp.L_19_35_0_0, cond_dtt (by omega)]
    simp only [gd_inB (show (0 : Int) ≤ (j : Int) by omega) (show (j : Int) < ((F.2.1.length : Nat) : Int) by omega), Int.toNat_natCast, Bool.and_true, gd_dec hj]
    rw [gd_room (by omega) (by omega), wi64 (by omega) (by omega)]
    have e : F.2.1.set j (F.2.1.getD j Zd1) = F.2.1 := sg _ hj
    push_cast
    exact congrArg (fun L => Sp.L_19_35_0_0 m F.2.1.length ((j : Int) + 1) p2 p3 p4 p5 L p7 p8 p9) e) (fun m => by
    show Sp.L_19_35_0_0 (m + 1) F.2.1.length F.2.1.length p2 p3 p4 p5 F.2.1 p7 p8 p9 = _
    rw [Sp.L_19_35_0_0, cond_dff (by omega)])
  exact h1
theorem beg_ok {F : FsT} (hs : Sm F) : F_19 F = some (Sp.begF F) := by
  unfold F_19 Sp.begF
  rw [(vf_pv hs).1, (vf_pv hs).2, gd_tt]
  cases hv : Sp.vf F
  · rfl
  have h := vf_iff.1 hv
  have hl := h.l
  have hn := h.n
  have hy0 := h.y0
  have hy1 := h.y1
  rw [if_pos rfl, Bool.not_true, cond_f]
  cases hr : F.2.2.2.1
  rotate_left
  · rfl
  rw [cond_f, if_neg (by decide)]
  by_cases hb : F.2.2.1 = 1073741824
  · rw [cond_ett hb, if_pos hb]; rfl
  rw [cond_eff hb, if_neg hb, gd_room (by omega) (by omega), beg_copy h]
  simp only [Sp.B_19_35_0_0]
  have h2 := run0 (fun m i L => Sp.L_19_0 m F.2.1.length i F.1 (F.2.2.1 + 1, true, ()) L (0, false, ()) [] []) (n := F.2.1.length) (fun j => mapTo (fun _ => Sp.beg1) j F.2.1) (r := some (.e0 F.1 (F.2.2.1 + 1, true, ()) (mapTo (fun _ => Sp.beg1) F.2.1.length F.2.1) (0, false, ()) [] [])) h.sm.l (fun m j hj => by
    show Sp.L_19_0 (m + 1) F.2.1.length (j : Int) F.1 (F.2.2.1 + 1, true, ()) (mapTo (fun _ => Sp.beg1) j F.2.1) (0, false, ()) [] [] = Sp.L_19_0 m F.2.1.length ((j + 1 : Nat) : Int) F.1 (F.2.2.1 + 1, true, ()) (mapTo (fun _ => Sp.beg1) (j + 1) F.2.1) (0, false, ()) [] []
    have hj' : j < (mapTo (fun _ => Sp.beg1) j F.2.1).length := by rw [mapTo_len]; exact hj
    have hx : (mapTo (fun _ => Sp.beg1) j F.2.1).getD j Zd1 = F.2.1.getD j Zd1 := by rw [mapTo_get _ hj, if_neg (by omega)]
    rw [← mapTo_succ (d := Zd1) hj, Sp.L_19_0, cond_dtt (by omega)]
    generalize mapTo (fun _ => Sp.beg1) j F.2.1 = L at *
    rw [gd_inB (by omega) (by omega)]
    simp only [Int.toNat_natCast, Bool.and_true, gd_dec hj', List.length_set, gs hj', List.set_set, hx]
    rw [wi64 (by omega) (by omega)]
    push_cast
    rfl) (fun m => by
    show Sp.L_19_0 (m + 1) F.2.1.length F.2.1.length F.1 (F.2.2.1 + 1, true, ()) _ (0, false, ()) [] [] = _
    rw [Sp.L_19_0, cond_dff (by omega)])
  rw [mapTo_zero] at h2
  have e2 : Sp.L_19_0 4611686018427387904 F.2.1.length 0 F.1 (F.2.2.1 + 1, true, ()) F.2.1 (0, false, ()) [] [] = _ := h2
  rw [wi64 (by omega) (by omega)]
  have eu : ((F.2.2.1 + 1, true, F.2.2.2.2) : Int × Bool × Unit) = (F.2.2.1 + 1, true, ()) := rfl
  have eu2 : (Sp.L_19_0 4611686018427387904 F.2.1.length 0 F.1 (F.2.2.1 + 1, true, F.2.2.2.2) F.2.1 (0, false, ()) [] []) = _ := h2
  rw [eu2]
  rfl
theorem beg_pv {F : FsT} (hs : Sm F) : Sp.p_19 F = true ∧ Sp.v_19 F = Sp.begF F := pv_19 F (beg_ok hs)
end Go.Ev
set_option linter.unusedSimpArgs false
set_option linter.unusedVariables false
namespace Go.Ev
open Go
set_option maxRecDepth 100000
set_option maxHeartbeats 4000000
namespace Sp
/-- A bit of a number. -/
def sb (s k : Int) : Bool := andI .i64 s k == k
def fail1 (c : CfT) (cyc : Int) (frame : List Int) (f : FaT) (n : Int) : FaT :=
  let oc := if bt f 1 = true then f.2.2.2.2.1 else if 255 < f.2.2.2.2.1 + 1 then 255 else f.2.2.2.2.1 + 1
  let fr := if bt f 1 = true then f.2.2.2.2.2.1 else if bt f 4 = true then f.2.2.2.2.2.1 else frame
  let s := orI .i64 f.1 11
  if f.2.2.2.2.2.2.1 = cyc then (s, n, f.2.2.1, 0, oc, fr, f.2.2.2.2.2.2.1, ()) else
  let cy := if 2 < f.2.2.1 + 1 then 2 else f.2.2.1 + 1
  if cy < 2 then (s, n, cy, 0, oc, fr, cyc, ()) else
  (if c.2.2.2.2.2.2.1 = true then orI .i64 (orI .i64 s 4) 16 else orI .i64 s 4, n, cy, 0, oc, fr, cyc, ())
def cnt1 (c : CfT) (bad : Bool) (n : Int) : Int :=
  if bad = true then (let x := (if n > 0 then n else 0) + 1; if c.2.1 < x then c.2.1 else x) else (let x := (if n < 0 then n else 0) - 1; if 0 - c.2.2.1 > x then 0 - c.2.2.1 else x)
def res1 (c : CfT) (cyc : Int) (bad : Bool) (frame : List Int) (f : FaT) : FaT :=
  let n := cnt1 c bad f.2.1
  if n = c.2.1 then fail1 c cyc frame f n else
  if n = 0 - c.2.2.1 then (andnI .i64 (orI .i64 f.1 8) 1, n, f.2.2) else (f.1, n, f.2.2)
end Sp
theorem bt_sb (f : FaT) (k : Int) : Sp.bt f k = Sp.sb f.1 k := rfl
structure Rg (c : CfT) (f : FaT) (cyc : Int) : Prop where
  s0 : 0 ≤ f.1
  s1 : f.1 ≤ 31
  n0 : 0 - c.2.2.1 ≤ f.2.1
  n1 : f.2.1 ≤ c.2.1
  y0 : 0 ≤ f.2.2.1
  y1 : f.2.2.1 ≤ 2
  c0 : 0 ≤ f.2.2.2.1
  c1 : f.2.2.2.1 ≤ c.2.2.2.2.1 - 1
  o0 : 0 ≤ f.2.2.2.2.1
  o1 : f.2.2.2.2.1 ≤ 255
  l0 : 0 ≤ f.2.2.2.2.2.2.1
  l1 : f.2.2.2.2.2.2.1 ≤ cyc
  fr : Sp.vals f.2.2.2.2.2.1 = true
  fa : Sp.sb f.1 1 = true → Sp.sb f.1 2 = true ∧ Sp.sb f.1 8 = true ∧ f.2.2.2.2.2.2.1 = cyc
  co : Sp.sb f.1 4 = true ↔ f.2.2.1 = 2
  lp : Sp.sb f.1 16 = true → Sp.sb f.1 4 = true ∧ c.2.2.2.2.2.2.1 = true
  pe : Sp.sb f.1 2 = true → f.2.2.2.1 = 0
  kn : Sp.sb f.1 2 = true ∨ Sp.sb f.1 4 = true → f.2.2.2.2.1 ≥ 1 ∧ f.2.2.1 ≥ 1 ∧ f.2.2.2.2.2.2.1 ≥ 1 ∧ (f.2.2.2.2.2.1.length : Int) = c.2.2.2.2.2.2.2.1
  un : Sp.sb f.1 2 = false → Sp.sb f.1 4 = false → f.2.2.1 = 0 ∧ f.2.2.2.1 = 0 ∧ f.2.2.2.2.1 = 0 ∧ f.2.2.2.2.2.2.1 = 0 ∧ f.2.2.2.2.2.1.length = 0
theorem rgt_iff {c : CfT} {f : FaT} {cyc : Int} : Sp.rgt c f cyc = true ↔ Rg c f cyc := by
  have hq : ∀ b : Bool, (b == true) = b := by decide
  constructor
  · intro h
    simp only [Sp.rgt, Sp.rngs, Sp.frq, Sp.q0, Sp.q1, Sp.q2, Sp.fin, Sp.kno, Sp.unk, bt_sb, Bool.and_eq_true, inr_iff] at h
    obtain ⟨⟨hs, hn, hy, hcl, ho, hl⟩, ⟨_, hv⟩, ⟨q0, ⟨q1, ql⟩, q2⟩, hf⟩ := h
    refine ⟨hs.1, hs.2, hn.1, hn.2, hy.1, hy.2, hcl.1, hcl.2, ho.1, ho.2, hl.1, hl.2, hv, ?_, ?_, ?_, ?_, ?_, ?_⟩
    · intro h
      simpa [h, and_assoc] using q0
    · cases h : Sp.sb f.1 4 <;> simp [h] at q1 <;> simp [q1]
    · intro h
      simpa [h] using ql
    · intro h
      simpa [h] using q2
    · intro h
      have : (Sp.sb f.1 2 || Sp.sb f.1 4) = true := by rcases h with h | h <;> simp [h]
      rw [this] at hf
      simpa [and_assoc] using hf
    · intro h1 h2
      rw [h1, h2] at hf
      simpa [and_assoc] using hf
  · intro h
    simp only [Sp.rgt, Sp.rngs, Sp.frq, Sp.q0, Sp.q1, Sp.q2, Sp.fin, Sp.kno, Sp.unk, bt_sb, Bool.and_eq_true, inr_iff]
    refine ⟨⟨⟨h.s0, h.s1⟩, ⟨h.n0, h.n1⟩, ⟨h.y0, h.y1⟩, ⟨h.c0, h.c1⟩, ⟨h.o0, h.o1⟩, h.l0, h.l1⟩, ⟨?_, h.fr⟩, ⟨?_, ⟨?_, ?_⟩, ?_⟩, ?_⟩
    · cases h2 : Sp.sb f.1 2
      · cases h4 : Sp.sb f.1 4
        · have := h.un h2 h4
          simp [this.2.2.2.2]
        · have := h.kn (Or.inr h4)
          simp [this.2.2.2]
      · have := h.kn (Or.inl h2)
        simp [this.2.2.2]
    · cases h1 : Sp.sb f.1 1
      · rfl
      · have := h.fa h1
        simp [this]
    · have := h.co
      cases h4 : Sp.sb f.1 4 <;> simp [h4] at this ⊢ <;> exact this
    · cases h1 : Sp.sb f.1 16
      · rfl
      · have := h.lp h1
        simp [this]
    · cases h1 : Sp.sb f.1 2
      · rfl
      · have := h.pe h1
        simp [this]
    · cases h2 : Sp.sb f.1 2
      · cases h4 : Sp.sb f.1 4
        · have := h.un h2 h4
          simp [this]
        · have := h.kn (Or.inr h4)
          simp [this]
      · have := h.kn (Or.inl h2)
        simp [this]
/-! What operations do to bits. -/
theorem tabs {s : Int} (h0 : 0 ≤ s) (h1 : s ≤ 31) :
    (0 ≤ Sp.andnI .i64 s 9 ∧ Sp.andnI .i64 s 9 ≤ 31 ∧ Sp.sb (Sp.andnI .i64 s 9) 1 = false ∧ Sp.sb (Sp.andnI .i64 s 9) 2 = Sp.sb s 2 ∧ Sp.sb (Sp.andnI .i64 s 9) 4 = Sp.sb s 4 ∧ Sp.sb (Sp.andnI .i64 s 9) 8 = false ∧ Sp.sb (Sp.andnI .i64 s 9) 16 = Sp.sb s 16) ∧
    (0 ≤ Sp.andnI .i64 s 2 ∧ Sp.andnI .i64 s 2 ≤ 31 ∧ Sp.sb (Sp.andnI .i64 s 2) 1 = Sp.sb s 1 ∧ Sp.sb (Sp.andnI .i64 s 2) 2 = false ∧ Sp.sb (Sp.andnI .i64 s 2) 4 = Sp.sb s 4 ∧ Sp.sb (Sp.andnI .i64 s 2) 8 = Sp.sb s 8 ∧ Sp.sb (Sp.andnI .i64 s 2) 16 = Sp.sb s 16) ∧
    (0 ≤ Sp.andnI .i64 (Sp.andnI .i64 s 2) 16 ∧ Sp.andnI .i64 (Sp.andnI .i64 s 2) 16 ≤ 31 ∧ Sp.sb (Sp.andnI .i64 (Sp.andnI .i64 s 2) 16) 1 = Sp.sb s 1 ∧ Sp.sb (Sp.andnI .i64 (Sp.andnI .i64 s 2) 16) 2 = false ∧ Sp.sb (Sp.andnI .i64 (Sp.andnI .i64 s 2) 16) 4 = Sp.sb s 4 ∧ Sp.sb (Sp.andnI .i64 (Sp.andnI .i64 s 2) 16) 8 = Sp.sb s 8 ∧ Sp.sb (Sp.andnI .i64 (Sp.andnI .i64 s 2) 16) 16 = false) ∧
    (0 ≤ Sp.orI .i64 s 11 ∧ Sp.orI .i64 s 11 ≤ 31 ∧ Sp.sb (Sp.orI .i64 s 11) 1 = true ∧ Sp.sb (Sp.orI .i64 s 11) 2 = true ∧ Sp.sb (Sp.orI .i64 s 11) 4 = Sp.sb s 4 ∧ Sp.sb (Sp.orI .i64 s 11) 8 = true ∧ Sp.sb (Sp.orI .i64 s 11) 16 = Sp.sb s 16) ∧
    (0 ≤ Sp.orI .i64 (Sp.orI .i64 s 11) 4 ∧ Sp.orI .i64 (Sp.orI .i64 s 11) 4 ≤ 31 ∧ Sp.sb (Sp.orI .i64 (Sp.orI .i64 s 11) 4) 1 = true ∧ Sp.sb (Sp.orI .i64 (Sp.orI .i64 s 11) 4) 2 = true ∧ Sp.sb (Sp.orI .i64 (Sp.orI .i64 s 11) 4) 4 = true ∧ Sp.sb (Sp.orI .i64 (Sp.orI .i64 s 11) 4) 8 = true ∧ Sp.sb (Sp.orI .i64 (Sp.orI .i64 s 11) 4) 16 = Sp.sb s 16) ∧
    (0 ≤ Sp.orI .i64 (Sp.orI .i64 (Sp.orI .i64 s 11) 4) 16 ∧ Sp.orI .i64 (Sp.orI .i64 (Sp.orI .i64 s 11) 4) 16 ≤ 31 ∧ Sp.sb (Sp.orI .i64 (Sp.orI .i64 (Sp.orI .i64 s 11) 4) 16) 1 = true ∧ Sp.sb (Sp.orI .i64 (Sp.orI .i64 (Sp.orI .i64 s 11) 4) 16) 2 = true ∧ Sp.sb (Sp.orI .i64 (Sp.orI .i64 (Sp.orI .i64 s 11) 4) 16) 4 = true ∧ Sp.sb (Sp.orI .i64 (Sp.orI .i64 (Sp.orI .i64 s 11) 4) 16) 8 = true ∧ Sp.sb (Sp.orI .i64 (Sp.orI .i64 (Sp.orI .i64 s 11) 4) 16) 16 = true) ∧
    (0 ≤ Sp.andnI .i64 (Sp.orI .i64 s 8) 1 ∧ Sp.andnI .i64 (Sp.orI .i64 s 8) 1 ≤ 31 ∧ Sp.sb (Sp.andnI .i64 (Sp.orI .i64 s 8) 1) 1 = false ∧ Sp.sb (Sp.andnI .i64 (Sp.orI .i64 s 8) 1) 2 = Sp.sb s 2 ∧ Sp.sb (Sp.andnI .i64 (Sp.orI .i64 s 8) 1) 4 = Sp.sb s 4 ∧ Sp.sb (Sp.andnI .i64 (Sp.orI .i64 s 8) 1) 8 = true ∧ Sp.sb (Sp.andnI .i64 (Sp.orI .i64 s 8) 1) 16 = Sp.sb s 16) := by
  have := tab (fun s => decide (
    (0 ≤ Sp.andnI .i64 s 9 ∧ Sp.andnI .i64 s 9 ≤ 31 ∧ Sp.sb (Sp.andnI .i64 s 9) 1 = false ∧ Sp.sb (Sp.andnI .i64 s 9) 2 = Sp.sb s 2 ∧ Sp.sb (Sp.andnI .i64 s 9) 4 = Sp.sb s 4 ∧ Sp.sb (Sp.andnI .i64 s 9) 8 = false ∧ Sp.sb (Sp.andnI .i64 s 9) 16 = Sp.sb s 16) ∧
    (0 ≤ Sp.andnI .i64 s 2 ∧ Sp.andnI .i64 s 2 ≤ 31 ∧ Sp.sb (Sp.andnI .i64 s 2) 1 = Sp.sb s 1 ∧ Sp.sb (Sp.andnI .i64 s 2) 2 = false ∧ Sp.sb (Sp.andnI .i64 s 2) 4 = Sp.sb s 4 ∧ Sp.sb (Sp.andnI .i64 s 2) 8 = Sp.sb s 8 ∧ Sp.sb (Sp.andnI .i64 s 2) 16 = Sp.sb s 16) ∧
    (0 ≤ Sp.andnI .i64 (Sp.andnI .i64 s 2) 16 ∧ Sp.andnI .i64 (Sp.andnI .i64 s 2) 16 ≤ 31 ∧ Sp.sb (Sp.andnI .i64 (Sp.andnI .i64 s 2) 16) 1 = Sp.sb s 1 ∧ Sp.sb (Sp.andnI .i64 (Sp.andnI .i64 s 2) 16) 2 = false ∧ Sp.sb (Sp.andnI .i64 (Sp.andnI .i64 s 2) 16) 4 = Sp.sb s 4 ∧ Sp.sb (Sp.andnI .i64 (Sp.andnI .i64 s 2) 16) 8 = Sp.sb s 8 ∧ Sp.sb (Sp.andnI .i64 (Sp.andnI .i64 s 2) 16) 16 = false) ∧
    (0 ≤ Sp.orI .i64 s 11 ∧ Sp.orI .i64 s 11 ≤ 31 ∧ Sp.sb (Sp.orI .i64 s 11) 1 = true ∧ Sp.sb (Sp.orI .i64 s 11) 2 = true ∧ Sp.sb (Sp.orI .i64 s 11) 4 = Sp.sb s 4 ∧ Sp.sb (Sp.orI .i64 s 11) 8 = true ∧ Sp.sb (Sp.orI .i64 s 11) 16 = Sp.sb s 16) ∧
    (0 ≤ Sp.orI .i64 (Sp.orI .i64 s 11) 4 ∧ Sp.orI .i64 (Sp.orI .i64 s 11) 4 ≤ 31 ∧ Sp.sb (Sp.orI .i64 (Sp.orI .i64 s 11) 4) 1 = true ∧ Sp.sb (Sp.orI .i64 (Sp.orI .i64 s 11) 4) 2 = true ∧ Sp.sb (Sp.orI .i64 (Sp.orI .i64 s 11) 4) 4 = true ∧ Sp.sb (Sp.orI .i64 (Sp.orI .i64 s 11) 4) 8 = true ∧ Sp.sb (Sp.orI .i64 (Sp.orI .i64 s 11) 4) 16 = Sp.sb s 16) ∧
    (0 ≤ Sp.orI .i64 (Sp.orI .i64 (Sp.orI .i64 s 11) 4) 16 ∧ Sp.orI .i64 (Sp.orI .i64 (Sp.orI .i64 s 11) 4) 16 ≤ 31 ∧ Sp.sb (Sp.orI .i64 (Sp.orI .i64 (Sp.orI .i64 s 11) 4) 16) 1 = true ∧ Sp.sb (Sp.orI .i64 (Sp.orI .i64 (Sp.orI .i64 s 11) 4) 16) 2 = true ∧ Sp.sb (Sp.orI .i64 (Sp.orI .i64 (Sp.orI .i64 s 11) 4) 16) 4 = true ∧ Sp.sb (Sp.orI .i64 (Sp.orI .i64 (Sp.orI .i64 s 11) 4) 16) 8 = true ∧ Sp.sb (Sp.orI .i64 (Sp.orI .i64 (Sp.orI .i64 s 11) 4) 16) 16 = true) ∧
    (0 ≤ Sp.andnI .i64 (Sp.orI .i64 s 8) 1 ∧ Sp.andnI .i64 (Sp.orI .i64 s 8) 1 ≤ 31 ∧ Sp.sb (Sp.andnI .i64 (Sp.orI .i64 s 8) 1) 1 = false ∧ Sp.sb (Sp.andnI .i64 (Sp.orI .i64 s 8) 1) 2 = Sp.sb s 2 ∧ Sp.sb (Sp.andnI .i64 (Sp.orI .i64 s 8) 1) 4 = Sp.sb s 4 ∧ Sp.sb (Sp.andnI .i64 (Sp.orI .i64 s 8) 1) 8 = true ∧ Sp.sb (Sp.andnI .i64 (Sp.orI .i64 s 8) 1) 16 = Sp.sb s 16))) (by decide +kernel) h0 h1
  exact of_decide_eq_true this
theorem beg_rg {c : CfT} {f : FaT} {cyc : Int} (hc : Sp.cfg c = true) (h : Rg c f cyc) : Rg c (Sp.beg1 f) (cyc + 1) := by
  simp only [Sp.cfg, Bool.and_eq_true, inr_iff] at hc
  have ht := (tabs h.s0 h.s1).1
  have hl := h.l1
  unfold Sp.beg1
  refine ⟨ht.1, ht.2.1, ?_, ?_, h.y0, h.y1, h.c0, h.c1, h.o0, h.o1, h.l0, ?_, h.fr, ?_, ?_, ?_, ?_, ?_, ?_⟩ <;> dsimp only
  · omega
  · omega
  · omega
  · rw [ht.2.2.1]; intro h; cases h
  · rw [ht.2.2.2.2.1]; exact h.co
  · rw [ht.2.2.2.2.1, ht.2.2.2.2.2.2]; exact h.lp
  · rw [ht.2.2.2.1]; exact h.pe
  · rw [ht.2.2.2.1, ht.2.2.2.2.1]; exact h.kn
  · rw [ht.2.2.2.1, ht.2.2.2.2.1]; exact h.un
theorem cnt_b {c : CfT} (hc : Sp.cfg c = true) (bad : Bool) {n : Int} : 0 - c.2.2.1 ≤ Sp.cnt1 c bad n ∧ Sp.cnt1 c bad n ≤ c.2.1 := by
  simp only [Sp.cfg, Bool.and_eq_true, inr_iff] at hc
  unfold Sp.cnt1
  dsimp only
  split <;> split <;> split <;> omega
theorem res_rg {c : CfT} {f : FaT} {cyc : Int} {bad : Bool} {frame : List Int} (hc : Sp.cfg c = true) (hy : 1 ≤ cyc) (hf : Sp.frm c frame = true) (h : Rg c f cyc) : Rg c (Sp.res1 c cyc bad frame f) cyc := by
  have hn := cnt_b hc bad (n := f.2.1)
  simp only [Sp.frm, Bool.and_eq_true, beq_iff_eq] at hf
  unfold Sp.res1
  dsimp only
  generalize Sp.cnt1 c bad f.2.1 = n at *
  have hts := tabs h.s0 h.s1
  split
  · -- it fails
    have h11 := hts.2.2.2.1
    have h4 := hts.2.2.2.2.1
    have h16 := hts.2.2.2.2.2.1
    simp only [Sp.cfg, Bool.and_eq_true, inr_iff] at hc
    have ho0 := h.o0
    have ho1 := h.o1
    have hy0 := h.y0
    have hy1 := h.y1
    have hl0 := h.l0
    have hl1 := h.l1
    -- occurrences and frame
    have hoc : ∀ oc : Int, oc = (if Sp.bt f 1 = true then f.2.2.2.2.1 else if 255 < f.2.2.2.2.1 + 1 then 255 else f.2.2.2.2.1 + 1) → 1 ≤ oc ∧ oc ≤ 255 := by
      intro oc e
      subst e
      rw [bt_sb]
      split
      · rename_i h1
        have := h.kn (Or.inl (h.fa h1).1)
        omega
      · split <;> omega
    have hfr : ∀ fr : List Int, fr = (if Sp.bt f 1 = true then f.2.2.2.2.2.1 else if Sp.bt f 4 = true then f.2.2.2.2.2.1 else frame) → Sp.vals fr = true ∧ (fr.length : Int) = c.2.2.2.2.2.2.2.1 := by
      intro fr e
      subst e
      rw [bt_sb, bt_sb]
      split
      · rename_i h1
        exact ⟨h.fr, (h.kn (Or.inl (h.fa h1).1)).2.2.2⟩
      · split
        · rename_i h4
          exact ⟨h.fr, (h.kn (Or.inr h4)).2.2.2⟩
        · exact ⟨hf.2, hf.1⟩
    unfold Sp.fail1
    dsimp only
    have hoc := hoc _ rfl
    have hfr := hfr _ rfl
    generalize (if Sp.bt f 1 = true then f.2.2.2.2.1 else if 255 < f.2.2.2.2.1 + 1 then 255 else f.2.2.2.2.1 + 1) = oc at hoc
    generalize (if Sp.bt f 1 = true then f.2.2.2.2.2.1 else if Sp.bt f 4 = true then f.2.2.2.2.2.1 else frame) = fr at hfr
    split
    · rename_i hlast
      have hkn : f.2.2.1 ≥ 1 := by
        cases e2 : Sp.sb f.1 2
        · cases e4 : Sp.sb f.1 4
          · have := h.un e2 e4
            omega
          · exact (h.kn (Or.inr e4)).2.1
        · exact (h.kn (Or.inl e2)).2.1
      refine ⟨h11.1, h11.2.1, hn.1, hn.2, h.y0, h.y1, ?_, ?_, ?_, ?_, h.l0, h.l1, hfr.1, ?_, ?_, ?_, ?_, ?_, ?_⟩ <;> dsimp only
      · omega
      · omega
      · omega
      · omega
      · intro _; exact ⟨h11.2.2.2.1, h11.2.2.2.2.2.1, hlast⟩
      · rw [h11.2.2.2.2.1]; exact h.co
      · rw [h11.2.2.2.2.1, h11.2.2.2.2.2.2]; exact h.lp
      · intro _; rfl
      · intro _; exact ⟨hoc.1, hkn, by omega, hfr.2⟩
      · rw [h11.2.2.2.1]; intro h; cases h
    · rename_i hlast
      have hco := h.co
      by_cases h2 : (if 2 < f.2.2.1 + 1 then (2 : Int) else f.2.2.1 + 1) < 2
      · have hcy : (if 2 < f.2.2.1 + 1 then (2 : Int) else f.2.2.1 + 1) = f.2.2.1 + 1 := by
          by_cases e : 2 < f.2.2.1 + 1
          · rw [if_pos e] at h2; omega
          · rw [if_neg e]
        rw [if_pos h2]
        rw [hcy] at h2 ⊢
        refine ⟨h11.1, h11.2.1, hn.1, hn.2, ?_, ?_, ?_, ?_, ?_, ?_, ?_, ?_, hfr.1, ?_, ?_, ?_, ?_, ?_, ?_⟩ <;> dsimp only
        · omega
        · omega
        · omega
        · omega
        · omega
        · omega
        · omega
        · omega
        · intro _; exact ⟨h11.2.2.2.1, h11.2.2.2.2.2.1, rfl⟩
        · rw [h11.2.2.2.2.1]
          constructor
          · intro e; have := hco.1 e; omega
          · intro e; omega
        · rw [h11.2.2.2.2.1, h11.2.2.2.2.2.2]; exact h.lp
        · intro _; rfl
        · intro _; exact ⟨hoc.1, by omega, by omega, hfr.2⟩
        · rw [h11.2.2.2.1]; intro h; cases h
      · have hcy : (if 2 < f.2.2.1 + 1 then (2 : Int) else f.2.2.1 + 1) = 2 := by
          by_cases e : 2 < f.2.2.1 + 1
          · rw [if_pos e]
          · rw [if_neg e] at h2 ⊢; omega
        rw [if_neg h2, hcy]
        split
        · rename_i hlamp
          refine ⟨h16.1, h16.2.1, hn.1, hn.2, ?_, ?_, ?_, ?_, ?_, ?_, ?_, ?_, hfr.1, ?_, ?_, ?_, ?_, ?_, ?_⟩ <;> dsimp only
          · omega
          · omega
          · omega
          · omega
          · omega
          · omega
          · omega
          · omega
          · intro _; exact ⟨h16.2.2.2.1, h16.2.2.2.2.2.1, rfl⟩
          · rw [h16.2.2.2.2.1]; simp
          · intro _; exact ⟨h16.2.2.2.2.1, hlamp⟩
          · intro _; rfl
          · intro _; exact ⟨hoc.1, by omega, by omega, hfr.2⟩
          · rw [h16.2.2.2.1]; intro h; cases h
        · refine ⟨h4.1, h4.2.1, hn.1, hn.2, ?_, ?_, ?_, ?_, ?_, ?_, ?_, ?_, hfr.1, ?_, ?_, ?_, ?_, ?_, ?_⟩ <;> dsimp only
          · omega
          · omega
          · omega
          · omega
          · omega
          · omega
          · omega
          · omega
          · intro _; exact ⟨h4.2.2.2.1, h4.2.2.2.2.2.1, rfl⟩
          · rw [h4.2.2.2.2.1]; simp
          · rw [h4.2.2.2.2.2.2]; intro e; exact ⟨h4.2.2.2.2.1, (h.lp e).2⟩
          · intro _; rfl
          · intro _; exact ⟨hoc.1, by omega, by omega, hfr.2⟩
          · rw [h4.2.2.2.1]; intro h; cases h
  · split
    · have h8 := hts.2.2.2.2.2.2
      refine ⟨h8.1, h8.2.1, hn.1, hn.2, h.y0, h.y1, h.c0, h.c1, h.o0, h.o1, h.l0, h.l1, h.fr, ?_, ?_, ?_, ?_, ?_, ?_⟩ <;> dsimp only
      · rw [h8.2.2.1]; intro h; cases h
      · rw [h8.2.2.2.2.1]; exact h.co
      · rw [h8.2.2.2.2.1, h8.2.2.2.2.2.2]; exact h.lp
      · rw [h8.2.2.2.1]; exact h.pe
      · rw [h8.2.2.2.1, h8.2.2.2.2.1]; exact h.kn
      · rw [h8.2.2.2.1, h8.2.2.2.2.1]; exact h.un
    · exact ⟨h.s0, h.s1, hn.1, hn.2, h.y0, h.y1, h.c0, h.c1, h.o0, h.o1, h.l0, h.l1, h.fr, h.fa, h.co, h.lp, h.pe, h.kn, h.un⟩
end Go.Ev
set_option linter.unusedSimpArgs false
set_option linter.unusedVariables false
namespace Go.Ev
open Go
set_option maxRecDepth 100000
set_option maxHeartbeats 4000000
theorem aw : F_8 = some (true, ()) := by kernel_rfl
theorem aw_pv : Sp.p_8 = true ∧ Sp.v_8 = (true, ()) := pv_8 aw
/-- A fault that never was. -/
theorem zero_rg {c : CfT} (hc : Sp.cfg c = true) : Rg c Zd1 0 := by
  simp only [Sp.cfg, Bool.and_eq_true, inr_iff] at hc
  refine ⟨?_, ?_, ?_, ?_, ?_, ?_, ?_, ?_, ?_, ?_, ?_, ?_, rfl, ?_, ?_, ?_, ?_, ?_, ?_⟩ <;> simp only [Ty.dflt]
  · omega
  · omega
  · omega
  · omega
  · omega
  · omega
  · omega
  · omega
  · omega
  · omega
  · omega
  · omega
  · intro h; exact absurd h (by decide)
  · decide
  · intro h; exact absurd h (by decide)
  · intro _; trivial
  · intro h; exact absurd h (by decide)
  · intro _ _; simp
theorem new_vf {l : List CfT} (h : Sp.rcs l = 0) : Vf (l, List.replicate l.length Zd1, 0, false, ()) := by
  unfold Sp.rcs at h
  cases h1 : decide (l.length ≤ 64)
  · rw [h1] at h; cases h
  have h1 := of_decide_eq_true h1
  rw [decide_eq_true h1, cond_t] at h
  cases h2 : Sp.cfgs l
  · rw [h2] at h; cases h
  rw [h2, cond_t] at h
  cases h3 : Sp.dst (Sp.codesL l)
  · rw [h3] at h; cases h
  refine ⟨h1, h2, h3, by simp, ?_, ?_, ?_, ?_⟩ <;> dsimp only
  · omega
  · omega
  · intro h; cases h
  · intro j hj
    have e : (List.replicate l.length Zd1).getD j Zd1 = Zd1 := by
      rw [getD_at _ (by simpa using hj), List.getElem_replicate]
    rw [e]
    exact rgt_iff.2 (zero_rg (cfgs_at h2 hj))
end Go.Ev
set_option linter.unusedSimpArgs false
set_option linter.unusedVariables false
namespace Go.Ev
open Go
set_option maxRecDepth 100000
set_option maxHeartbeats 4000000
theorem res_copy {F : FsT} (h : Vf F) (p2 : FsT) (p3 p7 p9 : Int × Bool × Unit) (p4 p6 p10 : List CfT) (p5 p11 : List FaT) : Sp.L_20_35_0_0 4611686018427387904 F.2.1.length 0 p2 p3 p4 p5 p6 p7 F.2.1 p9 p10 p11 = some (.e0 p2 p3 p4 p5 p6 p7 F.2.1 p9 p10 p11) := by
  have h1 := run0 (fun m i (_ : Unit) => Sp.L_20_35_0_0 m F.2.1.length i p2 p3 p4 p5 p6 p7 F.2.1 p9 p10 p11) (n := F.2.1.length) (fun _ => ()) (r := some (.e0 p2 p3 p4 p5 p6 p7 F.2.1 p9 p10 p11)) h.sm.l (fun m j hj => by
    show Sp.L_20_35_0_0 (m + 1) F.2.1.length (j : Int) p2 p3 p4 p5 p6 p7 F.2.1 p9 p10 p11 = Sp.L_20_35_0_0 m F.2.1.length ((j + 1 : Nat) : Int) p2 p3 p4 p5 p6 p7 F.2.1 p9 p10 p11
    have hl := h.l
    have hn := h.n
    have hf := h.fl (j := j) (by omega)
    rw [Sp.L_20_35_0_0, cond_dtt (by omega)]
    simp only [gd_inB (show (0 : Int) ≤ (j : Int) by omega) (show (j : Int) < ((F.2.1.length : Nat) : Int) by omega), Int.toNat_natCast, Bool.and_true, gd_dec hj]
    rw [gd_room (by omega) (by omega), wi64 (by omega) (by omega)]
    have e : F.2.1.set j (F.2.1.getD j Zd1) = F.2.1 := sg _ hj
    push_cast
    exact congrArg (fun L => Sp.L_20_35_0_0 m F.2.1.length ((j : Int) + 1) p2 p3 p4 p5 p6 p7 L p9 p10 p11) e) (fun m => by
    show Sp.L_20_35_0_0 (m + 1) F.2.1.length F.2.1.length p2 p3 p4 p5 p6 p7 F.2.1 p9 p10 p11 = _
    rw [Sp.L_20_35_0_0, cond_dff (by omega)])
  exact h1
def Sp.resF (F : FsT) (k : Nat) (bad : Bool) (frame : List Int) : FsT × Int × Unit := ((F.1, F.2.1.set k (Sp.res1 (F.1.getD k Zd0) F.2.2.1 bad frame (F.2.1.getD k Zd1)), F.2.2), 0, ())
theorem cnt_t {n : Int} {c : CfT} (h0 : -1000 ≤ n) (h1 : n ≤ 1000) (h2 : 1 ≤ c.2.1) (h3 : c.2.1 ≤ 100) : (if IntKind.wrap .i64 ((if (0 : Int) > n then (0 : Int) else n) + (1 : Int)) < c.2.1 then IntKind.wrap .i64 ((if (0 : Int) > n then (0 : Int) else n) + (1 : Int)) else c.2.1) = Sp.cnt1 c true n := by
  have e : (if (0 : Int) > n then (0 : Int) else n) = (if n > 0 then n else 0) := by split <;> split <;> omega
  have e2 : 0 ≤ (if n > 0 then n else 0) ∧ (if n > 0 then n else 0) ≤ 1000 := by split <;> omega
  unfold Sp.cnt1
  rw [if_pos rfl, e]
  dsimp only
  generalize (if n > 0 then n else 0) = a at *
  rw [wi64 (by omega) (by omega)]
  split <;> split <;> omega
theorem cnt_f {n : Int} {c : CfT} (h0 : -1000 ≤ n) (h1 : n ≤ 1000) (h2 : 1 ≤ c.2.2.1) (h3 : c.2.2.1 ≤ 100) : (if IntKind.wrap .i64 ((if (0 : Int) < n then (0 : Int) else n) - (1 : Int)) > IntKind.wrap .i64 ((0 : Int) - c.2.2.1) then IntKind.wrap .i64 ((if (0 : Int) < n then (0 : Int) else n) - (1 : Int)) else IntKind.wrap .i64 ((0 : Int) - c.2.2.1)) = Sp.cnt1 c false n := by
  have e : (if (0 : Int) < n then (0 : Int) else n) = (if n < 0 then n else 0) := by split <;> split <;> omega
  have e2 : -1000 ≤ (if n < 0 then n else 0) ∧ (if n < 0 then n else 0) ≤ 0 := by split <;> omega
  unfold Sp.cnt1
  rw [if_neg Bool.false_ne_true, e, wi64 (n := 0 - c.2.2.1) (by omega) (by omega)]
  dsimp only
  generalize (if n < 0 then n else 0) = a at *
  rw [wi64 (by omega) (by omega)]
  split <;> split <;> omega
theorem res_J2 {L : List FaT} {C : List CfT} {cy z : Int × Bool × Unit} {z1 : List CfT} {z2 : List FaT} {k : Nat} {bad : Bool} {frame : List Int} (hk : k < L.length) (hkc : k < C.length) (hfr : frame.length ≤ 8)
    (hc : Sp.cfg (C.getD k Zd0) = true) (h : Rg (C.getD k Zd0) (L.getD k Zd1) cy.1) :
    Sp.B_20_2 (Sp.J_20_2 (k : Int) bad frame C cy L z z1 z2) (fun (y51 : Nat) (y52 : List CfT) (y53 : Int × Bool × Unit) (y54 : List FaT) => some ((y52, List.set y54 y51 ((List.getD y54 y51 Zd1).1, (List.getD y54 y51 Zd1).2.1, (List.getD y54 y51 Zd1).2.2.1, (0 : Int), (List.getD y54 y51 Zd1).2.2.2.2), y53), (0 : Int), PUnit.unit)) (fun (y55 : List CfT) (y56 : Int × Bool × Unit) (y57 : List FaT) => some ((y55, y57, y56), (0 : Int), PUnit.unit)) (fun (y58 : Nat) (y59 : List CfT) (y60 : Int × Bool × Unit) (y61 : List FaT) => some ((y59, List.set y61 y58 (Sp.orI .i64 (List.getD y61 y58 Zd1).1 (16 : Int), (List.getD y61 y58 Zd1).2), y60), (0 : Int), PUnit.unit)) (fun (y62 : Nat) (y63 : List CfT) (y64 : Int × Bool × Unit) (y65 : List FaT) => some ((y63, List.set y65 y62 (Sp.andnI .i64 (List.getD y65 y62 Zd1).1 (1 : Int), (List.getD y65 y62 Zd1).2), y64), (0 : Int), PUnit.unit))
    = some ((C, L.set k (Sp.res1 (C.getD k Zd0) cy.1 bad frame (L.getD k Zd1)), cy), 0, ()) := by
  have hcb := hc
  simp only [Sp.cfg, Bool.and_eq_true, inr_iff] at hcb
  unfold Sp.res1
  generalize hce : C.getD k Zd0 = c at *
  generalize hx : L.getD k Zd1 = x at *
  have hn0 := h.n0
  have hn1 := h.n1
  have ho0 := h.o0
  have ho1 := h.o1
  have hy0 := h.y0
  have hy1 := h.y1
  have hgs : ∀ v : FaT, (L.set k v).getD k Zd1 = v := fun v => gs hk
  have hcnt1 : (if IntKind.wrap .i64 ((if (0 : Int) > x.2.1 then (0 : Int) else x.2.1) + (1 : Int)) < c.2.1 then IntKind.wrap .i64 ((if (0 : Int) > x.2.1 then (0 : Int) else x.2.1) + (1 : Int)) else c.2.1) = Sp.cnt1 c true x.2.1 := by
    exact cnt_t (by omega) (by omega) (by omega) (by omega)
  have hcnt2 : (if IntKind.wrap .i64 ((if (0 : Int) < x.2.1 then (0 : Int) else x.2.1) - (1 : Int)) > IntKind.wrap .i64 ((0 : Int) - c.2.2.1) then IntKind.wrap .i64 ((if (0 : Int) < x.2.1 then (0 : Int) else x.2.1) - (1 : Int)) else IntKind.wrap .i64 ((0 : Int) - c.2.2.1)) = Sp.cnt1 c false x.2.1 := by
    exact cnt_f (by omega) (by omega) (by omega) (by omega)
  have hin1 : inB (k : Int) L.length = true := inB_t (by omega) (by omega)
  have hin2 : inB (k : Int) C.length = true := inB_t (by omega) (by omega)
  have hd : decide (k < L.length) = true := decide_eq_true hk
  have hroom : room frame.length 8 = true := room_ok (by omega) (by omega)
  have hw1 : IntKind.wrap .i64 ((0 : Int) - c.2.2.1) = 0 - c.2.2.1 := wi64 (by omega) (by omega)
  have hw2 : IntKind.wrap .i64 (x.2.2.2.2.1 + 1) = x.2.2.2.2.1 + 1 := wi64 (by omega) (by omega)
  have hw3 : IntKind.wrap .i64 (x.2.2.1 + 1) = x.2.2.1 + 1 := wi64 (by omega) (by omega)
  have hoc : (if x.2.2.2.2.1 + 1 < 255 then x.2.2.2.2.1 + 1 else (255 : Int)) = (if 255 < x.2.2.2.2.1 + 1 then 255 else x.2.2.2.2.1 + 1) := by
    split <;> split <;> omega
  have hcy : (if x.2.2.1 + 1 < 2 then x.2.2.1 + 1 else (2 : Int)) = (if 2 < x.2.2.1 + 1 then 2 else x.2.2.1 + 1) := by
    split <;> split <;> omega
  have hJ3 : ∀ n : Int, Sp.B_20_3 (Sp.J_20_3 frame k C cy (L.set k (x.1, n, x.2.2)) z z1 z2 c) (fun (y51 : Nat) (y52 : List CfT) (y53 : Int × Bool × Unit) (y54 : List FaT) => some ((y52, List.set y54 y51 ((List.getD y54 y51 Zd1).1, (List.getD y54 y51 Zd1).2.1, (List.getD y54 y51 Zd1).2.2.1, (0 : Int), (List.getD y54 y51 Zd1).2.2.2.2), y53), (0 : Int), PUnit.unit)) (fun (y55 : List CfT) (y56 : Int × Bool × Unit) (y57 : List FaT) => some ((y55, y57, y56), (0 : Int), PUnit.unit)) (fun (y58 : Nat) (y59 : List CfT) (y60 : Int × Bool × Unit) (y61 : List FaT) => some ((y59, List.set y61 y58 (Sp.orI .i64 (List.getD y61 y58 Zd1).1 (16 : Int), (List.getD y61 y58 Zd1).2), y60), (0 : Int), PUnit.unit)) (fun (y62 : Nat) (y63 : List CfT) (y64 : Int × Bool × Unit) (y65 : List FaT) => some ((y63, List.set y65 y62 (Sp.andnI .i64 (List.getD y65 y62 Zd1).1 (1 : Int), (List.getD y65 y62 Zd1).2), y64), (0 : Int), PUnit.unit)) = some ((C, L.set k (if n = c.2.1 then Sp.fail1 c cy.1 frame x n else if n = 0 - c.2.2.1 then (Sp.andnI .i64 (Sp.orI .i64 x.1 8) 1, n, x.2.2) else (x.1, n, x.2.2)), cy), 0, ()) := by
    intro n
    by_cases hA : n = c.2.1
    · rw [if_pos hA]
      have hA' : (n == c.2.1) = true := beq_iff_eq.2 hA
      unfold Sp.fail1
      dsimp only
      cases h1 : Sp.sb x.1 1 <;> cases h4 : Sp.sb x.1 4 <;> cases hl : (x.2.2.2.2.2.2.1 == cy.1) <;> cases hlm : c.2.2.2.2.2.2.1 <;> by_cases hy : (if 2 < x.2.2.1 + 1 then (2 : Int) else x.2.2.1 + 1) < 2 <;>
        (first | rw [if_pos (beq_iff_eq.1 hl)] | rw [if_neg (beq_eq_false_iff_ne.1 hl)]) <;>
        simp only [Sp.J_20_2, Sp.J_20_3, Sp.J_20_4, Sp.J_20_37_0_0, Sp.J_20_37_1_0, Sp.J_20_37_2_0, Sp.J_20_37_3_0, Sp.J_20_37_4_0, Sp.J_20_37_5_0, Sp.J_20_37_6_0, Sp.J_20_37_7_0, Sp.J_20_37_8_0, Sp.B_20_1, Sp.B_20_2, Sp.B_20_3, Sp.B_20_4, Sp.B_20_37_0_0, Sp.B_20_37_1_0, Sp.B_20_37_2_0, Sp.B_20_37_3_0, Sp.B_20_37_4_0, Sp.B_20_37_5_0, Sp.B_20_37_6_0, Sp.B_20_37_7_0, Sp.B_20_37_8_0, has_pv, gd_tt, Bool.and_true, List.length_set, List.set_set, cond_true, cond_false, Bool.not_true, Bool.not_false, bt_sb, hgs, hd, hA', hw2, hw3, hoc, hcy, hroom, h1, h4, hl, hlm, hy, beq_self_eq_true, if_true, if_false, Bool.false_eq_true, decide_true, decide_false]
    · rw [if_neg hA]
      have hA' : (n == c.2.1) = false := beq_eq_false_iff_ne.2 hA
      by_cases hB : n = 0 - c.2.2.1
      · rw [if_pos hB]
        have hB' : (n == 0 - c.2.2.1) = true := beq_iff_eq.2 hB
        simp only [Sp.J_20_2, Sp.J_20_3, Sp.J_20_4, Sp.J_20_37_0_0, Sp.J_20_37_1_0, Sp.J_20_37_2_0, Sp.J_20_37_3_0, Sp.J_20_37_4_0, Sp.J_20_37_5_0, Sp.J_20_37_6_0, Sp.J_20_37_7_0, Sp.J_20_37_8_0, Sp.B_20_1, Sp.B_20_2, Sp.B_20_3, Sp.B_20_4, Sp.B_20_37_0_0, Sp.B_20_37_1_0, Sp.B_20_37_2_0, Sp.B_20_37_3_0, Sp.B_20_37_4_0, Sp.B_20_37_5_0, Sp.B_20_37_6_0, Sp.B_20_37_7_0, Sp.B_20_37_8_0, has_pv, gd_tt, Bool.and_true, List.length_set, List.set_set, cond_true, cond_false, Bool.not_true, Bool.not_false, bt_sb, hgs, hd, hA', hw1, hB']
      · rw [if_neg hB]
        have hB' : (n == 0 - c.2.2.1) = false := beq_eq_false_iff_ne.2 hB
        simp only [Sp.J_20_2, Sp.J_20_3, Sp.J_20_4, Sp.J_20_37_0_0, Sp.J_20_37_1_0, Sp.J_20_37_2_0, Sp.J_20_37_3_0, Sp.J_20_37_4_0, Sp.J_20_37_5_0, Sp.J_20_37_6_0, Sp.J_20_37_7_0, Sp.J_20_37_8_0, Sp.B_20_1, Sp.B_20_2, Sp.B_20_3, Sp.B_20_4, Sp.B_20_37_0_0, Sp.B_20_37_1_0, Sp.B_20_37_2_0, Sp.B_20_37_3_0, Sp.B_20_37_4_0, Sp.B_20_37_5_0, Sp.B_20_37_6_0, Sp.B_20_37_7_0, Sp.B_20_37_8_0, has_pv, gd_tt, Bool.and_true, List.length_set, List.set_set, cond_true, cond_false, Bool.not_true, Bool.not_false, bt_sb, hgs, hd, hA', hw1, hB']
  unfold Sp.J_20_2
  simp only [hin1, hin2, gd_tt, Int.toNat_natCast, hx, hce, hd, Bool.and_true, hcnt1, hcnt2]
  have hBB : ∀ (r : Option Sp.E_20_3) (k0 : Nat → List CfT → Int × Bool × Unit → List FaT → Option (FsT × Int × Unit)) (k1 : List CfT → Int × Bool × Unit → List FaT → Option (FsT × Int × Unit)) (k2 k3 : Nat → List CfT → Int × Bool × Unit → List FaT → Option (FsT × Int × Unit)), Sp.B_20_2 (Sp.B_20_3 r (fun a b c d => some (.e0 a b c d)) (fun a b c => some (.e1 a b c)) (fun a b c d => some (.e2 a b c d)) (fun a b c d => some (.e3 a b c d))) k0 k1 k2 k3 = Sp.B_20_3 r k0 k1 k2 k3 := by
    intro r k0 k1 k2 k3
    cases r with
    | none => rfl
    | some e => cases e <;> rfl
  cases bad
  · rw [cond_f, hBB, hJ3]
  · rw [cond_t, hBB, hJ3]
theorem res_ok {F : FsT} {k : Nat} {bad : Bool} {frame : List Int} (h : Vf F) (hk : k < F.1.length) (hrun : F.2.2.2.1 = true) (hf : Sp.frm (F.1.getD k Zd0) frame = true) : F_20 F k bad frame = some (Sp.resF F k bad frame) := by
  have hl := h.l
  have hn := h.n
  have hcb := h.cf hk
  have hfl : frame.length ≤ 8 := by
    simp only [Sp.frm, Sp.cfg, Bool.and_eq_true, beq_iff_eq, inr_iff] at hf hcb
    omega
  have hJ1 := res_J2 (cy := F.2.2) (z := (0, false, ())) (z1 := []) (z2 := []) (bad := bad) (frame := frame) (show k < F.2.1.length by omega) hk hfl (h.cf hk) (rgt_iff.1 (h.r k hk))
  unfold F_20 Sp.resF
  rw [(vf_pv h.sm).1, (vf_pv h.sm).2, gd_tt, vf_iff.2 h, Bool.not_true, cond_f, cond_dff (by omega), decide_eq_false (by omega)]
  have hJ0 : ∀ (z : Int × Bool × Unit) (z1 : List CfT) (z2 : List FaT), Sp.J_20_0 (k : Int) bad frame false F z z1 z2 = some (.e3 (k : Int) bad frame F z z1 z2) := by
    intro z z1 z2
    unfold Sp.J_20_0
    rw [cond_f, hrun, Bool.not_true, cond_f, gd_inB (by omega) (by omega), Int.toNat_natCast, (frm_pv _ _ (by omega)).1, (frm_pv _ _ (by omega)).2, gd_tt, hf]
    rfl
  rw [hJ0]
  simp only [Sp.B_20_0, Sp.J_20_1]
  rw [gd_room (by omega) (by omega), res_copy h]
  simp only [Sp.B_20_35_0_0]
  have hBB : ∀ (r : Option Sp.E_20_2) (k0 : Nat → List CfT → Int × Bool × Unit → List FaT → Option (FsT × Int × Unit)) (k1 : List CfT → Int × Bool × Unit → List FaT → Option (FsT × Int × Unit)) (k2 k3 : Nat → List CfT → Int × Bool × Unit → List FaT → Option (FsT × Int × Unit)), Sp.B_20_1 (Sp.B_20_2 r (fun a b c d => some (.e0 a b c d)) (fun a b c => some (.e1 a b c)) (fun a b c d => some (.e2 a b c d)) (fun a b c d => some (.e3 a b c d))) k0 k1 k2 k3 = Sp.B_20_2 r k0 k1 k2 k3 := by
    intro r k0 k1 k2 k3
    cases r with
    | none => rfl
    | some e => cases e <;> rfl
  rw [hBB]
  exact hJ1
theorem res_pv {F : FsT} {k : Nat} {bad : Bool} {frame : List Int} (h : Vf F) (hk : k < F.1.length) (hrun : F.2.2.2.1 = true) (hf : Sp.frm (F.1.getD k Zd0) frame = true) : Sp.p_20 F k bad frame = true ∧ Sp.v_20 F k bad frame = Sp.resF F k bad frame := pv_20 F k bad frame (res_ok h hk hrun hf)
end Go.Ev
set_option linter.unusedSimpArgs false
set_option linter.unusedVariables false
namespace Go.Ev
open Go
set_option maxRecDepth 100000
set_option maxHeartbeats 4000000
def Sp.zer (c : CfT) : List Int := List.replicate c.2.2.2.2.2.2.2.1.toNat 0
theorem fr_eq {n : Int} (h0 : 0 ≤ n) (h1 : n ≤ 8) : (if (if (8 : Int) < n then (8 : Int) else n) > (0 : Int) then if (8 : Int) < n then (8 : Int) else n else (0 : Int)) = n := by
  have e : (if (8 : Int) < n then (8 : Int) else n) = n := by split <;> omega
  rw [e]
  split <;> omega
theorem zer_frm {c : CfT} (hc : Sp.cfg c = true) : Sp.frm c (Sp.zer c) = true := by
  simp only [Sp.cfg, Bool.and_eq_true, inr_iff] at hc
  simp only [Sp.frm, Sp.zer, Sp.vals, Bool.and_eq_true, beq_iff_eq, List.length_replicate, List.all_eq_true, List.mem_range]
  refine ⟨by omega, fun j hj => ?_⟩
  rw [getD_at 0 (by simpa using hj), List.getElem_replicate]
  decide
/-- What is remembered. -/
structure Rem (a b : FsT) : Prop where
  c : b.1 = a.1
  y : a.2.2.1 ≤ b.2.2.1
  k : ∀ k, k < a.1.length → Sp.sb (a.2.1.getD k Zd1).1 4 = true →
    (Sp.sb (b.2.1.getD k Zd1).1 4 = true ∧ (a.2.1.getD k Zd1).2.2.2.2.1 ≤ (b.2.1.getD k Zd1).2.2.2.2.1 ∧ (b.2.1.getD k Zd1).2.2.2.2.2.1 = (a.2.1.getD k Zd1).2.2.2.2.2.1) ∨
    (Sp.sb (b.2.1.getD k Zd1).1 4 = false ∧ a.2.2.2.1 = true ∧ b.2.2.2.1 = false ∧ (a.2.1.getD k Zd1).2.2.2.1 = (a.1.getD k Zd0).2.2.2.2.1 - 1 ∧ ¬ (a.2.1.getD k Zd1).2.2.2.2.2.2.1 = a.2.2.1 ∧ Sp.sb (a.2.1.getD k Zd1).1 8 = true)
theorem res_keep {c : CfT} {f : FaT} {cyc : Int} {bad : Bool} {frame : List Int} (h : Rg c f cyc) (h4 : Sp.sb f.1 4 = true) : Sp.sb (Sp.res1 c cyc bad frame f).1 4 = true ∧ f.2.2.2.2.1 ≤ (Sp.res1 c cyc bad frame f).2.2.2.2.1 ∧ (Sp.res1 c cyc bad frame f).2.2.2.2.2.1 = f.2.2.2.2.2.1 := by
  have hts := tabs h.s0 h.s1
  have ho := h.o1
  have hoc : f.2.2.2.2.1 ≤ (if Sp.bt f 1 = true then f.2.2.2.2.1 else if 255 < f.2.2.2.2.1 + 1 then 255 else f.2.2.2.2.1 + 1) := by
    split
    · omega
    · split <;> omega
  have hfr : (if Sp.bt f 1 = true then f.2.2.2.2.2.1 else if Sp.bt f 4 = true then f.2.2.2.2.2.1 else frame) = f.2.2.2.2.2.1 := by
    rw [bt_sb f 4, h4]
    split <;> rfl
  unfold Sp.res1
  dsimp only
  generalize Sp.cnt1 c bad f.2.1 = n
  by_cases hA : n = c.2.1
  · rw [if_pos hA]
    unfold Sp.fail1
    dsimp only
    rw [hfr]
    generalize (if Sp.bt f 1 = true then f.2.2.2.2.1 else if 255 < f.2.2.2.2.1 + 1 then 255 else f.2.2.2.2.1 + 1) = oc at hoc
    by_cases hl : f.2.2.2.2.2.2.1 = cyc
    · rw [if_pos hl]
      exact ⟨by rw [hts.2.2.2.1.2.2.2.2.1]; exact h4, hoc, rfl⟩
    rw [if_neg hl]
    by_cases hy : (if 2 < f.2.2.1 + 1 then (2 : Int) else f.2.2.1 + 1) < 2
    · rw [if_pos hy]
      exact ⟨by rw [hts.2.2.2.1.2.2.2.2.1]; exact h4, hoc, rfl⟩
    rw [if_neg hy]
    refine ⟨?_, hoc, rfl⟩
    dsimp only
    cases c.2.2.2.2.2.2.1
    · rw [if_neg Bool.false_ne_true]; exact hts.2.2.2.2.1.2.2.2.2.1
    · rw [if_pos rfl]; exact hts.2.2.2.2.2.1.2.2.2.2.1
  rw [if_neg hA]
  by_cases hB : n = 0 - c.2.2.1
  · rw [if_pos hB]
    exact ⟨by rw [hts.2.2.2.2.2.2.2.2.2.2.1]; exact h4, Int.le_refl _, rfl⟩
  · rw [if_neg hB]
    exact ⟨h4, Int.le_refl _, rfl⟩
theorem res_next {F : FsT} {k : Nat} {bad : Bool} {frame : List Int} (h : Vf F) (hk : k < F.1.length) (hrun : F.2.2.2.1 = true) (hf : Sp.frm (F.1.getD k Zd0) frame = true) : Vf (Sp.resF F k bad frame).1 ∧ Rem F (Sp.resF F k bad frame).1 := by
  have hl := h.l
  have hk' : k < F.2.1.length := by omega
  have hr := h.run hrun
  unfold Sp.resF
  constructor
  · refine ⟨h.n, h.c, h.d, by rw [List.length_set]; exact hl, h.y0, h.y1, h.run, fun j hj => ?_⟩
    dsimp only
    rw [getD_set _ _ _ _ _ hk']
    split
    · rename_i e
      subst e
      exact rgt_iff.2 (res_rg (h.cf hj) hr hf (rgt_iff.1 (h.r k hj)))
    · exact h.r j hj
  · refine ⟨rfl, Int.le_refl _, fun j hj h4 => ?_⟩
    dsimp only
    rw [getD_set _ _ _ _ _ hk']
    split
    · rename_i e
      subst e
      exact Or.inl (res_keep (rgt_iff.1 (h.r k hj)) h4)
    · exact Or.inl ⟨h4, Int.le_refl _, rfl⟩
theorem beg_next {F : FsT} (h : Vf F) (hrun : F.2.2.2.1 = false) (hy : ¬ F.2.2.1 = 1073741824) : (Sp.begF F).2.1 = 0 ∧ Vf (Sp.begF F).1 ∧ Rem F (Sp.begF F).1 := by
  have hl := h.l
  have hy0 := h.y0
  have hy1 := h.y1
  unfold Sp.begF
  rw [if_pos (vf_iff.2 h), if_neg (by rw [hrun]; decide), if_neg hy]
  refine ⟨rfl, ?_, ?_⟩
  · refine ⟨h.n, h.c, h.d, by rw [mapTo_len]; exact hl, ?_, ?_, ?_, fun j hj => ?_⟩ <;> dsimp only at *
    · omega
    · omega
    · intro _; omega
    · rw [mapTo_get _ (by omega), if_pos (by omega)]
      exact rgt_iff.2 (beg_rg (h.cf hj) (rgt_iff.1 (h.r j hj)))
  · refine ⟨rfl, ?_, fun j hj h4 => ?_⟩ <;> dsimp only at *
    · omega
    rw [mapTo_get _ (by omega), if_pos (by omega)]
    have hg := rgt_iff.1 (h.r j hj)
    have hts := tabs hg.s0 hg.s1
    exact Or.inl ⟨by unfold Sp.beg1; rw [hts.1.2.2.2.2.1]; exact h4, Int.le_refl _, rfl⟩
end Go.Ev
set_option linter.unusedSimpArgs false
set_option linter.unusedVariables false
namespace Go.Ev
open Go
set_option maxRecDepth 100000
set_option maxHeartbeats 4000000
/-- A state of one fault in a running cycle. -/
structure One (c : CfT) (F : FsT) : Prop where
  v : Vf F
  c : F.1 = [c]
theorem One.l {c : CfT} {F : FsT} (h : One c F) : F.2.1.length = 1 := by rw [h.v.l, h.c]; rfl
theorem One.cf {c : CfT} {F : FsT} (h : One c F) : F.1.getD 0 Zd0 = c := by rw [h.c]; rfl
theorem One.cfg {c : CfT} {F : FsT} (h : One c F) : Sp.cfg c = true := by
  have := h.v.cf (j := 0) (by rw [h.c]; exact Nat.one_pos)
  rw [h.cf] at this
  exact this
theorem One.rg {c : CfT} {F : FsT} (h : One c F) : Rg c (F.2.1.getD 0 Zd1) F.2.2.1 := by
  have := h.v.r 0 (by rw [h.c]; exact Nat.one_pos)
  rw [h.cf] at this
  exact rgt_iff.1 this
theorem One.res {c : CfT} {F : FsT} (h : One c F) (hr : F.2.2.2.1 = true) (b : Bool) : One c (Sp.resF F 0 b (Sp.zer c)).1 ∧ (Sp.resF F 0 b (Sp.zer c)).1.2.1.getD 0 Zd1 = Sp.res1 c F.2.2.1 b (Sp.zer c) (F.2.1.getD 0 Zd1) ∧ (Sp.resF F 0 b (Sp.zer c)).1.2.2 = F.2.2 := by
  have hl := h.l
  have hk : 0 < F.1.length := by rw [h.c]; exact Nat.one_pos
  have hn := res_next (bad := b) (frame := Sp.zer c) h.v hk hr (by rw [h.cf]; exact zer_frm h.cfg)
  refine ⟨⟨hn.1, h.c⟩, ?_, rfl⟩
  unfold Sp.resF
  dsimp only
  rw [gs (by omega), h.cf]
theorem One.pv {c : CfT} {F : FsT} (h : One c F) (hr : F.2.2.2.1 = true) (b : Bool) : Sp.p_20 F (0 : Int) b (Sp.zer c) = true ∧ Sp.v_20 F (0 : Int) b (Sp.zer c) = Sp.resF F 0 b (Sp.zer c) :=
  res_pv (k := 0) h.v (by rw [h.c]; exact Nat.one_pos) hr (by rw [h.cf]; exact zer_frm h.cfg)
theorem one_new {c : CfT} (hc : Sp.cfg c = true) : Sp.rcs [c] = 0 := by
  unfold Sp.rcs
  have h1 : Sp.cfgs [c] = true := by
    unfold Sp.cfgs
    rw [List.all_eq_true]
    intro j hj
    rw [List.mem_range] at hj
    have : j = 0 := by simpa using hj
    subst this
    exact hc
  rw [h1]
  rfl
/-- Counters and the number of a fault. -/
def Sp.num (c : CfT) (bad good : Int) : Int := if bad > 0 then (if bad < c.2.1 then bad else c.2.1) else if good > 0 then 0 - (if good < c.2.2.1 then good else c.2.2.1) else 0
theorem num_bad {c : CfT} (hc : Sp.cfg c = true) {bad good : Int} (h0 : 0 ≤ bad) (h1 : 0 ≤ good) (h : bad = 0 ∨ good = 0) : Sp.cnt1 c true (Sp.num c bad good) = Sp.num c (bad + 1) 0 := by
  simp only [Sp.cfg, Bool.and_eq_true, inr_iff] at hc
  unfold Sp.cnt1 Sp.num
  rw [if_pos rfl]
  dsimp only
  repeat' split
  all_goals omega
theorem num_good {c : CfT} (hc : Sp.cfg c = true) {bad good : Int} (h0 : 0 ≤ bad) (h1 : 0 ≤ good) (h : bad = 0 ∨ good = 0) : Sp.cnt1 c false (Sp.num c bad good) = Sp.num c 0 (good + 1) := by
  simp only [Sp.cfg, Bool.and_eq_true, inr_iff] at hc
  unfold Sp.cnt1 Sp.num
  rw [if_neg Bool.false_ne_true]
  dsimp only
  repeat' split
  all_goals omega
theorem res_cnt (c : CfT) (cyc : Int) (b : Bool) (fr : List Int) (f : FaT) : (Sp.res1 c cyc b fr f).2.1 = Sp.cnt1 c b f.2.1 := by
  unfold Sp.res1
  dsimp only
  generalize Sp.cnt1 c b f.2.1 = n
  split
  · unfold Sp.fail1
    dsimp only
    repeat' split
    all_goals rfl
  · split <;> rfl
theorem res_fail {c : CfT} {cyc : Int} {b : Bool} {fr : List Int} {f : FaT} (h : Rg c f cyc) : Sp.sb (Sp.res1 c cyc b fr f).1 1 = (if Sp.cnt1 c b f.2.1 = c.2.1 then true else if Sp.cnt1 c b f.2.1 = 0 - c.2.2.1 then false else Sp.sb f.1 1) := by
  have hts := tabs h.s0 h.s1
  unfold Sp.res1
  dsimp only
  generalize Sp.cnt1 c b f.2.1 = n
  by_cases hA : n = c.2.1
  · rw [if_pos hA, if_pos hA]
    unfold Sp.fail1
    dsimp only
    by_cases hl : f.2.2.2.2.2.2.1 = cyc
    · rw [if_pos hl]; exact hts.2.2.2.1.2.2.1
    rw [if_neg hl]
    by_cases hy : (if 2 < f.2.2.1 + 1 then (2 : Int) else f.2.2.1 + 1) < 2
    · rw [if_pos hy]; exact hts.2.2.2.1.2.2.1
    rw [if_neg hy]
    dsimp only
    cases c.2.2.2.2.2.2.1
    · rw [if_neg Bool.false_ne_true]; exact hts.2.2.2.2.1.2.2.1
    · rw [if_pos rfl]; exact hts.2.2.2.2.2.1.2.2.1
  rw [if_neg hA, if_neg hA]
  by_cases hB : n = 0 - c.2.2.1
  · rw [if_pos hB, if_pos hB]; exact hts.2.2.2.2.2.2.2.2.1
  · rw [if_neg hB, if_neg hB]
theorem deb_J3 {c : CfT} {F : FsT} (h : One c F) (hr : F.2.2.2.1 = true) (bad good n i : Int) (fl b : Bool) (l : List Bool) (hf : Sp.sb (Sp.res1 c F.2.2.1 b (Sp.zer c) (F.2.1.getD 0 Zd1)).1 1 = fl) : Sp.J_5_3 bad good fl b l n i c F = some (.e1 bad good fl b l n i c F) := by
  have hc := h.cfg
  simp only [Sp.cfg, Bool.and_eq_true, inr_iff] at hc
  have ho := h.res hr b
  have hp := h.pv hr b
  have hl := ho.1.l
  unfold Sp.J_5_3
  rw [fr_eq (by omega) (by omega)]
  have hg1 : (decide ((0 : Int) ≤ c.2.2.2.2.2.2.2.1) && ((c.2.2.2.2.2.2.2.1 == c.2.2.2.2.2.2.2.1) && room (Int.toNat c.2.2.2.2.2.2.2.1) 8)) = true := by
    rw [decide_eq_true (by omega), beq_self_eq_true, show room (Int.toNat c.2.2.2.2.2.2.2.1) 8 = true from room_ok (by omega) (by omega)]
    rfl
  have hzr : List.replicate (Int.toNat c.2.2.2.2.2.2.2.1) (0 : Int) = Sp.zer c := rfl
  rw [hg1, gd_tt, hzr, hp.1, hp.2, gd_tt, cond_nff (show (Sp.resF F 0 b (Sp.zer c)).2.1 = 0 from rfl), cond_nff (by omega), gd_inB (by omega) (by omega), ho.2.1]
  have hrg := ho.1.rg
  rw [ho.2.1] at hrg
  have hb := (bt_ne hrg.s0 hrg.s1).1.1
  rw [hb]
  have : (Sp.andI .i64 (Sp.res1 c F.2.2.1 b (Sp.zer c) (F.2.1.getD 0 Zd1)).1 1 == 1) = fl := hf
  rw [this, show (!(fl == fl)) = false by cases fl <;> rfl, cond_f]
theorem deb_loop (c : CfT) (l : List Bool) (hn : l.length ≤ 300) : ∀ (d m j : Nat) (bad good : Int) (fl : Bool) (F : FsT), j + d = l.length → d < m → One c F → F.2.2.2.1 = true → 0 ≤ bad → 0 ≤ good → bad ≤ j → good ≤ j → (bad = 0 ∨ good = 0) → (F.2.1.getD 0 Zd1).2.1 = Sp.num c bad good → Sp.sb (F.2.1.getD 0 Zd1).1 1 = fl →
    Sp.B_5_0 (Sp.L_5_0 m bad good fl l l.length (j : Int) c F) (some false) (some true) = some true
  | 0, m + 1, j, bad, good, fl, F, hj, _, _, _, _, _, _, _, _, _, _ => by
    rw [Sp.L_5_0, cond_dff (by omega)]
    rfl
  | d + 1, m + 1, j, bad, good, fl, F, hj, hm, ho, hr, h0, h1, h2, h3, h4, h5, h6 => by
    have hc := ho.cfg
    have hc2 := hc
    simp only [Sp.cfg, Bool.and_eq_true, inr_iff] at hc2
    have hres := fun b => ho.res hr b
    have hpv := fun b => ho.pv hr b
    have hfl := fun b => res_fail (b := b) (fr := Sp.zer c) ho.rg
    have hcn := fun b => res_cnt c F.2.2.1 b (Sp.zer c) (F.2.1.getD 0 Zd1)
    rw [h5, h6] at hfl
    rw [h5] at hcn
    have hw1 : IntKind.wrap .i64 ((j : Int) + 1) = (j : Int) + 1 := wi64 (by omega) (by omega)
    have hzr : List.replicate (Int.toNat (if (if (8 : Int) < c.2.2.2.2.2.2.2.1 then (8 : Int) else c.2.2.2.2.2.2.2.1) > (0 : Int) then if (8 : Int) < c.2.2.2.2.2.2.2.1 then (8 : Int) else c.2.2.2.2.2.2.2.1 else (0 : Int))) (0 : Int) = Sp.zer c := by
      rw [fr_eq (by omega) (by omega)]; rfl
    rw [Sp.L_5_0, cond_dtt (by omega), gd_inB (by omega) (by omega), Int.toNat_natCast]
    generalize l.getD j false = b at *
    cases b
    · have hn1 := num_good hc h0 h1 h4
      have hfl := hfl false
      have hcn := hcn false
      rw [hn1] at hfl hcn
      have ih := fun fl' (h : Sp.sb (Sp.res1 c F.2.2.1 false (Sp.zer c) (F.2.1.getD 0 Zd1)).1 1 = fl') => deb_loop c l hn d m (j + 1) 0 (good + 1) fl' (Sp.resF F 0 false (Sp.zer c)).1 (by omega) (by omega) (hres false).1 (by rw [(hres false).2.2]; exact hr) (by omega) (by omega) (by push_cast; omega) (by push_cast; omega) (Or.inl rfl) (by rw [(hres false).2.1]; exact hcn) (by rw [(hres false).2.1]; exact h)
      push_cast at ih
      rw [cond_f, wi64 (n := good + 1) (by omega) (by omega)]
      unfold Sp.J_5_1
      rw [cond_dff (by omega)]
      unfold Sp.J_5_2
      have hA : ¬ Sp.num c 0 (good + 1) = c.2.1 := by
        unfold Sp.num
        rw [if_neg (by decide)]
        repeat' split
        all_goals omega
      rw [if_neg hA] at hfl
      by_cases hg : good + 1 ≥ c.2.2.1
      · have hB : Sp.num c 0 (good + 1) = 0 - c.2.2.1 := by
          unfold Sp.num
          rw [if_neg (by decide), if_pos (by omega), if_neg (by omega)]
        rw [if_pos hB] at hfl
        rw [cond_dtt hg, deb_J3 ho hr _ _ _ _ _ _ _ hfl]
        simp only [Sp.B_5_1, Sp.B_5_2, Sp.B_5_3]
        rw [hzr, (hpv false).2, hw1]
        exact ih _ hfl
      · have hB : ¬ Sp.num c 0 (good + 1) = 0 - c.2.2.1 := by
          unfold Sp.num
          rw [if_neg (by decide), if_pos (by omega), if_pos (by omega)]
          omega
        rw [if_neg hB] at hfl
        rw [cond_dff hg, deb_J3 ho hr _ _ _ _ _ _ _ hfl]
        simp only [Sp.B_5_1, Sp.B_5_2, Sp.B_5_3]
        rw [hzr, (hpv false).2, hw1]
        exact ih _ hfl
    · have hn1 := num_bad hc h0 h1 h4
      have hfl := hfl true
      have hcn := hcn true
      rw [hn1] at hfl hcn
      have ih := fun fl' (h : Sp.sb (Sp.res1 c F.2.2.1 true (Sp.zer c) (F.2.1.getD 0 Zd1)).1 1 = fl') => deb_loop c l hn d m (j + 1) (bad + 1) 0 fl' (Sp.resF F 0 true (Sp.zer c)).1 (by omega) (by omega) (hres true).1 (by rw [(hres true).2.2]; exact hr) (by omega) (by omega) (by push_cast; omega) (by push_cast; omega) (Or.inr rfl) (by rw [(hres true).2.1]; exact hcn) (by rw [(hres true).2.1]; exact h)
      push_cast at ih
      rw [cond_t, wi64 (n := bad + 1) (by omega) (by omega)]
      unfold Sp.J_5_1
      have hB : ¬ Sp.num c (bad + 1) 0 = 0 - c.2.2.1 := by
        unfold Sp.num
        rw [if_pos (by omega)]
        split <;> omega
      by_cases hg : bad + 1 ≥ c.2.1
      · have hA : Sp.num c (bad + 1) 0 = c.2.1 := by
          unfold Sp.num
          rw [if_pos (by omega), if_neg (by omega)]
        rw [if_pos hA] at hfl
        rw [cond_dtt hg]
        unfold Sp.J_5_2
        rw [cond_dff (by omega), deb_J3 ho hr _ _ _ _ _ _ _ hfl]
        simp only [Sp.B_5_1, Sp.B_5_2, Sp.B_5_3]
        rw [hzr, (hpv true).2, hw1]
        exact ih _ hfl
      · have hA : ¬ Sp.num c (bad + 1) 0 = c.2.1 := by
          unfold Sp.num
          rw [if_pos (by omega), if_pos (by omega)]
          omega
        rw [if_neg hA, if_neg hB] at hfl
        rw [cond_dff hg]
        unfold Sp.J_5_2
        rw [cond_dff (by omega), deb_J3 ho hr _ _ _ _ _ _ _ hfl]
        simp only [Sp.B_5_1, Sp.B_5_2, Sp.B_5_3]
        rw [hzr, (hpv true).2, hw1]
        exact ih _ hfl
theorem plain_5 (c : CfT) (l : List Bool) (_ : wfD (.pair (.int .i64) (.pair (.int .i64) (.pair (.int .i64) (.pair (.int .i64) (.pair (.int .i64) (.pair (.int .i64) (.pair .bool (.pair (.int .i64) .unit)))))))) c) (_ : wfD (.slice .bool) l) : F_5 c l = some true := by
  unfold F_5
  rw [aw_pv.1, aw_pv.2, gd_tt, Bool.not_true, cond_f]
  by_cases h1 : (l.length : Int) > 300
  · rw [cond_dtt h1]
  rw [cond_dff h1, (cfg_pv c).1, (cfg_pv c).2, gd_tt]
  cases hc : Sp.cfg c
  · rfl
  have hz := one_new hc
  have hV := new_vf hz
  rw [Bool.not_true, cond_f, (new_pv [c]).1, (new_pv [c]).2, gd_tt]
  unfold Sp.newF
  rw [cond_ett hz]
  dsimp only
  have hb := beg_pv hV.sm
  obtain ⟨e, hv, hr⟩ := beg_next hV rfl (show ¬ (0 : Int) = 1073741824 by decide)
  rw [hb.1, hb.2, gd_tt, cond_nff rfl, cond_nff e]
  have hbv : (Sp.begF ([c], List.replicate [c].length Zd1, 0, false, ())).1 = ([c], mapTo (fun _ => Sp.beg1) 1 [Zd1], 1, true, ()) := by
    unfold Sp.begF
    rw [if_pos (vf_iff.2 hV), if_neg Bool.false_ne_true, if_neg (show ¬ (0 : Int) = 1073741824 by decide)]
    rfl
  rw [hbv] at hv ⊢
  exact deb_loop c l (by omega) l.length 4611686018427387904 0 0 0 false _ (by omega) (by omega) ⟨hv, rfl⟩ rfl (by omega) (by omega) (by omega) (by omega) (Or.inl rfl) rfl (show Sp.sb (Sp.andnI .i64 0 9) 1 = false by decide)
end Go.Ev
