/- Helpers: functions of the program as Lean functions, and what they compute. No condition. -/
import Derived.Test.YtbbpamlijfhebaaE4P2
import Derived.Test.YtbbpamlijfhebaaG4P0
import Derived.Test.YtbbpamlijfhebaaE4P3
import Derived.Test.YtbbpamlijfhebaaG4P1
import Derived.Test.YtbbpamlijfhebaaG4P3
import Derived.Test.YtbbpamlijfhebaaG4P2
import Derived.Test.YtbbpamlijfhebaaG4P4
set_option maxRecDepth 10000
set_option linter.unusedVariables false
set_option linter.unusedSimpArgs false
namespace Go.Ev
open Go
set_option maxRecDepth 100000
set_option maxHeartbeats 4000000
set_option linter.unusedVariables false
noncomputable section

def sm_28 : Nat → Option Summ := fun f => bif Nat.beq f 9 then some s_9 else none


def F_28 (a0 : (Int × (Int × (Int × (Int × (Int × (Int × (Bool × (Int × Unit))))))))) : Option (Bool × Unit) :=
  gd (Sp.p_9 a0) (some (!(Sp.v_9 a0).1, PUnit.unit))
def Sp.p_28 (a0 : (Int × (Int × (Int × (Int × (Int × (Int × (Bool × (Int × Unit))))))))) : Bool := (F_28 a0).isSome
def Sp.v_28 (a0 : (Int × (Int × (Int × (Int × (Int × (Int × (Bool × (Int × Unit))))))))) : Bool × Unit := (F_28 a0).getD (dfH [.bool])
def s_28 : Summ := shN [(.pair (.int .i64) (.pair (.int .i64) (.pair (.int .i64) (.pair (.int .i64) (.pair (.int .i64) (.pair (.int .i64) (.pair .bool (.pair (.int .i64) .unit))))))))] [.bool] (fun x => Sp.p_28 x.1) (fun x => Sp.v_28 x.1)
end
end Go.Ev
set_option linter.unusedSimpArgs false
set_option linter.unusedVariables false
namespace Go.Ev
open Go
set_option maxRecDepth 100000
set_option maxHeartbeats 4000000
abbrev CfT := Int × Int × Int × Int × Int × Int × Bool × Int × Unit
abbrev FaT := Int × Int × Int × Int × Int × List Int × Int × Unit
abbrev FsT := List CfT × List FaT × Int × Bool × Unit
namespace Sp
def inr (x l h : Int) : Bool := decide (x ≥ l) && decide (x ≤ h)
def cfg (c : CfT) : Bool := inr c.1 1 16777215 && (inr c.2.1 1 100 && (inr c.2.2.1 1 100 && (inr c.2.2.2.1 1 100 && (inr c.2.2.2.2.1 c.2.2.2.1 255 && (inr c.2.2.2.2.2.1 0 255 && inr c.2.2.2.2.2.2.2.1 0 8)))))
def val (x : Int) : Bool := inr x (-1099511627776) 1099511627776
def vals (l : List Int) : Bool := (List.range l.length).all fun j => val (l.getD j 0)
/-- A bit of a status. -/
def bt (f : FaT) (k : Int) : Bool := andI .i64 f.1 k == k
def kno (f : FaT) : Bool := decide (f.2.2.2.2.1 ≥ 1) && (decide (f.2.2.1 ≥ 1) && decide (f.2.2.2.2.2.2.1 ≥ 1))
def unk (f : FaT) : Bool := (f.2.2.1 == 0) && ((f.2.2.2.1 == 0) && ((f.2.2.2.2.1 == 0) && (f.2.2.2.2.2.2.1 == 0)))
def q2 (f : FaT) : Bool := !(bt f 2 && (f.2.2.2.1 != 0))
def q1 (c : CfT) (f : FaT) : Bool := (bt f 4 == (f.2.2.1 == 2)) && (!bt f 16 || (bt f 4 && c.2.2.2.2.2.2.1))
def q0 (cyc : Int) (f : FaT) : Bool := !bt f 1 || ((bt f 2 && bt f 8) && (f.2.2.2.2.2.2.1 == cyc))
def rngs (c : CfT) (f : FaT) (cyc : Int) : Bool := inr f.1 0 31 && (inr f.2.1 (0 - c.2.2.1) c.2.1 && (inr f.2.2.1 0 2 && (inr f.2.2.2.1 0 (c.2.2.2.2.1 - 1) && (inr f.2.2.2.2.1 0 255 && inr f.2.2.2.2.2.2.1 0 cyc))))
def frq (c : CfT) (f : FaT) : Bool := (((f.2.2.2.2.2.1.length : Int) == 0) || ((f.2.2.2.2.2.1.length : Int) == c.2.2.2.2.2.2.2.1)) && vals f.2.2.2.2.2.1
def fin (c : CfT) (f : FaT) : Bool := bif bt f 2 || bt f 4 then kno f && ((f.2.2.2.2.2.1.length : Int) == c.2.2.2.2.2.2.2.1) else unk f && ((f.2.2.2.2.2.1.length : Int) == 0)
/-- The state of a fault is valid. -/
def rgt (c : CfT) (f : FaT) (cyc : Int) : Bool := rngs c f cyc && (frq c f && ((q0 cyc f && (q1 c f && q2 f)) && fin c f))
end Sp
theorem inr_iff {x l h : Int} : Sp.inr x l h = true ↔ l ≤ x ∧ x ≤ h := by simp [Sp.inr]
theorem wit_ok (x l h : Int) : F_25 x l h = some (Sp.inr x l h, ()) := by
  unfold F_25 Sp.inr
  cases decide (x ≥ l) <;> rfl
theorem wit_pv (x l h : Int) : Sp.p_25 x l h = true ∧ Sp.v_25 x l h = (Sp.inr x l h, ()) := pv_25 x l h (wit_ok x l h)
theorem cfg_ok (c : CfT) : F_9 c = some (Sp.cfg c, ()) := by
  unfold F_9 Sp.cfg
  simp only [wit_pv, gd_tt]
  cases Sp.inr c.1 1 16777215 <;> try rfl
  cases Sp.inr c.2.1 1 100 <;> try rfl
  cases Sp.inr c.2.2.1 1 100 <;> try rfl
  cases Sp.inr c.2.2.2.1 1 100 <;> try rfl
  cases Sp.inr c.2.2.2.2.1 c.2.2.2.1 255 <;> try rfl
  cases Sp.inr c.2.2.2.2.2.1 0 255 <;> rfl
theorem cfg_pv (c : CfT) : Sp.p_9 c = true ∧ Sp.v_9 c = (Sp.cfg c, ()) := pv_9 c (cfg_ok c)
theorem has_pv (f : FaT) (k : Int) : Sp.p_40 f k = true ∧ Sp.v_40 f k = (Sp.bt f k, ()) := pv_40 f k rfl
/-- Bits of small numbers. -/
theorem tab (P : Int → Bool) (h : (List.range 32).all (fun n => P (n : Int)) = true) {s : Int} (h0 : 0 ≤ s) (h1 : s ≤ 31) : P s = true := by
  obtain ⟨n, rfl⟩ := Int.eq_ofNat_of_zero_le h0
  rw [List.all_eq_true] at h
  exact h n (by rw [List.mem_range]; omega)
theorem bt_ne {s : Int} (h0 : 0 ≤ s) (h1 : s ≤ 31) : ((Sp.andI .i64 s 1 != 0) = (Sp.andI .i64 s 1 == 1) ∧ (Sp.andI .i64 s 2 != 0) = (Sp.andI .i64 s 2 == 2) ∧ (Sp.andI .i64 s 4 != 0) = (Sp.andI .i64 s 4 == 4)) ∧ ((Sp.andI .i64 s 8 != 0) = (Sp.andI .i64 s 8 == 8) ∧ (Sp.andI .i64 s 16 != 0) = (Sp.andI .i64 s 16 == 16)) ∧ (Sp.andI .i64 s 10 == 10) = ((Sp.andI .i64 s 2 == 2) && (Sp.andI .i64 s 8 == 8)) ∧ (Sp.andI .i64 s 6 != 0) = ((Sp.andI .i64 s 2 == 2) || (Sp.andI .i64 s 4 == 4)) := by
  have := tab (fun s => ((((Sp.andI .i64 s 1 != 0) == (Sp.andI .i64 s 1 == 1)) && ((Sp.andI .i64 s 2 != 0) == (Sp.andI .i64 s 2 == 2)) && ((Sp.andI .i64 s 4 != 0) == (Sp.andI .i64 s 4 == 4)))) && ((((Sp.andI .i64 s 8 != 0) == (Sp.andI .i64 s 8 == 8)) && ((Sp.andI .i64 s 16 != 0) == (Sp.andI .i64 s 16 == 16)))) && ((Sp.andI .i64 s 10 == 10) == ((Sp.andI .i64 s 2 == 2) && (Sp.andI .i64 s 8 == 8))) && ((Sp.andI .i64 s 6 != 0) == ((Sp.andI .i64 s 2 == 2) || (Sp.andI .i64 s 4 == 4)))) (by decide +kernel) h0 h1
  simp only [Bool.and_eq_true, beq_iff_eq] at this
  exact ⟨⟨this.1.1.1.1.1, this.1.1.1.1.2, this.1.1.1.2⟩, this.1.1.2, this.1.2, this.2⟩
end Go.Ev
set_option linter.unusedSimpArgs false
set_option linter.unusedVariables false
namespace Go.Ev
open Go
set_option maxRecDepth 100000
set_option maxHeartbeats 4000000
theorem fnd_all (P : Nat → Bool) (n : Nat) : (fnd (fun j => !P j) n 0 = none) ↔ (List.range n).all P = true := by
  rw [fnd_none, List.all_eq_true]
  constructor
  · intro h x hx
    have := h x (by omega) (by rw [List.mem_range] at hx; omega)
    simpa using this
  · intro h i _ hi
    rw [h i (by rw [List.mem_range]; omega)]
    rfl
namespace Sp
def frm (c : CfT) (l : List Int) : Bool := ((l.length : Int) == c.2.2.2.2.2.2.2.1) && vals l
def cfgs (l : List CfT) : Bool := (List.range l.length).all fun j => cfg (l.getD j Zd0)
def rgts (F : FsT) : Bool := (List.range F.2.1.length).all fun j => rgt (F.1.getD j Zd0) (F.2.1.getD j Zd1) F.2.2.1
/-- A state is valid. -/
def vf (F : FsT) : Bool := decide (F.1.length ≤ 64) && (cfgs F.1 && (dst (F.1.map fun c => c.1) && (((F.2.1.length : Int) == F.1.length) && (inr F.2.2.1 0 1073741824 && ((!F.2.2.2.1 || decide (F.2.2.1 ≥ 1)) && rgts F)))))
end Sp
theorem val_pv (x : Int) : Sp.p_50 x = true ∧ Sp.v_50 x = (Sp.val x, ()) := by
  refine pv_50 x ?_
  unfold F_50
  rw [(wit_pv _ _ _).1, (wit_pv _ _ _).2, gd_tt]
  rfl
theorem frm_ok (c : CfT) (l : List Int) (h : l.length < 4611686018427387904) : F_36 c l = some (Sp.frm c l, ()) := by
  unfold F_36 Sp.frm
  cases (l.length : Int) == c.2.2.2.2.2.2.2.1
  · rfl
  have hf := find0 (fun m i => Sp.L_36_52_0_0 m l l.length i c) (n := l.length) (fun j => !Sp.val (l.getD j 0)) (ex := fun j => some (.e0 (j : Int) c)) (e1 := some (.e1 c)) h (fun m j hj => by
    show Sp.L_36_52_0_0 (m + 1) l l.length j c = bif !Sp.val (l.getD j 0) then some (.e0 (j : Int) c) else Sp.L_36_52_0_0 m l l.length ((j + 1 : Nat) : Int) c
    rw [Sp.L_36_52_0_0, cond_dtt (by omega), gd_inB (by omega) (by omega), Int.toNat_natCast, (val_pv _).1, (val_pv _).2, gd_tt, wi64 (by omega) (by omega)]
    push_cast
    rfl) (fun m => by
    show Sp.L_36_52_0_0 (m + 1) l l.length l.length c = _
    rw [Sp.L_36_52_0_0, cond_dff (by omega)])
  rw [hf, cond_t]
  cases hk : fnd (fun j => !Sp.val (l.getD j 0)) l.length 0 with
  | none =>
    have : Sp.vals l = true := (fnd_all (fun j => Sp.val (l.getD j 0)) l.length).1 hk
    rw [this]
    rfl
  | some k =>
    have : Sp.vals l = false := by
      cases hv : Sp.vals l
      · rfl
      · have := (fnd_all (fun j => Sp.val (l.getD j 0)) l.length).2 hv
        rw [this] at hk; cases hk
    rw [this]
    simp only [Sp.B_36_52_0_0]
    rw [decide_eq_true (by omega)]
    rfl
theorem frm_pv (c : CfT) (l : List Int) (h : l.length < 4611686018427387904) : Sp.p_36 c l = true ∧ Sp.v_36 c l = (Sp.frm c l, ()) := pv_36 c l (frm_ok c l h)
section
variable {c : CfT} {f : FaT} {cyc : Int}
theorem kn_pv (h0 : 0 ≤ f.1) (h1 : f.1 ≤ 31) : Sp.p_43 f = true ∧ Sp.v_43 f = (Sp.bt f 2 || Sp.bt f 4, ()) := by
  refine pv_43 f ?_
  unfold F_43 Sp.bt
  rw [(bt_ne h0 h1).2.2.2]
theorem bt10 (h0 : 0 ≤ f.1) (h1 : f.1 ≤ 31) : Sp.bt f 10 = (Sp.bt f 2 && Sp.bt f 8) := (bt_ne h0 h1).2.2.1
theorem gJ3 (h0 : 0 ≤ f.1) (h1 : f.1 ≤ 31) : Sp.J_32_3 c f = some (bif Sp.bt f 2 || Sp.bt f 4 then (bif Sp.kno f then .e0 c f else .e1) else .e2 c f) := by
  unfold Sp.J_32_3 Sp.kno
  rw [(kn_pv h0 h1).1, (kn_pv h0 h1).2, gd_tt]
  cases Sp.bt f 2 || Sp.bt f 4 <;> try rfl
  cases decide (f.2.2.2.2.1 ≥ 1) <;> try rfl
  cases decide (f.2.2.1 ≥ 1) <;> try rfl
  cases decide (f.2.2.2.2.2.2.1 ≥ 1) <;> rfl
theorem gJ2 (h0 : 0 ≤ f.1) (h1 : f.1 ≤ 31) : Sp.J_32_2 c f = some (bif Sp.q2 f then (bif Sp.bt f 2 || Sp.bt f 4 then (bif Sp.kno f then .e1 c f else .e0) else .e2 c f) else .e0) := by
  unfold Sp.J_32_2 Sp.q2
  simp only [has_pv, gd_tt, gJ3 h0 h1]
  cases Sp.bt f 2 <;> cases f.2.2.2.1 != 0 <;> cases Sp.bt f 4 <;> cases Sp.kno f <;> rfl
theorem gJ1 (h0 : 0 ≤ f.1) (h1 : f.1 ≤ 31) : Sp.J_32_1 c f = some (bif Sp.q1 c f && Sp.q2 f then (bif Sp.bt f 2 || Sp.bt f 4 then (bif Sp.kno f then .e1 c f else .e0) else .e2 c f) else .e0) := by
  unfold Sp.J_32_1 Sp.q1
  simp only [has_pv, gd_tt, gJ2 h0 h1]
  cases Sp.bt f 4 <;> cases f.2.2.1 == 2 <;> cases Sp.bt f 16 <;> cases c.2.2.2.2.2.2.1 <;> cases Sp.q2 f <;> cases Sp.bt f 2 <;> cases Sp.kno f <;> rfl
theorem gJ0 (h0 : 0 ≤ f.1) (h1 : f.1 ≤ 31) : Sp.J_32_0 cyc c f = some (bif Sp.q0 cyc f && (Sp.q1 c f && Sp.q2 f) then (bif Sp.bt f 2 || Sp.bt f 4 then (bif Sp.kno f then .e1 c f else .e0) else bif Sp.unk f then .e2 f else .e0) else .e0) := by
  unfold Sp.J_32_0 Sp.q0 Sp.unk
  simp only [has_pv, gd_tt, gJ1 h0 h1, bt10 h0 h1]
  have hz : ∀ x y : Int, (bif !(x == y) then (some (Sp.E_32_0.e0) : Option Sp.E_32_0) else none) = (bif x != y then some (Sp.E_32_0.e0) else none) := fun _ _ => rfl
  cases e1 : f.2.2.1 == 0 <;> cases e2 : f.2.2.2.1 == 0 <;> cases e3 : f.2.2.2.2.1 == 0 <;> cases e4 : f.2.2.2.2.2.2.1 == 0 <;> cases e5 : f.2.2.2.2.2.2.1 == cyc <;> cases Sp.q1 c f && Sp.q2 f <;> cases Sp.bt f 1 <;> cases Sp.bt f 2 <;> cases Sp.bt f 8 <;> cases Sp.bt f 4 <;> cases Sp.kno f <;> simp only [bne, e1, e2, e3, e4, e5, Sp.B_32_1, Bool.not_true, Bool.not_false, cond_true, cond_false, Bool.and_true, Bool.and_false, Bool.true_and, Bool.false_and, Bool.or_true, Bool.or_false, Bool.true_or, Bool.false_or]
theorem right_ok (hc : Sp.cfg c = true) (hfr : f.2.2.2.2.2.1.length < 4611686018427387904) : F_32 c f cyc = some (Sp.rgt c f cyc, ()) := by
  simp only [Sp.cfg, Bool.and_eq_true, inr_iff] at hc
  unfold F_32 Sp.rgt Sp.rngs
  simp only [wit_pv, gd_tt]
  rw [wi64 (n := 0 - c.2.2.1) (by omega) (by omega), wi64 (n := c.2.2.2.2.1 - 1) (by omega) (by omega)]
  cases h1 : Sp.inr f.1 0 31
  · rfl
  have hb := inr_iff.1 h1
  cases Sp.inr f.2.1 (0 - c.2.2.1) c.2.1
  · rfl
  cases Sp.inr f.2.2.1 0 2
  · rfl
  cases Sp.inr f.2.2.2.1 0 (c.2.2.2.2.1 - 1)
  · rfl
  cases Sp.inr f.2.2.2.2.1 0 255
  · rfl
  cases Sp.inr f.2.2.2.2.2.2.1 0 cyc
  · rfl
  simp only [Bool.not_true, cond_f, Bool.and_true, Bool.true_and]
  simp only [frm_pv _ _ hfr, gd_tt, gJ0 hb.1 hb.2]
  unfold Sp.frq Sp.fin Sp.frm
  by_cases hl : f.2.2.2.2.2.1 = []
  · have hv : Sp.vals f.2.2.2.2.2.1 = true := by rw [hl]; rfl
    have hz : ((f.2.2.2.2.2.1.length : Int) == 0) = true := by rw [hl]; rfl
    rw [cond_dff (by rw [hl]; decide), hv, hz]
    cases e1 : ((f.2.2.2.2.2.1.length : Int) == c.2.2.2.2.2.2.2.1) <;> cases Sp.bt f 2 <;> cases Sp.bt f 4 <;> cases Sp.q0 cyc f && (Sp.q1 c f && Sp.q2 f) <;> cases Sp.kno f <;> cases Sp.unk f <;> simp only [bne, hz, e1, Sp.B_32_0, Bool.not_true, Bool.not_false, cond_true, cond_false, Bool.and_true, Bool.and_false, Bool.true_and, Bool.false_and, Bool.or_true, Bool.or_false, Bool.true_or, Bool.false_or]
  · have hp : 0 < f.2.2.2.2.2.1.length := List.length_pos_iff.2 hl
    have hz : ((f.2.2.2.2.2.1.length : Int) == 0) = false := beq_eq_false_iff_ne.2 (by omega)
    rw [cond_dtt (by omega), hz]
    cases e1 : ((f.2.2.2.2.2.1.length : Int) == c.2.2.2.2.2.2.2.1) <;> cases Sp.vals f.2.2.2.2.2.1 <;> cases Sp.bt f 2 <;> cases Sp.bt f 4 <;> cases Sp.q0 cyc f && (Sp.q1 c f && Sp.q2 f) <;> cases Sp.kno f <;> cases Sp.unk f <;> simp only [bne, hz, e1, Sp.B_32_0, Bool.not_true, Bool.not_false, cond_true, cond_false, Bool.and_true, Bool.and_false, Bool.true_and, Bool.false_and, Bool.or_true, Bool.or_false, Bool.true_or, Bool.false_or]
theorem right_pv (hc : Sp.cfg c = true) (hfr : f.2.2.2.2.2.1.length < 4611686018427387904) : Sp.p_32 c f cyc = true ∧ Sp.v_32 c f cyc = (Sp.rgt c f cyc, ()) := pv_32 c f cyc (right_ok hc hfr)
end
/-- Memory is not great. -/
structure Sm (F : FsT) : Prop where
  l : F.2.1.length < 4611686018427387904
  f : ∀ j, j < F.2.1.length → (F.2.1.getD j Zd1).2.2.2.2.2.1.length < 4611686018427387904
theorem cfgs_at {l : List CfT} (h : Sp.cfgs l = true) {j : Nat} (hj : j < l.length) : Sp.cfg (l.getD j Zd0) = true := by
  unfold Sp.cfgs at h
  rw [List.all_eq_true] at h
  exact h j (by rw [List.mem_range]; exact hj)
theorem vJ0 {F : FsT} (hs : Sm F) (hc : Sp.cfgs F.1 = true) (hl : F.2.1.length = F.1.length) : Sp.J_15_0 F = some (bif Sp.rgts F then .e1 else .e0) := by
  have := all0 (fun m i => Sp.L_15_1 m F.2.1 F.2.1.length i F) (n := F.2.1.length) (fun j => Sp.rgt (F.1.getD j Zd0) (F.2.1.getD j Zd1) F.2.2.1) (e0 := some .e0) (e1 := some .e1) hs.l (fun m j hj => by
    show Sp.L_15_1 (m + 1) F.2.1 F.2.1.length j F = bif Sp.rgt (F.1.getD j Zd0) (F.2.1.getD j Zd1) F.2.2.1 then Sp.L_15_1 m F.2.1 F.2.1.length ((j + 1 : Nat) : Int) F else some .e0
    have hr := right_pv (cyc := F.2.2.1) (cfgs_at hc (j := j) (by omega)) (hs.f j hj)
    rw [Sp.L_15_1, cond_dtt (by omega), gd_inB (by omega) (by omega), gd_inB (by omega) (by omega), Int.toNat_natCast, hr.1, hr.2, gd_tt, wi64 (by have := hs.l; omega) (by have := hs.l; omega)]
    push_cast
    cases Sp.rgt (F.1.getD j Zd0) (F.2.1.getD j Zd1) F.2.2.1 <;> rfl) (fun m => by
    show Sp.L_15_1 (m + 1) F.2.1 F.2.1.length F.2.1.length F = _
    rw [Sp.L_15_1, cond_dff (by omega)])
  unfold Sp.J_15_0
  rw [this]
  unfold Sp.rgts
  cases (List.range F.2.1.length).all fun j => Sp.rgt (F.1.getD j Zd0) (F.2.1.getD j Zd1) F.2.2.1 <;> rfl
theorem vf_ok {F : FsT} (hs : Sm F) : F_15 F = some (Sp.vf F, ()) := by
  unfold F_15 Sp.vf
  by_cases h1 : (F.1.length : Int) > 64
  · rw [cond_dtt h1, decide_eq_false (by omega)]; rfl
  rw [cond_dff h1, decide_eq_true (p := F.1.length ≤ 64) (by omega), Bool.true_and]
  have hf := find0 (fun m i => Sp.L_15_41_0_0 m F.1 F.1.length i F) (n := F.1.length) (fun j => !Sp.cfg (F.1.getD j Zd0)) (ex := fun j => some (.e0 (j : Int) F)) (e1 := some (.e1 F)) (by omega) (fun m j hj => by
    show Sp.L_15_41_0_0 (m + 1) F.1 F.1.length j F = bif !Sp.cfg (F.1.getD j Zd0) then some (.e0 (j : Int) F) else Sp.L_15_41_0_0 m F.1 F.1.length ((j + 1 : Nat) : Int) F
    rw [Sp.L_15_41_0_0, cond_dtt (by omega), gd_inB (by omega) (by omega), Int.toNat_natCast, (cfg_pv _).1, (cfg_pv _).2, gd_tt, wi64 (by omega) (by omega)]
    push_cast
    rfl) (fun m => by
    show Sp.L_15_41_0_0 (m + 1) F.1 F.1.length F.1.length F = _
    rw [Sp.L_15_41_0_0, cond_dff (by omega)])
  rw [hf]
  cases hk : fnd (fun j => !Sp.cfg (F.1.getD j Zd0)) F.1.length 0 with
  | some k =>
    have : Sp.cfgs F.1 = false := by
      cases hv : Sp.cfgs F.1
      · rfl
      · have := (fnd_all (fun j => Sp.cfg (F.1.getD j Zd0)) F.1.length).2 hv
        rw [this] at hk; cases hk
    rw [this]
    simp only [Sp.B_15_41_0_0]
    rw [cond_dtt (by omega)]
    rfl
  | none =>
    have hc : Sp.cfgs F.1 = true := (fnd_all (fun j => Sp.cfg (F.1.getD j Zd0)) F.1.length).1 hk
    rw [hc]
    simp only [Sp.B_15_41_0_0, Bool.true_and]
    have em : (List.map (fun (y : Ty.den CfgTy) => Prod.fst y) F.1) = (F.1.map fun c => c.1) := rfl
    rw [em]
    cases Sp.dst (F.1.map fun c => c.1)
    · rfl
    simp only [Bool.not_true, cond_f, Bool.true_and]
    by_cases hl : (F.2.1.length : Int) = (F.1.length : Int)
    rotate_left
    · rw [cond_ntt hl, beq_eq_false_iff_ne.2 hl]; rfl
    rw [cond_nff hl, beq_iff_eq.2 hl, Bool.true_and, (wit_pv _ _ _).1, (wit_pv _ _ _).2, gd_tt]
    cases Sp.inr F.2.2.1 0 1073741824
    · rfl
    simp only [Bool.not_true, cond_f, Bool.true_and]
    rw [vJ0 hs hc (by omega)]
    cases F.2.2.2.1
    · cases Sp.rgts F <;> rfl
    · by_cases hy : F.2.2.1 < 1
      · rw [cond_t, cond_dtt hy, decide_eq_false (by omega)]
        rfl
      · rw [cond_t, cond_dff hy, decide_eq_true (p := F.2.2.1 ≥ 1) (by omega)]
        cases Sp.rgts F <;> rfl
theorem vf_pv {F : FsT} (hs : Sm F) : Sp.p_15 F = true ∧ Sp.v_15 F = (Sp.vf F, ()) := pv_15 F (vf_ok hs)
end Go.Ev
set_option linter.unusedSimpArgs false
set_option linter.unusedVariables false
namespace Go.Ev
open Go
set_option maxRecDepth 100000
set_option maxHeartbeats 4000000
theorem gs {α : Type} {l : List α} {i : Nat} {x d : α} (h : i < l.length) : (l.set i x).getD i d = x := by
  simp [List.getD_eq_getElem?_getD, h]
theorem sg {α : Type} {l : List α} {i : Nat} (d : α) (h : i < l.length) : l.set i (l.getD i d) = l := by
  rw [getD_at d h]
  exact List.set_getElem_self h
theorem getD_set {α : Type} (l : List α) (i j : Nat) (x d : α) (h : i < l.length) : (l.set i x).getD j d = if i = j then x else l.getD j d := by
  simp only [List.getD_eq_getElem?_getD, List.getElem?_set]
  split
  · simp [h]
  · rfl
/-- A list that is changed from its beginning on. -/
def mapTo {α : Type} (g : Nat → α → α) (n : Nat) (l : List α) : List α := l.mapIdx fun i x => if i < n then g i x else x
section
variable {α : Type} {g : Nat → α → α} {l : List α} {d : α}
theorem mapTo_len (n : Nat) : (mapTo g n l).length = l.length := by simp [mapTo]
theorem mapTo_get (n : Nat) {i : Nat} (h : i < l.length) : (mapTo g n l).getD i d = if i < n then g i (l.getD i d) else l.getD i d := by
  rw [getD_at d (by rw [mapTo_len]; exact h), getD_at d h]
  simp [mapTo]
theorem mapTo_zero : mapTo g 0 l = l := by
  cases l with
  | nil => rfl
  | cons a l =>
    refine list_ext a (mapTo_len 0) fun j hj => ?_
    rw [mapTo_len] at hj
    rw [mapTo_get 0 hj, if_neg (by omega)]
theorem mapTo_succ {n : Nat} (h : n < l.length) : (mapTo g n l).set n (g n (l.getD n d)) = mapTo g (n + 1) l := by
  refine list_ext d (by rw [List.length_set, mapTo_len, mapTo_len]) fun j hj => ?_
  rw [List.length_set, mapTo_len] at hj
  rw [getD_set _ _ _ _ _ (by rw [mapTo_len]; exact h), mapTo_get _ hj, mapTo_get _ hj]
  split
  · subst j
    rw [if_pos (by omega)]
  · by_cases hh : j < n
    · rw [if_pos hh, if_pos (by omega)]
    · rw [if_neg hh, if_neg (by omega)]
end
namespace Sp
def beg1 (f : FaT) : FaT := (andnI .i64 f.1 9, 0, f.2.2)
def fg1 (f : FaT) : FaT := (8, f.2.1, 0, 0, 0, [], 0, ())
def end1 (c : CfT) (cyc : Int) (f : FaT) : FaT :=
  if bt f 8 = true ∧ ¬ f.2.2.2.2.2.2.1 = cyc then
    if bt (andnI .i64 f.1 2, f.2) 4 = true then
      if f.2.2.2.1 + 1 = c.2.2.2.2.1 then fg1 f else
      if f.2.2.2.1 + 1 ≥ c.2.2.2.1 then (andnI .i64 (andnI .i64 f.1 2) 16, f.2.1, f.2.2.1, f.2.2.2.1 + 1, f.2.2.2.2) else (andnI .i64 f.1 2, f.2.1, f.2.2.1, f.2.2.2.1 + 1, f.2.2.2.2)
    else fg1 f
  else f
def err (e : Int) : FsT × Int × Unit := (([], [], 0, false, ()), e, ())
def begF (F : FsT) : FsT × Int × Unit := if vf F = true then (if F.2.2.2.1 = true then err 6 else if F.2.2.1 = 1073741824 then err 9 else ((F.1, mapTo (fun _ => beg1) F.2.1.length F.2.1, F.2.2.1 + 1, true, ()), 0, ())) else err 1
def endF (F : FsT) : FsT × Int × Unit := if vf F = true then (if F.2.2.2.1 = true then ((F.1, mapTo (fun j => end1 (F.1.getD j Zd0) F.2.2.1) F.2.1.length F.2.1, F.2.2.1, false, ()), 0, ()) else err 6) else err 1
end Sp
/-- What valid states have. -/
structure Vf (F : FsT) : Prop where
  n : F.1.length ≤ 64
  c : Sp.cfgs F.1 = true
  d : Sp.dst (F.1.map fun c => c.1) = true
  l : F.2.1.length = F.1.length
  y0 : 0 ≤ F.2.2.1
  y1 : F.2.2.1 ≤ 1073741824
  run : F.2.2.2.1 = true → 1 ≤ F.2.2.1
  r : ∀ j, j < F.1.length → Sp.rgt (F.1.getD j Zd0) (F.2.1.getD j Zd1) F.2.2.1 = true
theorem vf_iff {F : FsT} : Sp.vf F = true ↔ Vf F := by
  unfold Sp.vf Sp.rgts
  simp only [Bool.and_eq_true, decide_eq_true_eq, beq_iff_eq, inr_iff, Bool.or_eq_true, Bool.not_eq_true', List.all_eq_true, List.mem_range]
  constructor
  · rintro ⟨a, b, c, d, e, f, g⟩
    refine ⟨a, b, c, by omega, e.1, e.2, fun h => ?_, fun j hj => g j (by omega)⟩
    rcases f with f | f
    · rw [h] at f; cases f
    · omega
  · intro h
    refine ⟨h.n, h.c, h.d, by have := h.l; omega, ⟨h.y0, h.y1⟩, ?_, fun j hj => h.r j (by have := h.l; omega)⟩
    cases hr : F.2.2.2.1
    · exact Or.inl rfl
    · exact Or.inr (by have := h.run hr; omega)
theorem vals_len {c : CfT} {f : FaT} {cyc : Int} (hc : Sp.cfg c = true) (h : Sp.rgt c f cyc = true) : f.2.2.2.2.2.1.length ≤ 8 := by
  simp only [Sp.rgt, Sp.frq, Sp.cfg, Bool.and_eq_true, inr_iff, Bool.or_eq_true, beq_iff_eq] at h hc
  have := h.2.1.1
  omega
theorem rgt_b {c : CfT} {f : FaT} {cyc : Int} (h : Sp.rgt c f cyc = true) : (0 ≤ f.1 ∧ f.1 ≤ 31) ∧ (0 - c.2.2.1 ≤ f.2.1 ∧ f.2.1 ≤ c.2.1) ∧ (0 ≤ f.2.2.1 ∧ f.2.2.1 ≤ 2) ∧ (0 ≤ f.2.2.2.1 ∧ f.2.2.2.1 ≤ c.2.2.2.2.1 - 1) ∧ (0 ≤ f.2.2.2.2.1 ∧ f.2.2.2.2.1 ≤ 255) ∧ (0 ≤ f.2.2.2.2.2.2.1 ∧ f.2.2.2.2.2.2.1 ≤ cyc) := by
  simp only [Sp.rgt, Sp.rngs, Bool.and_eq_true, inr_iff] at h
  exact h.1
theorem Vf.cf {F : FsT} (h : Vf F) {j : Nat} (hj : j < F.1.length) : Sp.cfg (F.1.getD j Zd0) = true := cfgs_at h.c hj
theorem Vf.fl {F : FsT} (h : Vf F) {j : Nat} (hj : j < F.1.length) : (F.2.1.getD j Zd1).2.2.2.2.2.1.length ≤ 8 := vals_len (h.cf hj) (h.r j hj)
theorem Vf.sm {F : FsT} (h : Vf F) : Sm F := ⟨by have := h.l; have := h.n; omega, fun j hj => by have := h.fl (j := j) (by have := h.l; omega); omega⟩
theorem beg_copy {F : FsT} (h : Vf F) (p2 : FsT) (p3 p5 p7 : Int × Bool × Unit) (p4 p8 : List CfT) (p9 : List FaT) : Sp.L_19_35_0_0 4611686018427387904 F.2.1.length 0 p2 p3 p4 p5 F.2.1 p7 p8 p9 = some (.e0 p2 p3 p4 p5 F.2.1 p7 p8 p9) := by
  have h1 := run0 (fun m i (_ : Unit) => Sp.L_19_35_0_0 m F.2.1.length i p2 p3 p4 p5 F.2.1 p7 p8 p9) (n := F.2.1.length) (fun _ => ()) (r := some (.e0 p2 p3 p4 p5 F.2.1 p7 p8 p9)) h.sm.l (fun m j hj => by
    show Sp.L_19_35_0_0 (m + 1) F.2.1.length (j : Int) p2 p3 p4 p5 F.2.1 p7 p8 p9 = Sp.L_19_35_0_0 m F.2.1.length ((j + 1 : Nat) : Int) p2 p3 p4 p5 F.2.1 p7 p8 p9
    have hl := h.l
    have hn := h.n
    have hf := h.fl (j := j) (by omega)
    rw [Sp.L_19_35_0_0, cond_dtt (by omega)]
    simp only [gd_inB (show (0 : Int) ≤ (j : Int) by omega) (show (j : Int) < ((F.2.1.length : Nat) : Int) by omega), Int.toNat_natCast, Bool.and_true, gd_dec hj]
    rw [gd_room (by omega) (by omega), wi64 (by omega) (by omega)]
    have e : F.2.1.set j (F.2.1.getD j Zd1) = F.2.1 := sg _ hj
    push_cast
    exact congrArg (fun L => Sp.L_19_35_0_0 m F.2.1.length ((j : Int) + 1) p2 p3 p4 p5 L p7 p8 p9) e) (fun m => by
    show Sp.L_19_35_0_0 (m + 1) F.2.1.length F.2.1.length p2 p3 p4 p5 F.2.1 p7 p8 p9 = _
    rw [Sp.L_19_35_0_0, cond_dff (by omega)])
  exact h1
theorem beg_ok {F : FsT} (hs : Sm F) : F_19 F = some (Sp.begF F) := by
  unfold F_19 Sp.begF
  rw [(vf_pv hs).1, (vf_pv hs).2, gd_tt]
  cases hv : Sp.vf F
  · rfl
  have h := vf_iff.1 hv
  have hl := h.l
  have hn := h.n
  have hy0 := h.y0
  have hy1 := h.y1
  rw [if_pos rfl, Bool.not_true, cond_f]
  cases hr : F.2.2.2.1
  rotate_left
  · rfl
  rw [cond_f, if_neg (by decide)]
  by_cases hb : F.2.2.1 = 1073741824
  · rw [cond_ett hb, if_pos hb]; rfl
  rw [cond_eff hb, if_neg hb, gd_room (by omega) (by omega), beg_copy h]
  simp only [Sp.B_19_35_0_0]
  have h2 := run0 (fun m i L => Sp.L_19_0 m F.2.1.length i F.1 (F.2.2.1 + 1, true, ()) L (0, false, ()) [] []) (n := F.2.1.length) (fun j => mapTo (fun _ => Sp.beg1) j F.2.1) (r := some (.e0 F.1 (F.2.2.1 + 1, true, ()) (mapTo (fun _ => Sp.beg1) F.2.1.length F.2.1) (0, false, ()) [] [])) h.sm.l (fun m j hj => by
    show Sp.L_19_0 (m + 1) F.2.1.length (j : Int) F.1 (F.2.2.1 + 1, true, ()) (mapTo (fun _ => Sp.beg1) j F.2.1) (0, false, ()) [] [] = Sp.L_19_0 m F.2.1.length ((j + 1 : Nat) : Int) F.1 (F.2.2.1 + 1, true, ()) (mapTo (fun _ => Sp.beg1) (j + 1) F.2.1) (0, false, ()) [] []
    have hj' : j < (mapTo (fun _ => Sp.beg1) j F.2.1).length := by rw [mapTo_len]; exact hj
    have hx : (mapTo (fun _ => Sp.beg1) j F.2.1).getD j Zd1 = F.2.1.getD j Zd1 := by rw [mapTo_get _ hj, if_neg (by omega)]
    rw [← mapTo_succ (d := Zd1) hj, Sp.L_19_0, cond_dtt (by omega)]
    generalize mapTo (fun _ => Sp.beg1) j F.2.1 = L at *
    rw [gd_inB (by omega) (by omega)]
    simp only [Int.toNat_natCast, Bool.and_true, gd_dec hj', List.length_set, gs hj', List.set_set, hx]
    rw [wi64 (by omega) (by omega)]
    push_cast
    rfl) (fun m => by
    show Sp.L_19_0 (m + 1) F.2.1.length F.2.1.length F.1 (F.2.2.1 + 1, true, ()) _ (0, false, ()) [] [] = _
    rw [Sp.L_19_0, cond_dff (by omega)])
  rw [mapTo_zero] at h2
  have e2 : Sp.L_19_0 4611686018427387904 F.2.1.length 0 F.1 (F.2.2.1 + 1, true, ()) F.2.1 (0, false, ()) [] [] = _ := h2
  rw [wi64 (by omega) (by omega)]
  have eu : ((F.2.2.1 + 1, true, F.2.2.2.2) : Int × Bool × Unit) = (F.2.2.1 + 1, true, ()) := rfl
  have eu2 : (Sp.L_19_0 4611686018427387904 F.2.1.length 0 F.1 (F.2.2.1 + 1, true, F.2.2.2.2) F.2.1 (0, false, ()) [] []) = _ := h2
  rw [eu2]
  rfl
theorem beg_pv {F : FsT} (hs : Sm F) : Sp.p_19 F = true ∧ Sp.v_19 F = Sp.begF F := pv_19 F (beg_ok hs)
theorem end_copy {F : FsT} (h : Vf F) (p2 : FsT) (p3 p5 p7 : Int × Bool × Unit) (p4 p8 : List CfT) (p9 : List FaT) : Sp.L_33_35_0_0 4611686018427387904 F.2.1.length 0 p2 p3 p4 p5 F.2.1 p7 p8 p9 = some (.e0 p2 p3 p4 p5 F.2.1 p7 p8 p9) := by
  have h1 := run0 (fun m i (_ : Unit) => Sp.L_33_35_0_0 m F.2.1.length i p2 p3 p4 p5 F.2.1 p7 p8 p9) (n := F.2.1.length) (fun _ => ()) (r := some (.e0 p2 p3 p4 p5 F.2.1 p7 p8 p9)) h.sm.l (fun m j hj => by
    show Sp.L_33_35_0_0 (m + 1) F.2.1.length (j : Int) p2 p3 p4 p5 F.2.1 p7 p8 p9 = Sp.L_33_35_0_0 m F.2.1.length ((j + 1 : Nat) : Int) p2 p3 p4 p5 F.2.1 p7 p8 p9
    have hl := h.l
    have hn := h.n
    have hf := h.fl (j := j) (by omega)
    rw [Sp.L_33_35_0_0, cond_dtt (by omega)]
    simp only [gd_inB (show (0 : Int) ≤ (j : Int) by omega) (show (j : Int) < ((F.2.1.length : Nat) : Int) by omega), Int.toNat_natCast, Bool.and_true, gd_dec hj]
    rw [gd_room (by omega) (by omega), wi64 (by omega) (by omega)]
    have e : F.2.1.set j (F.2.1.getD j Zd1) = F.2.1 := sg _ hj
    push_cast
    exact congrArg (fun L => Sp.L_33_35_0_0 m F.2.1.length ((j : Int) + 1) p2 p3 p4 p5 L p7 p8 p9) e) (fun m => by
    show Sp.L_33_35_0_0 (m + 1) F.2.1.length F.2.1.length p2 p3 p4 p5 F.2.1 p7 p8 p9 = _
    rw [Sp.L_33_35_0_0, cond_dff (by omega)])
  exact h1
theorem end_step {m j : Nat} {C : List CfT} {L : List FaT} {cy : Int × Bool × Unit} {n : Int} {z : Int × Bool × Unit} {z1 : List CfT} {z2 : List FaT} (hj : j < L.length) (hjn : (j : Int) < n) (hc : j < C.length) (hb : j < 4611686018427387904) (hcl : -1000000 ≤ (L.getD j Zd1).2.2.2.1) (hcl2 : (L.getD j Zd1).2.2.2.1 ≤ 1000000) :
    Sp.L_33_0 (m + 1) n (j : Int) C cy L z z1 z2 = Sp.L_33_0 m n ((j + 1 : Nat) : Int) C cy (L.set j (Sp.end1 (C.getD j Zd0) cy.1 (L.getD j Zd1))) z z1 z2 := by
  rw [Sp.L_33_0, cond_dtt hjn, gd_inB (by omega) (by omega)]
  have e0 : L.set j (L.getD j Zd1) = L := sg _ hj
  simp only [Int.toNat_natCast, Bool.and_true, gd_dec hj, has_pv, gd_tt, List.length_set, gs hj, Bool.not_not, Sp.J_33_1, gd_inB (show (0 : Int) ≤ (j : Int) by omega) (show (j : Int) < (C.length : Nat) by omega), List.set_set]
  unfold Sp.end1
  have hj1 : ((j + 1 : Nat) : Int) = (j : Int) + 1 := by omega
  rw [hj1]
  generalize C.getD j Zd0 = c at *
  generalize hx : L.getD j Zd1 = x at *
  have hw := wi64 (n := (j : Int) + 1) (by omega) (by omega)
  rw [wi64 (n := x.2.2.2.1 + 1) (by omega) (by omega)]
  cases h1 : Sp.bt x 8
  · simp [e0, hw]
  rw [Bool.not_true, cond_f]
  by_cases h2 : x.2.2.2.2.2.2.1 = cy.1
  · rw [cond_ett h2, if_neg (by simp [h2]), e0, hw]
  rw [cond_eff h2, if_pos ⟨rfl, h2⟩]
  cases h3 : Sp.bt (Sp.andnI .i64 x.1 2, x.2) 4
  · simp only [cond_f, Bool.not_false, cond_t, Sp.B_33_1, gs hj, List.set_set, hw, if_true, Bool.false_eq_true, if_false]
    rfl
  simp only [cond_t, Bool.not_true, cond_f]
  by_cases h4 : x.2.2.2.1 + 1 = c.2.2.2.2.1
  · simp only [cond_ett h4, Sp.B_33_1, gs hj, List.set_set, hw, if_true, if_pos h4]
    rfl
  simp only [cond_eff h4, if_neg h4]
  by_cases h5 : x.2.2.2.1 + 1 ≥ c.2.2.2.1
  · simp only [cond_dtt h5, Sp.B_33_1, gs hj, List.set_set, hw, if_true, if_pos h5]
  · simp only [cond_dff h5, Sp.B_33_1, hw, if_true, if_neg h5]
theorem end_ok {F : FsT} (hs : Sm F) : F_33 F = some (Sp.endF F) := by
  unfold F_33 Sp.endF
  rw [(vf_pv hs).1, (vf_pv hs).2, gd_tt]
  cases hv : Sp.vf F
  · rfl
  have h := vf_iff.1 hv
  have hl := h.l
  have hn := h.n
  rw [if_pos rfl, Bool.not_true, cond_f]
  cases hr : F.2.2.2.1
  · rfl
  rw [Bool.not_true, cond_f, if_pos rfl, gd_room (by omega) (by omega), end_copy h]
  simp only [Sp.B_33_35_0_0]
  have h2 := run0 (fun m i L => Sp.L_33_0 m F.2.1.length i F.1 (F.2.2.1, false, ()) L (0, false, ()) [] []) (n := F.2.1.length) (fun j => mapTo (fun j => Sp.end1 (F.1.getD j Zd0) F.2.2.1) j F.2.1) (r := some (.e0 F.1 (F.2.2.1, false, ()) (mapTo (fun j => Sp.end1 (F.1.getD j Zd0) F.2.2.1) F.2.1.length F.2.1) (0, false, ()) [] [])) h.sm.l (fun m j hj => by
    show Sp.L_33_0 (m + 1) F.2.1.length (j : Int) F.1 (F.2.2.1, false, ()) (mapTo (fun j => Sp.end1 (F.1.getD j Zd0) F.2.2.1) j F.2.1) (0, false, ()) [] [] = Sp.L_33_0 m F.2.1.length ((j + 1 : Nat) : Int) F.1 (F.2.2.1, false, ()) (mapTo (fun j => Sp.end1 (F.1.getD j Zd0) F.2.2.1) (j + 1) F.2.1) (0, false, ()) [] []
    have hj' : j < (mapTo (fun j => Sp.end1 (F.1.getD j Zd0) F.2.2.1) j F.2.1).length := by rw [mapTo_len]; exact hj
    have hx : (mapTo (fun j => Sp.end1 (F.1.getD j Zd0) F.2.2.1) j F.2.1).getD j Zd1 = F.2.1.getD j Zd1 := by rw [mapTo_get _ hj, if_neg (by omega)]
    have hq := rgt_b (h.r j (by omega))
    have hcf := h.cf (j := j) (by omega)
    simp only [Sp.cfg, Bool.and_eq_true, inr_iff] at hcf
    rw [end_step hj' (by omega) (by omega) (by omega) (by rw [hx]; omega) (by rw [hx]; omega), hx]
    rw [mapTo_succ (g := fun j => Sp.end1 (F.1.getD j Zd0) F.2.2.1) hj]) (fun m => by
    show Sp.L_33_0 (m + 1) F.2.1.length F.2.1.length F.1 (F.2.2.1, false, ()) _ (0, false, ()) [] [] = _
    rw [Sp.L_33_0, cond_dff (by omega)])
  rw [mapTo_zero] at h2
  have e2 : Sp.L_33_0 4611686018427387904 F.2.1.length 0 F.1 (F.2.2.1, false, F.2.2.2.2) F.2.1 (0, false, ()) [] [] = _ := h2
  rw [e2]
  rfl
theorem end_pv {F : FsT} (hs : Sm F) : Sp.p_33 F = true ∧ Sp.v_33 F = Sp.endF F := pv_33 F (end_ok hs)
end Go.Ev
set_option linter.unusedSimpArgs false
set_option linter.unusedVariables false
namespace Go.Ev
open Go
set_option maxRecDepth 100000
set_option maxHeartbeats 4000000
namespace Sp
/-- A bit of a number. -/
def sb (s k : Int) : Bool := andI .i64 s k == k
def fail1 (c : CfT) (cyc : Int) (frame : List Int) (f : FaT) (n : Int) : FaT :=
  let oc := if bt f 1 = true then f.2.2.2.2.1 else if 255 < f.2.2.2.2.1 + 1 then 255 else f.2.2.2.2.1 + 1
  let fr := if bt f 1 = true then f.2.2.2.2.2.1 else if bt f 4 = true then f.2.2.2.2.2.1 else frame
  let s := orI .i64 f.1 11
  if f.2.2.2.2.2.2.1 = cyc then (s, n, f.2.2.1, 0, oc, fr, f.2.2.2.2.2.2.1, ()) else
  let cy := if 2 < f.2.2.1 + 1 then 2 else f.2.2.1 + 1
  if cy < 2 then (s, n, cy, 0, oc, fr, cyc, ()) else
  (if c.2.2.2.2.2.2.1 = true then orI .i64 (orI .i64 s 4) 16 else orI .i64 s 4, n, cy, 0, oc, fr, cyc, ())
def cnt1 (c : CfT) (bad : Bool) (n : Int) : Int :=
  if bad = true then (let x := (if n > 0 then n else 0) + 1; if c.2.1 < x then c.2.1 else x) else (let x := (if n < 0 then n else 0) - 1; if 0 - c.2.2.1 > x then 0 - c.2.2.1 else x)
def res1 (c : CfT) (cyc : Int) (bad : Bool) (frame : List Int) (f : FaT) : FaT :=
  let n := cnt1 c bad f.2.1
  if n = c.2.1 then fail1 c cyc frame f n else
  if n = 0 - c.2.2.1 then (andnI .i64 (orI .i64 f.1 8) 1, n, f.2.2) else (f.1, n, f.2.2)
end Sp
theorem bt_sb (f : FaT) (k : Int) : Sp.bt f k = Sp.sb f.1 k := rfl
structure Rg (c : CfT) (f : FaT) (cyc : Int) : Prop where
  s0 : 0 ≤ f.1
  s1 : f.1 ≤ 31
  n0 : 0 - c.2.2.1 ≤ f.2.1
  n1 : f.2.1 ≤ c.2.1
  y0 : 0 ≤ f.2.2.1
  y1 : f.2.2.1 ≤ 2
  c0 : 0 ≤ f.2.2.2.1
  c1 : f.2.2.2.1 ≤ c.2.2.2.2.1 - 1
  o0 : 0 ≤ f.2.2.2.2.1
  o1 : f.2.2.2.2.1 ≤ 255
  l0 : 0 ≤ f.2.2.2.2.2.2.1
  l1 : f.2.2.2.2.2.2.1 ≤ cyc
  fr : Sp.vals f.2.2.2.2.2.1 = true
  fa : Sp.sb f.1 1 = true → Sp.sb f.1 2 = true ∧ Sp.sb f.1 8 = true ∧ f.2.2.2.2.2.2.1 = cyc
  co : Sp.sb f.1 4 = true ↔ f.2.2.1 = 2
  lp : Sp.sb f.1 16 = true → Sp.sb f.1 4 = true ∧ c.2.2.2.2.2.2.1 = true
  pe : Sp.sb f.1 2 = true → f.2.2.2.1 = 0
  kn : Sp.sb f.1 2 = true ∨ Sp.sb f.1 4 = true → f.2.2.2.2.1 ≥ 1 ∧ f.2.2.1 ≥ 1 ∧ f.2.2.2.2.2.2.1 ≥ 1 ∧ (f.2.2.2.2.2.1.length : Int) = c.2.2.2.2.2.2.2.1
  un : Sp.sb f.1 2 = false → Sp.sb f.1 4 = false → f.2.2.1 = 0 ∧ f.2.2.2.1 = 0 ∧ f.2.2.2.2.1 = 0 ∧ f.2.2.2.2.2.2.1 = 0 ∧ f.2.2.2.2.2.1.length = 0
theorem rgt_iff {c : CfT} {f : FaT} {cyc : Int} : Sp.rgt c f cyc = true ↔ Rg c f cyc := by
  have hq : ∀ b : Bool, (b == true) = b := by decide
  constructor
  · intro h
    simp only [Sp.rgt, Sp.rngs, Sp.frq, Sp.q0, Sp.q1, Sp.q2, Sp.fin, Sp.kno, Sp.unk, bt_sb, Bool.and_eq_true, inr_iff] at h
    obtain ⟨⟨hs, hn, hy, hcl, ho, hl⟩, ⟨_, hv⟩, ⟨q0, ⟨q1, ql⟩, q2⟩, hf⟩ := h
    refine ⟨hs.1, hs.2, hn.1, hn.2, hy.1, hy.2, hcl.1, hcl.2, ho.1, ho.2, hl.1, hl.2, hv, ?_, ?_, ?_, ?_, ?_, ?_⟩
    · intro h
      simpa [h, and_assoc] using q0
    · cases h : Sp.sb f.1 4 <;> simp [h] at q1 <;> simp [q1]
    · intro h
      simpa [h] using ql
    · intro h
      simpa [h] using q2
    · intro h
      have : (Sp.sb f.1 2 || Sp.sb f.1 4) = true := by rcases h with h | h <;> simp [h]
      rw [this] at hf
      simpa [and_assoc] using hf
    · intro h1 h2
      rw [h1, h2] at hf
      simpa [and_assoc] using hf
  · intro h
    simp only [Sp.rgt, Sp.rngs, Sp.frq, Sp.q0, Sp.q1, Sp.q2, Sp.fin, Sp.kno, Sp.unk, bt_sb, Bool.and_eq_true, inr_iff]
    refine ⟨⟨⟨h.s0, h.s1⟩, ⟨h.n0, h.n1⟩, ⟨h.y0, h.y1⟩, ⟨h.c0, h.c1⟩, ⟨h.o0, h.o1⟩, h.l0, h.l1⟩, ⟨?_, h.fr⟩, ⟨?_, ⟨?_, ?_⟩, ?_⟩, ?_⟩
    · cases h2 : Sp.sb f.1 2
      · cases h4 : Sp.sb f.1 4
        · have := h.un h2 h4
          simp [this.2.2.2.2]
        · have := h.kn (Or.inr h4)
          simp [this.2.2.2]
      · have := h.kn (Or.inl h2)
        simp [this.2.2.2]
    · cases h1 : Sp.sb f.1 1
      · rfl
      · have := h.fa h1
        simp [this]
    · have := h.co
      cases h4 : Sp.sb f.1 4 <;> simp [h4] at this ⊢ <;> exact this
    · cases h1 : Sp.sb f.1 16
      · rfl
      · have := h.lp h1
        simp [this]
    · cases h1 : Sp.sb f.1 2
      · rfl
      · have := h.pe h1
        simp [this]
    · cases h2 : Sp.sb f.1 2
      · cases h4 : Sp.sb f.1 4
        · have := h.un h2 h4
          simp [this]
        · have := h.kn (Or.inr h4)
          simp [this]
      · have := h.kn (Or.inl h2)
        simp [this]
/-! What operations do to bits. -/
theorem tabs {s : Int} (h0 : 0 ≤ s) (h1 : s ≤ 31) :
    (0 ≤ Sp.andnI .i64 s 9 ∧ Sp.andnI .i64 s 9 ≤ 31 ∧ Sp.sb (Sp.andnI .i64 s 9) 1 = false ∧ Sp.sb (Sp.andnI .i64 s 9) 2 = Sp.sb s 2 ∧ Sp.sb (Sp.andnI .i64 s 9) 4 = Sp.sb s 4 ∧ Sp.sb (Sp.andnI .i64 s 9) 8 = false ∧ Sp.sb (Sp.andnI .i64 s 9) 16 = Sp.sb s 16) ∧
    (0 ≤ Sp.andnI .i64 s 2 ∧ Sp.andnI .i64 s 2 ≤ 31 ∧ Sp.sb (Sp.andnI .i64 s 2) 1 = Sp.sb s 1 ∧ Sp.sb (Sp.andnI .i64 s 2) 2 = false ∧ Sp.sb (Sp.andnI .i64 s 2) 4 = Sp.sb s 4 ∧ Sp.sb (Sp.andnI .i64 s 2) 8 = Sp.sb s 8 ∧ Sp.sb (Sp.andnI .i64 s 2) 16 = Sp.sb s 16) ∧
    (0 ≤ Sp.andnI .i64 (Sp.andnI .i64 s 2) 16 ∧ Sp.andnI .i64 (Sp.andnI .i64 s 2) 16 ≤ 31 ∧ Sp.sb (Sp.andnI .i64 (Sp.andnI .i64 s 2) 16) 1 = Sp.sb s 1 ∧ Sp.sb (Sp.andnI .i64 (Sp.andnI .i64 s 2) 16) 2 = false ∧ Sp.sb (Sp.andnI .i64 (Sp.andnI .i64 s 2) 16) 4 = Sp.sb s 4 ∧ Sp.sb (Sp.andnI .i64 (Sp.andnI .i64 s 2) 16) 8 = Sp.sb s 8 ∧ Sp.sb (Sp.andnI .i64 (Sp.andnI .i64 s 2) 16) 16 = false) ∧
    (0 ≤ Sp.orI .i64 s 11 ∧ Sp.orI .i64 s 11 ≤ 31 ∧ Sp.sb (Sp.orI .i64 s 11) 1 = true ∧ Sp.sb (Sp.orI .i64 s 11) 2 = true ∧ Sp.sb (Sp.orI .i64 s 11) 4 = Sp.sb s 4 ∧ Sp.sb (Sp.orI .i64 s 11) 8 = true ∧ Sp.sb (Sp.orI .i64 s 11) 16 = Sp.sb s 16) ∧
    (0 ≤ Sp.orI .i64 (Sp.orI .i64 s 11) 4 ∧ Sp.orI .i64 (Sp.orI .i64 s 11) 4 ≤ 31 ∧ Sp.sb (Sp.orI .i64 (Sp.orI .i64 s 11) 4) 1 = true ∧ Sp.sb (Sp.orI .i64 (Sp.orI .i64 s 11) 4) 2 = true ∧ Sp.sb (Sp.orI .i64 (Sp.orI .i64 s 11) 4) 4 = true ∧ Sp.sb (Sp.orI .i64 (Sp.orI .i64 s 11) 4) 8 = true ∧ Sp.sb (Sp.orI .i64 (Sp.orI .i64 s 11) 4) 16 = Sp.sb s 16) ∧
    (0 ≤ Sp.orI .i64 (Sp.orI .i64 (Sp.orI .i64 s 11) 4) 16 ∧ Sp.orI .i64 (Sp.orI .i64 (Sp.orI .i64 s 11) 4) 16 ≤ 31 ∧ Sp.sb (Sp.orI .i64 (Sp.orI .i64 (Sp.orI .i64 s 11) 4) 16) 1 = true ∧ Sp.sb (Sp.orI .i64 (Sp.orI .i64 (Sp.orI .i64 s 11) 4) 16) 2 = true ∧ Sp.sb (Sp.orI .i64 (Sp.orI .i64 (Sp.orI .i64 s 11) 4) 16) 4 = true ∧ Sp.sb (Sp.orI .i64 (Sp.orI .i64 (Sp.orI .i64 s 11) 4) 16) 8 = true ∧ Sp.sb (Sp.orI .i64 (Sp.orI .i64 (Sp.orI .i64 s 11) 4) 16) 16 = true) ∧
    (0 ≤ Sp.andnI .i64 (Sp.orI .i64 s 8) 1 ∧ Sp.andnI .i64 (Sp.orI .i64 s 8) 1 ≤ 31 ∧ Sp.sb (Sp.andnI .i64 (Sp.orI .i64 s 8) 1) 1 = false ∧ Sp.sb (Sp.andnI .i64 (Sp.orI .i64 s 8) 1) 2 = Sp.sb s 2 ∧ Sp.sb (Sp.andnI .i64 (Sp.orI .i64 s 8) 1) 4 = Sp.sb s 4 ∧ Sp.sb (Sp.andnI .i64 (Sp.orI .i64 s 8) 1) 8 = true ∧ Sp.sb (Sp.andnI .i64 (Sp.orI .i64 s 8) 1) 16 = Sp.sb s 16) := by
  have := tab (fun s => decide (
    (0 ≤ Sp.andnI .i64 s 9 ∧ Sp.andnI .i64 s 9 ≤ 31 ∧ Sp.sb (Sp.andnI .i64 s 9) 1 = false ∧ Sp.sb (Sp.andnI .i64 s 9) 2 = Sp.sb s 2 ∧ Sp.sb (Sp.andnI .i64 s 9) 4 = Sp.sb s 4 ∧ Sp.sb (Sp.andnI .i64 s 9) 8 = false ∧ Sp.sb (Sp.andnI .i64 s 9) 16 = Sp.sb s 16) ∧
    (0 ≤ Sp.andnI .i64 s 2 ∧ Sp.andnI .i64 s 2 ≤ 31 ∧ Sp.sb (Sp.andnI .i64 s 2) 1 = Sp.sb s 1 ∧ Sp.sb (Sp.andnI .i64 s 2) 2 = false ∧ Sp.sb (Sp.andnI .i64 s 2) 4 = Sp.sb s 4 ∧ Sp.sb (Sp.andnI .i64 s 2) 8 = Sp.sb s 8 ∧ Sp.sb (Sp.andnI .i64 s 2) 16 = Sp.sb s 16) ∧
    (0 ≤ Sp.andnI .i64 (Sp.andnI .i64 s 2) 16 ∧ Sp.andnI .i64 (Sp.andnI .i64 s 2) 16 ≤ 31 ∧ Sp.sb (Sp.andnI .i64 (Sp.andnI .i64 s 2) 16) 1 = Sp.sb s 1 ∧ Sp.sb (Sp.andnI .i64 (Sp.andnI .i64 s 2) 16) 2 = false ∧ Sp.sb (Sp.andnI .i64 (Sp.andnI .i64 s 2) 16) 4 = Sp.sb s 4 ∧ Sp.sb (Sp.andnI .i64 (Sp.andnI .i64 s 2) 16) 8 = Sp.sb s 8 ∧ Sp.sb (Sp.andnI .i64 (Sp.andnI .i64 s 2) 16) 16 = false) ∧
    (0 ≤ Sp.orI .i64 s 11 ∧ Sp.orI .i64 s 11 ≤ 31 ∧ Sp.sb (Sp.orI .i64 s 11) 1 = true ∧ Sp.sb (Sp.orI .i64 s 11) 2 = true ∧ Sp.sb (Sp.orI .i64 s 11) 4 = Sp.sb s 4 ∧ Sp.sb (Sp.orI .i64 s 11) 8 = true ∧ Sp.sb (Sp.orI .i64 s 11) 16 = Sp.sb s 16) ∧
    (0 ≤ Sp.orI .i64 (Sp.orI .i64 s 11) 4 ∧ Sp.orI .i64 (Sp.orI .i64 s 11) 4 ≤ 31 ∧ Sp.sb (Sp.orI .i64 (Sp.orI .i64 s 11) 4) 1 = true ∧ Sp.sb (Sp.orI .i64 (Sp.orI .i64 s 11) 4) 2 = true ∧ Sp.sb (Sp.orI .i64 (Sp.orI .i64 s 11) 4) 4 = true ∧ Sp.sb (Sp.orI .i64 (Sp.orI .i64 s 11) 4) 8 = true ∧ Sp.sb (Sp.orI .i64 (Sp.orI .i64 s 11) 4) 16 = Sp.sb s 16) ∧
    (0 ≤ Sp.orI .i64 (Sp.orI .i64 (Sp.orI .i64 s 11) 4) 16 ∧ Sp.orI .i64 (Sp.orI .i64 (Sp.orI .i64 s 11) 4) 16 ≤ 31 ∧ Sp.sb (Sp.orI .i64 (Sp.orI .i64 (Sp.orI .i64 s 11) 4) 16) 1 = true ∧ Sp.sb (Sp.orI .i64 (Sp.orI .i64 (Sp.orI .i64 s 11) 4) 16) 2 = true ∧ Sp.sb (Sp.orI .i64 (Sp.orI .i64 (Sp.orI .i64 s 11) 4) 16) 4 = true ∧ Sp.sb (Sp.orI .i64 (Sp.orI .i64 (Sp.orI .i64 s 11) 4) 16) 8 = true ∧ Sp.sb (Sp.orI .i64 (Sp.orI .i64 (Sp.orI .i64 s 11) 4) 16) 16 = true) ∧
    (0 ≤ Sp.andnI .i64 (Sp.orI .i64 s 8) 1 ∧ Sp.andnI .i64 (Sp.orI .i64 s 8) 1 ≤ 31 ∧ Sp.sb (Sp.andnI .i64 (Sp.orI .i64 s 8) 1) 1 = false ∧ Sp.sb (Sp.andnI .i64 (Sp.orI .i64 s 8) 1) 2 = Sp.sb s 2 ∧ Sp.sb (Sp.andnI .i64 (Sp.orI .i64 s 8) 1) 4 = Sp.sb s 4 ∧ Sp.sb (Sp.andnI .i64 (Sp.orI .i64 s 8) 1) 8 = true ∧ Sp.sb (Sp.andnI .i64 (Sp.orI .i64 s 8) 1) 16 = Sp.sb s 16))) (by decide +kernel) h0 h1
  exact of_decide_eq_true this
theorem sb8 : Sp.sb 8 1 = false ∧ Sp.sb 8 2 = false ∧ Sp.sb 8 4 = false ∧ Sp.sb 8 8 = true ∧ Sp.sb 8 16 = false := by decide
theorem beg_rg {c : CfT} {f : FaT} {cyc : Int} (hc : Sp.cfg c = true) (h : Rg c f cyc) : Rg c (Sp.beg1 f) (cyc + 1) := by
  simp only [Sp.cfg, Bool.and_eq_true, inr_iff] at hc
  have ht := (tabs h.s0 h.s1).1
  have hl := h.l1
  unfold Sp.beg1
  refine ⟨ht.1, ht.2.1, ?_, ?_, h.y0, h.y1, h.c0, h.c1, h.o0, h.o1, h.l0, ?_, h.fr, ?_, ?_, ?_, ?_, ?_, ?_⟩ <;> dsimp only
  · omega
  · omega
  · omega
  · rw [ht.2.2.1]; intro h; cases h
  · rw [ht.2.2.2.2.1]; exact h.co
  · rw [ht.2.2.2.2.1, ht.2.2.2.2.2.2]; exact h.lp
  · rw [ht.2.2.2.1]; exact h.pe
  · rw [ht.2.2.2.1, ht.2.2.2.2.1]; exact h.kn
  · rw [ht.2.2.2.1, ht.2.2.2.2.1]; exact h.un
theorem fg_rg {c : CfT} {f : FaT} {cyc : Int} (hc : Sp.cfg c = true) (h : Rg c f cyc) : Rg c (Sp.fg1 f) cyc := by
  simp only [Sp.cfg, Bool.and_eq_true, inr_iff] at hc
  have hl := h.l1
  have hl0 := h.l0
  have ht := sb8
  unfold Sp.fg1
  refine ⟨?_, ?_, h.n0, h.n1, ?_, ?_, ?_, ?_, ?_, ?_, ?_, ?_, rfl, ?_, ?_, ?_, ?_, ?_, ?_⟩ <;> dsimp only
  · omega
  · omega
  · omega
  · omega
  · omega
  · omega
  · omega
  · omega
  · omega
  · omega
  · rw [ht.1]; intro h; cases h
  · rw [ht.2.2.1]; decide
  · rw [ht.2.2.2.2]; intro h; cases h
  · intro _; rfl
  · rw [ht.2.1, ht.2.2.1]; intro h; rcases h with h | h <;> cases h
  · intro _ _; exact ⟨rfl, rfl, rfl, rfl, rfl⟩
theorem end_rg {c : CfT} {f : FaT} {cyc : Int} (hc : Sp.cfg c = true) (h : Rg c f cyc) : Rg c (Sp.end1 c cyc f) cyc := by
  have hc' := hc
  simp only [Sp.cfg, Bool.and_eq_true, inr_iff] at hc
  have ht := (tabs h.s0 h.s1).2.1
  have hu := (tabs h.s0 h.s1).2.2.1
  unfold Sp.end1
  split
  · rename_i h1
    rw [bt_sb, ht.2.2.2.2.1]
    split
    · rename_i h4
      have hk := h.kn (Or.inr h4)
      have hc0 := h.c0
      have hc1 := h.c1
      split
      · exact fg_rg hc' h
      · rename_i ha
        split
        · refine ⟨hu.1, hu.2.1, h.n0, h.n1, h.y0, h.y1, ?_, ?_, h.o0, h.o1, h.l0, h.l1, h.fr, ?_, ?_, ?_, ?_, ?_, ?_⟩ <;> dsimp only
          · omega
          · omega
          · rw [hu.2.2.1]; intro hf; exact absurd (h.fa hf).2.2 h1.2
          · rw [hu.2.2.2.2.1]; exact h.co
          · rw [hu.2.2.2.2.2.2]; intro h; cases h
          · rw [hu.2.2.2.1]; intro h; cases h
          · intro _; exact hk
          · rw [hu.2.2.2.2.1, h4]; intro _ h; cases h
        · refine ⟨ht.1, ht.2.1, h.n0, h.n1, h.y0, h.y1, ?_, ?_, h.o0, h.o1, h.l0, h.l1, h.fr, ?_, ?_, ?_, ?_, ?_, ?_⟩ <;> dsimp only
          · omega
          · omega
          · rw [ht.2.2.1]; intro hf; exact absurd (h.fa hf).2.2 h1.2
          · rw [ht.2.2.2.2.1]; exact h.co
          · rw [ht.2.2.2.2.2.2, ht.2.2.2.2.1]; exact h.lp
          · rw [ht.2.2.2.1]; intro h; cases h
          · intro _; exact hk
          · rw [ht.2.2.2.2.1, h4]; intro _ h; cases h
    · exact fg_rg hc' h
  · exact h
theorem cnt_b {c : CfT} (hc : Sp.cfg c = true) (bad : Bool) {n : Int} : 0 - c.2.2.1 ≤ Sp.cnt1 c bad n ∧ Sp.cnt1 c bad n ≤ c.2.1 := by
  simp only [Sp.cfg, Bool.and_eq_true, inr_iff] at hc
  unfold Sp.cnt1
  dsimp only
  split <;> split <;> split <;> omega
theorem res_rg {c : CfT} {f : FaT} {cyc : Int} {bad : Bool} {frame : List Int} (hc : Sp.cfg c = true) (hy : 1 ≤ cyc) (hf : Sp.frm c frame = true) (h : Rg c f cyc) : Rg c (Sp.res1 c cyc bad frame f) cyc := by
  have hn := cnt_b hc bad (n := f.2.1)
  simp only [Sp.frm, Bool.and_eq_true, beq_iff_eq] at hf
  unfold Sp.res1
  dsimp only
  generalize Sp.cnt1 c bad f.2.1 = n at *
  have hts := tabs h.s0 h.s1
  split
  · -- it fails
    have h11 := hts.2.2.2.1
    have h4 := hts.2.2.2.2.1
    have h16 := hts.2.2.2.2.2.1
    simp only [Sp.cfg, Bool.and_eq_true, inr_iff] at hc
    have ho0 := h.o0
    have ho1 := h.o1
    have hy0 := h.y0
    have hy1 := h.y1
    have hl0 := h.l0
    have hl1 := h.l1
    -- occurrences and frame
    have hoc : ∀ oc : Int, oc = (if Sp.bt f 1 = true then f.2.2.2.2.1 else if 255 < f.2.2.2.2.1 + 1 then 255 else f.2.2.2.2.1 + 1) → 1 ≤ oc ∧ oc ≤ 255 := by
      intro oc e
      subst e
      rw [bt_sb]
      split
      · rename_i h1
        have := h.kn (Or.inl (h.fa h1).1)
        omega
      · split <;> omega
    have hfr : ∀ fr : List Int, fr = (if Sp.bt f 1 = true then f.2.2.2.2.2.1 else if Sp.bt f 4 = true then f.2.2.2.2.2.1 else frame) → Sp.vals fr = true ∧ (fr.length : Int) = c.2.2.2.2.2.2.2.1 := by
      intro fr e
      subst e
      rw [bt_sb, bt_sb]
      split
      · rename_i h1
        exact ⟨h.fr, (h.kn (Or.inl (h.fa h1).1)).2.2.2⟩
      · split
        · rename_i h4
          exact ⟨h.fr, (h.kn (Or.inr h4)).2.2.2⟩
        · exact ⟨hf.2, hf.1⟩
    unfold Sp.fail1
    dsimp only
    have hoc := hoc _ rfl
    have hfr := hfr _ rfl
    generalize (if Sp.bt f 1 = true then f.2.2.2.2.1 else if 255 < f.2.2.2.2.1 + 1 then 255 else f.2.2.2.2.1 + 1) = oc at hoc
    generalize (if Sp.bt f 1 = true then f.2.2.2.2.2.1 else if Sp.bt f 4 = true then f.2.2.2.2.2.1 else frame) = fr at hfr
    split
    · rename_i hlast
      have hkn : f.2.2.1 ≥ 1 := by
        cases e2 : Sp.sb f.1 2
        · cases e4 : Sp.sb f.1 4
          · have := h.un e2 e4
            omega
          · exact (h.kn (Or.inr e4)).2.1
        · exact (h.kn (Or.inl e2)).2.1
      refine ⟨h11.1, h11.2.1, hn.1, hn.2, h.y0, h.y1, ?_, ?_, ?_, ?_, h.l0, h.l1, hfr.1, ?_, ?_, ?_, ?_, ?_, ?_⟩ <;> dsimp only
      · omega
      · omega
      · omega
      · omega
      · intro _; exact ⟨h11.2.2.2.1, h11.2.2.2.2.2.1, hlast⟩
      · rw [h11.2.2.2.2.1]; exact h.co
      · rw [h11.2.2.2.2.1, h11.2.2.2.2.2.2]; exact h.lp
      · intro _; rfl
      · intro _; exact ⟨hoc.1, hkn, by omega, hfr.2⟩
      · rw [h11.2.2.2.1]; intro h; cases h
    · rename_i hlast
      have hco := h.co
      by_cases h2 : (if 2 < f.2.2.1 + 1 then (2 : Int) else f.2.2.1 + 1) < 2
      · have hcy : (if 2 < f.2.2.1 + 1 then (2 : Int) else f.2.2.1 + 1) = f.2.2.1 + 1 := by
          by_cases e : 2 < f.2.2.1 + 1
          · rw [if_pos e] at h2; omega
          · rw [if_neg e]
        rw [if_pos h2]
        rw [hcy] at h2 ⊢
        refine ⟨h11.1, h11.2.1, hn.1, hn.2, ?_, ?_, ?_, ?_, ?_, ?_, ?_, ?_, hfr.1, ?_, ?_, ?_, ?_, ?_, ?_⟩ <;> dsimp only
        · omega
        · omega
        · omega
        · omega
        · omega
        · omega
        · omega
        · omega
        · intro _; exact ⟨h11.2.2.2.1, h11.2.2.2.2.2.1, rfl⟩
        · rw [h11.2.2.2.2.1]
          constructor
          · intro e; have := hco.1 e; omega
          · intro e; omega
        · rw [h11.2.2.2.2.1, h11.2.2.2.2.2.2]; exact h.lp
        · intro _; rfl
        · intro _; exact ⟨hoc.1, by omega, by omega, hfr.2⟩
        · rw [h11.2.2.2.1]; intro h; cases h
      · have hcy : (if 2 < f.2.2.1 + 1 then (2 : Int) else f.2.2.1 + 1) = 2 := by
          by_cases e : 2 < f.2.2.1 + 1
          · rw [if_pos e]
          · rw [if_neg e] at h2 ⊢; omega
        rw [if_neg h2, hcy]
        split
        · rename_i hlamp
          refine ⟨h16.1, h16.2.1, hn.1, hn.2, ?_, ?_, ?_, ?_, ?_, ?_, ?_, ?_, hfr.1, ?_, ?_, ?_, ?_, ?_, ?_⟩ <;> dsimp only
          · omega
          · omega
          · omega
          · omega
          · omega
          · omega
          · omega
          · omega
          · intro _; exact ⟨h16.2.2.2.1, h16.2.2.2.2.2.1, rfl⟩
          · rw [h16.2.2.2.2.1]; simp
          · intro _; exact ⟨h16.2.2.2.2.1, hlamp⟩
          · intro _; rfl
          · intro _; exact ⟨hoc.1, by omega, by omega, hfr.2⟩
          · rw [h16.2.2.2.1]; intro h; cases h
        · refine ⟨h4.1, h4.2.1, hn.1, hn.2, ?_, ?_, ?_, ?_, ?_, ?_, ?_, ?_, hfr.1, ?_, ?_, ?_, ?_, ?_, ?_⟩ <;> dsimp only
          · omega
          · omega
          · omega
          · omega
          · omega
          · omega
          · omega
          · omega
          · intro _; exact ⟨h4.2.2.2.1, h4.2.2.2.2.2.1, rfl⟩
          · rw [h4.2.2.2.2.1]; simp
          · rw [h4.2.2.2.2.2.2]; intro e; exact ⟨h4.2.2.2.2.1, (h.lp e).2⟩
          · intro _; rfl
          · intro _; exact ⟨hoc.1, by omega, by omega, hfr.2⟩
          · rw [h4.2.2.2.1]; intro h; cases h
  · split
    · have h8 := hts.2.2.2.2.2.2
      refine ⟨h8.1, h8.2.1, hn.1, hn.2, h.y0, h.y1, h.c0, h.c1, h.o0, h.o1, h.l0, h.l1, h.fr, ?_, ?_, ?_, ?_, ?_, ?_⟩ <;> dsimp only
      · rw [h8.2.2.1]; intro h; cases h
      · rw [h8.2.2.2.2.1]; exact h.co
      · rw [h8.2.2.2.2.1, h8.2.2.2.2.2.2]; exact h.lp
      · rw [h8.2.2.2.1]; exact h.pe
      · rw [h8.2.2.2.1, h8.2.2.2.2.1]; exact h.kn
      · rw [h8.2.2.2.1, h8.2.2.2.2.1]; exact h.un
    · exact ⟨h.s0, h.s1, hn.1, hn.2, h.y0, h.y1, h.c0, h.c1, h.o0, h.o1, h.l0, h.l1, h.fr, h.fa, h.co, h.lp, h.pe, h.kn, h.un⟩
end Go.Ev
set_option linter.unusedSimpArgs false
set_option linter.unusedVariables false
namespace Go.Ev
open Go
set_option maxRecDepth 100000
set_option maxHeartbeats 4000000
theorem res_copy {F : FsT} (h : Vf F) (p2 : FsT) (p3 p7 p9 : Int × Bool × Unit) (p4 p6 p10 : List CfT) (p5 p11 : List FaT) : Sp.L_20_35_0_0 4611686018427387904 F.2.1.length 0 p2 p3 p4 p5 p6 p7 F.2.1 p9 p10 p11 = some (.e0 p2 p3 p4 p5 p6 p7 F.2.1 p9 p10 p11) := by
  have h1 := run0 (fun m i (_ : Unit) => Sp.L_20_35_0_0 m F.2.1.length i p2 p3 p4 p5 p6 p7 F.2.1 p9 p10 p11) (n := F.2.1.length) (fun _ => ()) (r := some (.e0 p2 p3 p4 p5 p6 p7 F.2.1 p9 p10 p11)) h.sm.l (fun m j hj => by
    show Sp.L_20_35_0_0 (m + 1) F.2.1.length (j : Int) p2 p3 p4 p5 p6 p7 F.2.1 p9 p10 p11 = Sp.L_20_35_0_0 m F.2.1.length ((j + 1 : Nat) : Int) p2 p3 p4 p5 p6 p7 F.2.1 p9 p10 p11
    have hl := h.l
    have hn := h.n
    have hf := h.fl (j := j) (by omega)
    rw [Sp.L_20_35_0_0, cond_dtt (by omega)]
    simp only [gd_inB (show (0 : Int) ≤ (j : Int) by omega) (show (j : Int) < ((F.2.1.length : Nat) : Int) by omega), Int.toNat_natCast, Bool.and_true, gd_dec hj]
    rw [gd_room (by omega) (by omega), wi64 (by omega) (by omega)]
    have e : F.2.1.set j (F.2.1.getD j Zd1) = F.2.1 := sg _ hj
    push_cast
    exact congrArg (fun L => Sp.L_20_35_0_0 m F.2.1.length ((j : Int) + 1) p2 p3 p4 p5 p6 p7 L p9 p10 p11) e) (fun m => by
    show Sp.L_20_35_0_0 (m + 1) F.2.1.length F.2.1.length p2 p3 p4 p5 p6 p7 F.2.1 p9 p10 p11 = _
    rw [Sp.L_20_35_0_0, cond_dff (by omega)])
  exact h1
def Sp.resF (F : FsT) (k : Nat) (bad : Bool) (frame : List Int) : FsT × Int × Unit := ((F.1, F.2.1.set k (Sp.res1 (F.1.getD k Zd0) F.2.2.1 bad frame (F.2.1.getD k Zd1)), F.2.2), 0, ())
theorem cnt_t {n : Int} {c : CfT} (h0 : -1000 ≤ n) (h1 : n ≤ 1000) (h2 : 1 ≤ c.2.1) (h3 : c.2.1 ≤ 100) : (if IntKind.wrap .i64 ((if (0 : Int) > n then (0 : Int) else n) + (1 : Int)) < c.2.1 then IntKind.wrap .i64 ((if (0 : Int) > n then (0 : Int) else n) + (1 : Int)) else c.2.1) = Sp.cnt1 c true n := by
  have e : (if (0 : Int) > n then (0 : Int) else n) = (if n > 0 then n else 0) := by split <;> split <;> omega
  have e2 : 0 ≤ (if n > 0 then n else 0) ∧ (if n > 0 then n else 0) ≤ 1000 := by split <;> omega
  unfold Sp.cnt1
  rw [if_pos rfl, e]
  dsimp only
  generalize (if n > 0 then n else 0) = a at *
  rw [wi64 (by omega) (by omega)]
  split <;> split <;> omega
theorem cnt_f {n : Int} {c : CfT} (h0 : -1000 ≤ n) (h1 : n ≤ 1000) (h2 : 1 ≤ c.2.2.1) (h3 : c.2.2.1 ≤ 100) : (if IntKind.wrap .i64 ((if (0 : Int) < n then (0 : Int) else n) - (1 : Int)) > IntKind.wrap .i64 ((0 : Int) - c.2.2.1) then IntKind.wrap .i64 ((if (0 : Int) < n then (0 : Int) else n) - (1 : Int)) else IntKind.wrap .i64 ((0 : Int) - c.2.2.1)) = Sp.cnt1 c false n := by
  have e : (if (0 : Int) < n then (0 : Int) else n) = (if n < 0 then n else 0) := by split <;> split <;> omega
  have e2 : -1000 ≤ (if n < 0 then n else 0) ∧ (if n < 0 then n else 0) ≤ 0 := by split <;> omega
  unfold Sp.cnt1
  rw [if_neg Bool.false_ne_true, e, wi64 (n := 0 - c.2.2.1) (by omega) (by omega)]
  dsimp only
  generalize (if n < 0 then n else 0) = a at *
  rw [wi64 (by omega) (by omega)]
  split <;> split <;> omega
theorem res_J2 {L : List FaT} {C : List CfT} {cy z : Int × Bool × Unit} {z1 : List CfT} {z2 : List FaT} {k : Nat} {bad : Bool} {frame : List Int} (hk : k < L.length) (hkc : k < C.length) (hfr : frame.length ≤ 8)
    (hc : Sp.cfg (C.getD k Zd0) = true) (h : Rg (C.getD k Zd0) (L.getD k Zd1) cy.1) :
    Sp.B_20_2 (Sp.J_20_2 (k : Int) bad frame C cy L z z1 z2) (fun (y51 : Nat) (y52 : List CfT) (y53 : Int × Bool × Unit) (y54 : List FaT) => some ((y52, List.set y54 y51 ((List.getD y54 y51 Zd1).1, (List.getD y54 y51 Zd1).2.1, (List.getD y54 y51 Zd1).2.2.1, (0 : Int), (List.getD y54 y51 Zd1).2.2.2.2), y53), (0 : Int), PUnit.unit)) (fun (y55 : List CfT) (y56 : Int × Bool × Unit) (y57 : List FaT) => some ((y55, y57, y56), (0 : Int), PUnit.unit)) (fun (y58 : Nat) (y59 : List CfT) (y60 : Int × Bool × Unit) (y61 : List FaT) => some ((y59, List.set y61 y58 (Sp.orI .i64 (List.getD y61 y58 Zd1).1 (16 : Int), (List.getD y61 y58 Zd1).2), y60), (0 : Int), PUnit.unit)) (fun (y62 : Nat) (y63 : List CfT) (y64 : Int × Bool × Unit) (y65 : List FaT) => some ((y63, List.set y65 y62 (Sp.andnI .i64 (List.getD y65 y62 Zd1).1 (1 : Int), (List.getD y65 y62 Zd1).2), y64), (0 : Int), PUnit.unit))
    = some ((C, L.set k (Sp.res1 (C.getD k Zd0) cy.1 bad frame (L.getD k Zd1)), cy), 0, ()) := by
  have hcb := hc
  simp only [Sp.cfg, Bool.and_eq_true, inr_iff] at hcb
  unfold Sp.res1
  generalize hce : C.getD k Zd0 = c at *
  generalize hx : L.getD k Zd1 = x at *
  have hn0 := h.n0
  have hn1 := h.n1
  have ho0 := h.o0
  have ho1 := h.o1
  have hy0 := h.y0
  have hy1 := h.y1
  have hgs : ∀ v : FaT, (L.set k v).getD k Zd1 = v := fun v => gs hk
  have hcnt1 : (if IntKind.wrap .i64 ((if (0 : Int) > x.2.1 then (0 : Int) else x.2.1) + (1 : Int)) < c.2.1 then IntKind.wrap .i64 ((if (0 : Int) > x.2.1 then (0 : Int) else x.2.1) + (1 : Int)) else c.2.1) = Sp.cnt1 c true x.2.1 := by
    exact cnt_t (by omega) (by omega) (by omega) (by omega)
  have hcnt2 : (if IntKind.wrap .i64 ((if (0 : Int) < x.2.1 then (0 : Int) else x.2.1) - (1 : Int)) > IntKind.wrap .i64 ((0 : Int) - c.2.2.1) then IntKind.wrap .i64 ((if (0 : Int) < x.2.1 then (0 : Int) else x.2.1) - (1 : Int)) else IntKind.wrap .i64 ((0 : Int) - c.2.2.1)) = Sp.cnt1 c false x.2.1 := by
    exact cnt_f (by omega) (by omega) (by omega) (by omega)
  have hin1 : inB (k : Int) L.length = true := inB_t (by omega) (by omega)
  have hin2 : inB (k : Int) C.length = true := inB_t (by omega) (by omega)
  have hd : decide (k < L.length) = true := decide_eq_true hk
  have hroom : room frame.length 8 = true := room_ok (by omega) (by omega)
  have hw1 : IntKind.wrap .i64 ((0 : Int) - c.2.2.1) = 0 - c.2.2.1 := wi64 (by omega) (by omega)
  have hw2 : IntKind.wrap .i64 (x.2.2.2.2.1 + 1) = x.2.2.2.2.1 + 1 := wi64 (by omega) (by omega)
  have hw3 : IntKind.wrap .i64 (x.2.2.1 + 1) = x.2.2.1 + 1 := wi64 (by omega) (by omega)
  have hoc : (if x.2.2.2.2.1 + 1 < 255 then x.2.2.2.2.1 + 1 else (255 : Int)) = (if 255 < x.2.2.2.2.1 + 1 then 255 else x.2.2.2.2.1 + 1) := by
    split <;> split <;> omega
  have hcy : (if x.2.2.1 + 1 < 2 then x.2.2.1 + 1 else (2 : Int)) = (if 2 < x.2.2.1 + 1 then 2 else x.2.2.1 + 1) := by
    split <;> split <;> omega
  have hJ3 : ∀ n : Int, Sp.B_20_3 (Sp.J_20_3 frame k C cy (L.set k (x.1, n, x.2.2)) z z1 z2 c) (fun (y51 : Nat) (y52 : List CfT) (y53 : Int × Bool × Unit) (y54 : List FaT) => some ((y52, List.set y54 y51 ((List.getD y54 y51 Zd1).1, (List.getD y54 y51 Zd1).2.1, (List.getD y54 y51 Zd1).2.2.1, (0 : Int), (List.getD y54 y51 Zd1).2.2.2.2), y53), (0 : Int), PUnit.unit)) (fun (y55 : List CfT) (y56 : Int × Bool × Unit) (y57 : List FaT) => some ((y55, y57, y56), (0 : Int), PUnit.unit)) (fun (y58 : Nat) (y59 : List CfT) (y60 : Int × Bool × Unit) (y61 : List FaT) => some ((y59, List.set y61 y58 (Sp.orI .i64 (List.getD y61 y58 Zd1).1 (16 : Int), (List.getD y61 y58 Zd1).2), y60), (0 : Int), PUnit.unit)) (fun (y62 : Nat) (y63 : List CfT) (y64 : Int × Bool × Unit) (y65 : List FaT) => some ((y63, List.set y65 y62 (Sp.andnI .i64 (List.getD y65 y62 Zd1).1 (1 : Int), (List.getD y65 y62 Zd1).2), y64), (0 : Int), PUnit.unit)) = some ((C, L.set k (if n = c.2.1 then Sp.fail1 c cy.1 frame x n else if n = 0 - c.2.2.1 then (Sp.andnI .i64 (Sp.orI .i64 x.1 8) 1, n, x.2.2) else (x.1, n, x.2.2)), cy), 0, ()) := by
    intro n
    by_cases hA : n = c.2.1
    · rw [if_pos hA]
      have hA' : (n == c.2.1) = true := beq_iff_eq.2 hA
      unfold Sp.fail1
      dsimp only
      cases h1 : Sp.sb x.1 1 <;> cases h4 : Sp.sb x.1 4 <;> cases hl : (x.2.2.2.2.2.2.1 == cy.1) <;> cases hlm : c.2.2.2.2.2.2.1 <;> by_cases hy : (if 2 < x.2.2.1 + 1 then (2 : Int) else x.2.2.1 + 1) < 2 <;>
        (first | rw [if_pos (beq_iff_eq.1 hl)] | rw [if_neg (beq_eq_false_iff_ne.1 hl)]) <;>
        simp only [Sp.J_20_2, Sp.J_20_3, Sp.J_20_4, Sp.J_20_37_0_0, Sp.J_20_37_1_0, Sp.J_20_37_2_0, Sp.J_20_37_3_0, Sp.J_20_37_4_0, Sp.J_20_37_5_0, Sp.J_20_37_6_0, Sp.J_20_37_7_0, Sp.J_20_37_8_0, Sp.B_20_1, Sp.B_20_2, Sp.B_20_3, Sp.B_20_4, Sp.B_20_37_0_0, Sp.B_20_37_1_0, Sp.B_20_37_2_0, Sp.B_20_37_3_0, Sp.B_20_37_4_0, Sp.B_20_37_5_0, Sp.B_20_37_6_0, Sp.B_20_37_7_0, Sp.B_20_37_8_0, has_pv, gd_tt, Bool.and_true, List.length_set, List.set_set, cond_true, cond_false, Bool.not_true, Bool.not_false, bt_sb, hgs, hd, hA', hw2, hw3, hoc, hcy, hroom, h1, h4, hl, hlm, hy, beq_self_eq_true, if_true, if_false, Bool.false_eq_true, decide_true, decide_false]
    · rw [if_neg hA]
      have hA' : (n == c.2.1) = false := beq_eq_false_iff_ne.2 hA
      by_cases hB : n = 0 - c.2.2.1
      · rw [if_pos hB]
        have hB' : (n == 0 - c.2.2.1) = true := beq_iff_eq.2 hB
        simp only [Sp.J_20_2, Sp.J_20_3, Sp.J_20_4, Sp.J_20_37_0_0, Sp.J_20_37_1_0, Sp.J_20_37_2_0, Sp.J_20_37_3_0, Sp.J_20_37_4_0, Sp.J_20_37_5_0, Sp.J_20_37_6_0, Sp.J_20_37_7_0, Sp.J_20_37_8_0, Sp.B_20_1, Sp.B_20_2, Sp.B_20_3, Sp.B_20_4, Sp.B_20_37_0_0, Sp.B_20_37_1_0, Sp.B_20_37_2_0, Sp.B_20_37_3_0, Sp.B_20_37_4_0, Sp.B_20_37_5_0, Sp.B_20_37_6_0, Sp.B_20_37_7_0, Sp.B_20_37_8_0, has_pv, gd_tt, Bool.and_true, List.length_set, List.set_set, cond_true, cond_false, Bool.not_true, Bool.not_false, bt_sb, hgs, hd, hA', hw1, hB']
      · rw [if_neg hB]
        have hB' : (n == 0 - c.2.2.1) = false := beq_eq_false_iff_ne.2 hB
        simp only [Sp.J_20_2, Sp.J_20_3, Sp.J_20_4, Sp.J_20_37_0_0, Sp.J_20_37_1_0, Sp.J_20_37_2_0, Sp.J_20_37_3_0, Sp.J_20_37_4_0, Sp.J_20_37_5_0, Sp.J_20_37_6_0, Sp.J_20_37_7_0, Sp.J_20_37_8_0, Sp.B_20_1, Sp.B_20_2, Sp.B_20_3, Sp.B_20_4, Sp.B_20_37_0_0, Sp.B_20_37_1_0, Sp.B_20_37_2_0, Sp.B_20_37_3_0, Sp.B_20_37_4_0, Sp.B_20_37_5_0, Sp.B_20_37_6_0, Sp.B_20_37_7_0, Sp.B_20_37_8_0, has_pv, gd_tt, Bool.and_true, List.length_set, List.set_set, cond_true, cond_false, Bool.not_true, Bool.not_false, bt_sb, hgs, hd, hA', hw1, hB']
  unfold Sp.J_20_2
  simp only [hin1, hin2, gd_tt, Int.toNat_natCast, hx, hce, hd, Bool.and_true, hcnt1, hcnt2]
  have hBB : ∀ (r : Option Sp.E_20_3) (k0 : Nat → List CfT → Int × Bool × Unit → List FaT → Option (FsT × Int × Unit)) (k1 : List CfT → Int × Bool × Unit → List FaT → Option (FsT × Int × Unit)) (k2 k3 : Nat → List CfT → Int × Bool × Unit → List FaT → Option (FsT × Int × Unit)), Sp.B_20_2 (Sp.B_20_3 r (fun a b c d => some (.e0 a b c d)) (fun a b c => some (.e1 a b c)) (fun a b c d => some (.e2 a b c d)) (fun a b c d => some (.e3 a b c d))) k0 k1 k2 k3 = Sp.B_20_3 r k0 k1 k2 k3 := by
    intro r k0 k1 k2 k3
    cases r with
    | none => rfl
    | some e => cases e <;> rfl
  cases bad
  · rw [cond_f, hBB, hJ3]
  · rw [cond_t, hBB, hJ3]
theorem res_ok {F : FsT} {k : Nat} {bad : Bool} {frame : List Int} (h : Vf F) (hk : k < F.1.length) (hrun : F.2.2.2.1 = true) (hf : Sp.frm (F.1.getD k Zd0) frame = true) : F_20 F k bad frame = some (Sp.resF F k bad frame) := by
  have hl := h.l
  have hn := h.n
  have hcb := h.cf hk
  have hfl : frame.length ≤ 8 := by
    simp only [Sp.frm, Sp.cfg, Bool.and_eq_true, beq_iff_eq, inr_iff] at hf hcb
    omega
  have hJ1 := res_J2 (cy := F.2.2) (z := (0, false, ())) (z1 := []) (z2 := []) (bad := bad) (frame := frame) (show k < F.2.1.length by omega) hk hfl (h.cf hk) (rgt_iff.1 (h.r k hk))
  unfold F_20 Sp.resF
  rw [(vf_pv h.sm).1, (vf_pv h.sm).2, gd_tt, vf_iff.2 h, Bool.not_true, cond_f, cond_dff (by omega), decide_eq_false (by omega)]
  have hJ0 : ∀ (z : Int × Bool × Unit) (z1 : List CfT) (z2 : List FaT), Sp.J_20_0 (k : Int) bad frame false F z z1 z2 = some (.e3 (k : Int) bad frame F z z1 z2) := by
    intro z z1 z2
    unfold Sp.J_20_0
    rw [cond_f, hrun, Bool.not_true, cond_f, gd_inB (by omega) (by omega), Int.toNat_natCast, (frm_pv _ _ (by omega)).1, (frm_pv _ _ (by omega)).2, gd_tt, hf]
    rfl
  rw [hJ0]
  simp only [Sp.B_20_0, Sp.J_20_1]
  rw [gd_room (by omega) (by omega), res_copy h]
  simp only [Sp.B_20_35_0_0]
  have hBB : ∀ (r : Option Sp.E_20_2) (k0 : Nat → List CfT → Int × Bool × Unit → List FaT → Option (FsT × Int × Unit)) (k1 : List CfT → Int × Bool × Unit → List FaT → Option (FsT × Int × Unit)) (k2 k3 : Nat → List CfT → Int × Bool × Unit → List FaT → Option (FsT × Int × Unit)), Sp.B_20_1 (Sp.B_20_2 r (fun a b c d => some (.e0 a b c d)) (fun a b c => some (.e1 a b c)) (fun a b c d => some (.e2 a b c d)) (fun a b c d => some (.e3 a b c d))) k0 k1 k2 k3 = Sp.B_20_2 r k0 k1 k2 k3 := by
    intro r k0 k1 k2 k3
    cases r with
    | none => rfl
    | some e => cases e <;> rfl
  rw [hBB]
  exact hJ1
theorem res_pv {F : FsT} {k : Nat} {bad : Bool} {frame : List Int} (h : Vf F) (hk : k < F.1.length) (hrun : F.2.2.2.1 = true) (hf : Sp.frm (F.1.getD k Zd0) frame = true) : Sp.p_20 F k bad frame = true ∧ Sp.v_20 F k bad frame = Sp.resF F k bad frame := pv_20 F k bad frame (res_ok h hk hrun hf)
theorem res_err {F : FsT} {k : Nat} {bad : Bool} {frame : List Int} (h : Vf F) (hk : k < F.1.length) (hrun : F.2.2.2.1 = false) : Sp.p_20 F k bad frame = true ∧ Sp.v_20 F k bad frame = (([], [], 0, false, ()), 6, ()) := by
  refine pv_20 F k bad frame ?_
  have hl := h.l
  unfold F_20
  rw [(vf_pv h.sm).1, (vf_pv h.sm).2, gd_tt, vf_iff.2 h, Bool.not_true, cond_f, cond_dff (by omega), decide_eq_false (by omega)]
  unfold Sp.J_20_0
  rw [cond_f, hrun]
  rfl
end Go.Ev
set_option linter.unusedSimpArgs false
set_option linter.unusedVariables false
namespace Go.Ev
open Go
set_option maxRecDepth 100000
set_option maxHeartbeats 4000000
def Sp.zer (c : CfT) : List Int := List.replicate c.2.2.2.2.2.2.2.1.toNat 0
theorem fr_eq {n : Int} (h0 : 0 ≤ n) (h1 : n ≤ 8) : (if (if (8 : Int) < n then (8 : Int) else n) > (0 : Int) then if (8 : Int) < n then (8 : Int) else n else (0 : Int)) = n := by
  have e : (if (8 : Int) < n then (8 : Int) else n) = n := by split <;> omega
  rw [e]
  split <;> omega
theorem zer_frm {c : CfT} (hc : Sp.cfg c = true) : Sp.frm c (Sp.zer c) = true := by
  simp only [Sp.cfg, Bool.and_eq_true, inr_iff] at hc
  simp only [Sp.frm, Sp.zer, Sp.vals, Bool.and_eq_true, beq_iff_eq, List.length_replicate, List.all_eq_true, List.mem_range]
  refine ⟨by omega, fun j hj => ?_⟩
  rw [getD_at 0 (by simpa using hj), List.getElem_replicate]
  decide
/-- What is remembered. -/
structure Rem (a b : FsT) : Prop where
  c : b.1 = a.1
  y : a.2.2.1 ≤ b.2.2.1
  k : ∀ k, k < a.1.length → Sp.sb (a.2.1.getD k Zd1).1 4 = true →
    (Sp.sb (b.2.1.getD k Zd1).1 4 = true ∧ (a.2.1.getD k Zd1).2.2.2.2.1 ≤ (b.2.1.getD k Zd1).2.2.2.2.1 ∧ (b.2.1.getD k Zd1).2.2.2.2.2.1 = (a.2.1.getD k Zd1).2.2.2.2.2.1) ∨
    (Sp.sb (b.2.1.getD k Zd1).1 4 = false ∧ a.2.2.2.1 = true ∧ b.2.2.2.1 = false ∧ (a.2.1.getD k Zd1).2.2.2.1 = (a.1.getD k Zd0).2.2.2.2.1 - 1 ∧ ¬ (a.2.1.getD k Zd1).2.2.2.2.2.2.1 = a.2.2.1 ∧ Sp.sb (a.2.1.getD k Zd1).1 8 = true)
theorem res_keep {c : CfT} {f : FaT} {cyc : Int} {bad : Bool} {frame : List Int} (h : Rg c f cyc) (h4 : Sp.sb f.1 4 = true) : Sp.sb (Sp.res1 c cyc bad frame f).1 4 = true ∧ f.2.2.2.2.1 ≤ (Sp.res1 c cyc bad frame f).2.2.2.2.1 ∧ (Sp.res1 c cyc bad frame f).2.2.2.2.2.1 = f.2.2.2.2.2.1 := by
  have hts := tabs h.s0 h.s1
  have ho := h.o1
  have hoc : f.2.2.2.2.1 ≤ (if Sp.bt f 1 = true then f.2.2.2.2.1 else if 255 < f.2.2.2.2.1 + 1 then 255 else f.2.2.2.2.1 + 1) := by
    split
    · omega
    · split <;> omega
  have hfr : (if Sp.bt f 1 = true then f.2.2.2.2.2.1 else if Sp.bt f 4 = true then f.2.2.2.2.2.1 else frame) = f.2.2.2.2.2.1 := by
    rw [bt_sb f 4, h4]
    split <;> rfl
  unfold Sp.res1
  dsimp only
  generalize Sp.cnt1 c bad f.2.1 = n
  by_cases hA : n = c.2.1
  · rw [if_pos hA]
    unfold Sp.fail1
    dsimp only
    rw [hfr]
    generalize (if Sp.bt f 1 = true then f.2.2.2.2.1 else if 255 < f.2.2.2.2.1 + 1 then 255 else f.2.2.2.2.1 + 1) = oc at hoc
    by_cases hl : f.2.2.2.2.2.2.1 = cyc
    · rw [if_pos hl]
      exact ⟨by rw [hts.2.2.2.1.2.2.2.2.1]; exact h4, hoc, rfl⟩
    rw [if_neg hl]
    by_cases hy : (if 2 < f.2.2.1 + 1 then (2 : Int) else f.2.2.1 + 1) < 2
    · rw [if_pos hy]
      exact ⟨by rw [hts.2.2.2.1.2.2.2.2.1]; exact h4, hoc, rfl⟩
    rw [if_neg hy]
    refine ⟨?_, hoc, rfl⟩
    dsimp only
    cases c.2.2.2.2.2.2.1
    · rw [if_neg Bool.false_ne_true]; exact hts.2.2.2.2.1.2.2.2.2.1
    · rw [if_pos rfl]; exact hts.2.2.2.2.2.1.2.2.2.2.1
  rw [if_neg hA]
  by_cases hB : n = 0 - c.2.2.1
  · rw [if_pos hB]
    exact ⟨by rw [hts.2.2.2.2.2.2.2.2.2.2.1]; exact h4, Int.le_refl _, rfl⟩
  · rw [if_neg hB]
    exact ⟨h4, Int.le_refl _, rfl⟩
theorem res_next {F : FsT} {k : Nat} {bad : Bool} {frame : List Int} (h : Vf F) (hk : k < F.1.length) (hrun : F.2.2.2.1 = true) (hf : Sp.frm (F.1.getD k Zd0) frame = true) : Vf (Sp.resF F k bad frame).1 ∧ Rem F (Sp.resF F k bad frame).1 := by
  have hl := h.l
  have hk' : k < F.2.1.length := by omega
  have hr := h.run hrun
  unfold Sp.resF
  constructor
  · refine ⟨h.n, h.c, h.d, by rw [List.length_set]; exact hl, h.y0, h.y1, h.run, fun j hj => ?_⟩
    dsimp only
    rw [getD_set _ _ _ _ _ hk']
    split
    · rename_i e
      subst e
      exact rgt_iff.2 (res_rg (h.cf hj) hr hf (rgt_iff.1 (h.r k hj)))
    · exact h.r j hj
  · refine ⟨rfl, Int.le_refl _, fun j hj h4 => ?_⟩
    dsimp only
    rw [getD_set _ _ _ _ _ hk']
    split
    · rename_i e
      subst e
      exact Or.inl (res_keep (rgt_iff.1 (h.r k hj)) h4)
    · exact Or.inl ⟨h4, Int.le_refl _, rfl⟩
theorem end_next {F : FsT} (h : Vf F) (hrun : F.2.2.2.1 = true) : (Sp.endF F).2.1 = 0 ∧ Vf (Sp.endF F).1 ∧ Rem F (Sp.endF F).1 := by
  have hl := h.l
  unfold Sp.endF
  rw [if_pos (vf_iff.2 h), if_pos hrun]
  refine ⟨rfl, ?_, ?_⟩
  · refine ⟨h.n, h.c, h.d, by rw [mapTo_len]; exact hl, h.y0, h.y1, (by intro h; cases h), fun j hj => ?_⟩
    dsimp only at hj ⊢
    rw [mapTo_get _ (by omega), if_pos (by omega)]
    exact rgt_iff.2 (end_rg (h.cf hj) (rgt_iff.1 (h.r j hj)))
  · refine ⟨rfl, Int.le_refl _, fun j hj h4 => ?_⟩
    dsimp only at hj ⊢
    rw [mapTo_get _ (by omega), if_pos (by omega)]
    have hg := rgt_iff.1 (h.r j hj)
    have hts := tabs hg.s0 hg.s1
    generalize F.2.1.getD j Zd1 = f at *
    generalize F.1.getD j Zd0 = c at *
    unfold Sp.end1
    rw [bt_sb, bt_sb]
    dsimp only
    rw [hts.2.1.2.2.2.2.1, h4]
    by_cases e : Sp.sb f.1 8 = true ∧ ¬ f.2.2.2.2.2.2.1 = F.2.2.1
    · rw [if_pos e, if_pos rfl]
      by_cases e2 : f.2.2.2.1 + 1 = c.2.2.2.2.1
      · rw [if_pos e2]
        exact Or.inr ⟨sb8.2.2.1, hrun, rfl, by omega, e.2, e.1⟩
      · rw [if_neg e2]
        by_cases e3 : f.2.2.2.1 + 1 ≥ c.2.2.2.1
        · rw [if_pos e3]
          exact Or.inl ⟨by rw [hts.2.2.1.2.2.2.2.1]; exact h4, Int.le_refl _, rfl⟩
        · rw [if_neg e3]
          exact Or.inl ⟨by rw [hts.2.1.2.2.2.2.1]; exact h4, Int.le_refl _, rfl⟩
    · rw [if_neg e]
      exact Or.inl ⟨h4, Int.le_refl _, rfl⟩
theorem beg_next {F : FsT} (h : Vf F) (hrun : F.2.2.2.1 = false) (hy : ¬ F.2.2.1 = 1073741824) : (Sp.begF F).2.1 = 0 ∧ Vf (Sp.begF F).1 ∧ Rem F (Sp.begF F).1 := by
  have hl := h.l
  have hy0 := h.y0
  have hy1 := h.y1
  unfold Sp.begF
  rw [if_pos (vf_iff.2 h), if_neg (by rw [hrun]; decide), if_neg hy]
  refine ⟨rfl, ?_, ?_⟩
  · refine ⟨h.n, h.c, h.d, by rw [mapTo_len]; exact hl, ?_, ?_, ?_, fun j hj => ?_⟩ <;> dsimp only at *
    · omega
    · omega
    · intro _; omega
    · rw [mapTo_get _ (by omega), if_pos (by omega)]
      exact rgt_iff.2 (beg_rg (h.cf hj) (rgt_iff.1 (h.r j hj)))
  · refine ⟨rfl, ?_, fun j hj h4 => ?_⟩ <;> dsimp only at *
    · omega
    rw [mapTo_get _ (by omega), if_pos (by omega)]
    have hg := rgt_iff.1 (h.r j hj)
    have hts := tabs hg.s0 hg.s1
    exact Or.inl ⟨by unfold Sp.beg1; rw [hts.1.2.2.2.2.1]; exact h4, Int.le_refl _, rfl⟩
end Go.Ev
set_option linter.unusedSimpArgs false
set_option linter.unusedVariables false
namespace Go.Ev
open Go
set_option maxRecDepth 100000
set_option maxHeartbeats 4000000
abbrev AcT := Int × Bool × Unit
namespace Sp
def small (F : FsT) : Bool := (List.range F.2.1.length).all fun j => !decide (((F.2.1.getD j Zd1).2.2.2.2.2.1.length : Int) > 20)
def gr (F : FsT) : Bool := (decide ((F.1.length : Int) > 12) && decide ((F.1.length : Int) ≤ 64)) || (decide ((F.2.1.length : Int) > 80) || !small F)
end Sp
theorem great_pv (F : FsT) : Sp.p_16 F = true ∧ Sp.v_16 F = (Sp.gr F, ()) := by
  refine pv_16 F ?_
  unfold F_16 Sp.gr
  by_cases h80 : (F.2.1.length : Int) > 80
  · simp only [cond_dtt h80]
    rw [decide_eq_true h80, Bool.true_or, Bool.or_true]
    cases decide ((F.1.length : Int) > 12) <;> cases decide ((F.1.length : Int) ≤ 64) <;> rfl
  simp only [cond_dff h80]
  rw [decide_eq_false h80, Bool.false_or]
  have := all0 (fun m i => Sp.L_16_1 m F.2.1 F.2.1.length i) (n := F.2.1.length) (fun j => !decide (((F.2.1.getD j Zd1).2.2.2.2.2.1.length : Int) > 20)) (e0 := some .e0) (e1 := some .e1) (by omega) (fun m j hj => by
    show Sp.L_16_1 (m + 1) F.2.1 F.2.1.length j = bif !decide (((F.2.1.getD j Zd1).2.2.2.2.2.1.length : Int) > 20) then Sp.L_16_1 m F.2.1 F.2.1.length ((j + 1 : Nat) : Int) else some .e0
    rw [Sp.L_16_1, cond_dtt (by omega), gd_inB (by omega) (by omega), Int.toNat_natCast, wi64 (by omega) (by omega)]
    push_cast
    cases decide (((F.2.1.getD j Zd1).2.2.2.2.2.1.length : Int) > 20) <;> rfl) (fun m => by
    show Sp.L_16_1 (m + 1) F.2.1 F.2.1.length F.2.1.length = _
    rw [Sp.L_16_1, cond_dff (by omega)])
  have hJ : Sp.J_16_0 F = some (bif Sp.small F then .e1 else .e0) := by
    unfold Sp.J_16_0
    rw [this]
    unfold Sp.small
    cases (List.range F.2.1.length).all fun j => !decide (((F.2.1.getD j Zd1).2.2.2.2.2.1.length : Int) > 20) <;> rfl
  rw [hJ]
  cases decide ((F.1.length : Int) > 12) <;> cases decide ((F.1.length : Int) ≤ 64) <;> cases Sp.small F <;> rfl
theorem gr_sm {F : FsT} (h : Sp.gr F = false) : Sm F := by
  simp only [Sp.gr, Bool.or_eq_false_iff, decide_eq_false_iff_not, Bool.not_eq_false', Sp.small, List.all_eq_true, List.mem_range, Bool.not_eq_true'] at h
  refine ⟨by omega, fun j hj => ?_⟩
  have := h.2.2 j hj
  omega
/-- What the states of a play have. -/
structure Gd (F0 F : FsT) (out : List FsT) : Prop where
  n : 0 < out.length
  last : out.getD (out.length - 1) Zd3 = F
  v : ∀ j, j < out.length → Vf (out.getD j Zd3) ∧ (out.getD j Zd3).1 = F0.1 ∧ F0.2.2.1 ≤ (out.getD j Zd3).2.2.1
  r : ∀ j, j + 1 < out.length → Rem (out.getD j Zd3) (out.getD (j + 1) Zd3)
theorem getD_snoc {α : Type} (l : List α) (x d : α) (j : Nat) : (l ++ [x]).getD j d = if j < l.length then l.getD j d else if j = l.length then x else d := by
  simp only [List.getD_eq_getElem?_getD]
  by_cases h : j < l.length
  · rw [if_pos h, List.getElem?_append_left h]
  · rw [if_neg h, List.getElem?_append_right (by omega)]
    by_cases e : j = l.length
    · subst e; simp
    · rw [if_neg e, List.getElem?_eq_none (by simp; omega)]; rfl
theorem Gd.snoc {F0 F G : FsT} {out : List FsT} (h : Gd F0 F out) (hG : Vf G) (hr : Rem F G) : Gd F0 G (out ++ [G]) := by
  have hn := h.n
  have hlast := h.v (out.length - 1) (by omega)
  rw [h.last] at hlast
  refine ⟨by simp, ?_, fun j hj => ?_, fun j hj => ?_⟩
  · rw [getD_snoc, List.length_append, List.length_singleton, if_neg (by omega), if_pos (by omega)]
  · rw [List.length_append, List.length_singleton] at hj
    rw [getD_snoc]
    split
    · rename_i e; exact h.v j e
    · rw [if_pos (by omega)]
      exact ⟨hG, by rw [hr.c]; exact hlast.2.1, by have := hr.y; omega⟩
  · rw [List.length_append, List.length_singleton] at hj
    rw [getD_snoc, getD_snoc, if_pos (by omega)]
    split
    · rename_i e; exact h.r j e
    · rw [if_pos (by omega), show j = out.length - 1 by omega, h.last]
      exact hr
theorem play_loop (l : List AcT) (hl : ∀ x ∈ l, -128 ≤ x.1 ∧ x.1 ≤ 127) (hn : l.length ≤ 100) (F0 : FsT) : ∀ (d m j : Nat) (F : FsT) (out : List FsT), j + d = l.length → d < m → Vf F → Gd F0 F out → out.length ≤ j + 1 →
    ∃ out' G, Sp.B_17_0 (Sp.L_17_0 m l l.length (j : Int) F out) (fun y => some (y, ())) = some (out', ()) ∧ Gd F0 G out' ∧ out'.length ≤ 101
  | 0, m + 1, j, F, out, hj, _, hF, hg, ho => by
    refine ⟨out, F, ?_, hg, by omega⟩
    rw [Sp.L_17_0, cond_dff (by omega)]
    rfl
  | d + 1, m + 1, j, F, out, hj, hm, hF, hg, ho => by
    have hjl : j < l.length := by omega
    have hb := hl l[j] (List.getElem_mem hjl)
    have hx : l.getD j Zd2 = l[j] := getD_at _ hjl
    have ih := fun (G : FsT) (o : List FsT) (h1 : Vf G) (h2 : Gd F0 G o) (h3 : o.length ≤ j + 2) => play_loop l hl hn F0 d m (j + 1) G o (by omega) (by omega) h1 h2 (by omega)
    have hlen : ∀ G : FsT, (out ++ [G]).length ≤ j + 2 := by intro G; simp; omega
    have hroom : room (out.length + 1) 64 = true := room_ok (by omega) (by omega)
    push_cast at ih
    have hw1 : IntKind.wrap .i64 ((j : Int) + 1) = (j : Int) + 1 := wi64 (by omega) (by omega)
    rw [Sp.L_17_0, cond_dtt (by omega), gd_inB (by omega) (by omega), Int.toNat_natCast, hx]
    generalize l[j] = a at *
    rw [wi64 (n := a.1) (by omega) (by omega)]
    -- the end or the beginning of a cycle
    have hcyc : ∀ (z : Int × Bool × Unit) (z1 : List CfT) (z2 : List FaT), ∃ out' G, Sp.B_17_0 (Sp.B_17_1 (Sp.J_17_1 l l.length (j : Int) F out z z1 z2) (fun (y118 : List AcT) (y119 y120 : Int) (y121 : FsT) (y122 : List FsT) (y123 : List CfT) (y124 : List FaT) => bif (Sp.v_33 y121).2.1 == (0 : Int) then gd (room (List.length y122 + (1 : Nat)) (64 : Nat)) (Sp.L_17_0 m y118 y119 (IntKind.wrap .i64 (y120 + (1 : Int))) (Sp.v_33 y121).1 (y122 ++ [(Sp.v_33 y121).1])) else Sp.L_17_0 m y118 y119 (IntKind.wrap .i64 (y120 + (1 : Int))) y121 y122) (fun (y125 : List AcT) (y126 y127 : Int) (y128 : FsT) (y129 : List FsT) (y130 : List CfT) (y131 : List FaT) => bif (Sp.v_19 y128).2.1 == (0 : Int) then gd (room (List.length y129 + (1 : Nat)) (64 : Nat)) (Sp.L_17_0 m y125 y126 (IntKind.wrap .i64 (y127 + (1 : Int))) (Sp.v_19 y128).1 (y129 ++ [(Sp.v_19 y128).1])) else Sp.L_17_0 m y125 y126 (IntKind.wrap .i64 (y127 + (1 : Int))) y128 y129)) (fun y => some (y, ())) = some (out', ()) ∧ Gd F0 G out' ∧ out'.length ≤ 101 := by
      intro z z1 z2
      unfold Sp.J_17_1
      cases hrun : F.2.2.2.1
      · simp only [cond_f, (beg_pv hF.sm).1, gd_tt, Sp.B_17_1, (beg_pv hF.sm).2, hw1]
        by_cases hy : F.2.2.1 = 1073741824
        · have e : (Sp.begF F).2.1 = 9 := by
            unfold Sp.begF
            rw [if_pos (vf_iff.2 hF), if_neg (by rw [hrun]; decide), if_pos hy]
            rfl
          rw [e, cond_eff (by decide)]
          exact ih F out hF hg (by omega)
        · obtain ⟨e, hv, hr⟩ := beg_next hF hrun hy
          rw [e, cond_ett rfl, hroom, gd_tt]
          exact ih _ _ hv (hg.snoc hv hr) (hlen _)
      · simp only [cond_t, (end_pv hF.sm).1, gd_tt, Sp.B_17_1, (end_pv hF.sm).2, hw1]
        obtain ⟨e, hv, hr⟩ := end_next hF hrun
        rw [e, cond_ett rfl, hroom, gd_tt]
        exact ih _ _ hv (hg.snoc hv hr) (hlen _)
    by_cases h1 : a.1 ≥ 0
    rotate_left
    · rw [cond_dff h1]
      exact hcyc _ _ _
    rw [cond_dtt h1]
    by_cases h2 : a.1 < (F.1.length : Int)
    rotate_left
    · rw [cond_dff h2]
      exact hcyc _ _ _
    rw [cond_dtt h2, gd_inB (by omega) (by omega)]
    have hk : a.1.toNat < F.1.length := by omega
    have hcf := hF.cf hk
    have hc2 := hcf
    simp only [Sp.cfg, Bool.and_eq_true, inr_iff] at hc2
    rw [fr_eq (by omega) (by omega)]
    have hg1 : (decide ((0 : Int) ≤ (F.1.getD a.1.toNat Zd0).2.2.2.2.2.2.2.1) && (((F.1.getD a.1.toNat Zd0).2.2.2.2.2.2.2.1 == (F.1.getD a.1.toNat Zd0).2.2.2.2.2.2.2.1) && room (Int.toNat (F.1.getD a.1.toNat Zd0).2.2.2.2.2.2.2.1) 8)) = true := by
      rw [decide_eq_true (by omega), beq_self_eq_true, show room (Int.toNat (F.1.getD a.1.toNat Zd0).2.2.2.2.2.2.2.1) 8 = true from room_ok (by omega) (by omega)]
      rfl
    rw [hg1, gd_tt, hw1]
    have hzr : List.replicate (Int.toNat (F.1.getD a.1.toNat Zd0).2.2.2.2.2.2.2.1) (0 : Int) = Sp.zer (F.1.getD a.1.toNat Zd0) := rfl
    have ha : a.1 = ((a.1.toNat : Nat) : Int) := by omega
    rw [hzr]
    have key : ∀ (q : Int), q = ((a.1.toNat : Nat) : Int) → ∃ out' G, Sp.B_17_0 (gd (Sp.p_20 F q a.2.1 (Sp.zer (F.1.getD a.1.toNat Zd0))) (bif (Sp.v_20 F q a.2.1 (Sp.zer (F.1.getD a.1.toNat Zd0))).2.1 == (0 : Int) then gd (room (List.length out + (1 : Nat)) (64 : Nat)) (Sp.L_17_0 m l l.length ((j : Int) + 1) (Sp.v_20 F q a.2.1 (Sp.zer (F.1.getD a.1.toNat Zd0))).1 (out ++ [(Sp.v_20 F q a.2.1 (Sp.zer (F.1.getD a.1.toNat Zd0))).1])) else Sp.L_17_0 m l l.length ((j : Int) + 1) F out)) (fun y => some (y, ())) = some (out', ()) ∧ Gd F0 G out' ∧ out'.length ≤ 101 := by
      rintro _ rfl
      cases hrun : F.2.2.2.1
      · have hq := res_err (bad := a.2.1) (frame := Sp.zer (F.1.getD a.1.toNat Zd0)) hF hk hrun
        rw [hq.1, hq.2, gd_tt, cond_eff (by decide)]
        exact ih F out hF hg (by omega)
      · have hq := res_pv (bad := a.2.1) hF hk hrun (zer_frm hcf)
        have hnx := res_next (bad := a.2.1) hF hk hrun (zer_frm hcf)
        have he : (Sp.resF F a.1.toNat a.2.1 (Sp.zer (F.1.getD a.1.toNat Zd0))).2.1 = 0 := rfl
        rw [hq.1, hq.2, gd_tt, he, cond_ett rfl, hroom, gd_tt]
        exact ih _ _ hnx.1 (hg.snoc hnx.1 hnx.2) (hlen _)
    exact key _ ha
theorem play_pv (l : List AcT) (hl : ∀ x ∈ l, -128 ≤ x.1 ∧ x.1 ≤ 127) (hn : l.length ≤ 100) {F : FsT} (hF : Vf F) : ∃ out G, Sp.p_17 F l = true ∧ Sp.v_17 F l = (out, ()) ∧ Gd F G out ∧ out.length ≤ 101 := by
  obtain ⟨out, G, h1, h2, h3⟩ := play_loop l hl hn F l.length 4611686018427387904 0 F [F] (by omega) (by omega) hF ⟨by simp, rfl, fun j hj => by
    have : j = 0 := by simpa using hj
    subst this
    exact ⟨hF, rfl, Int.le_refl _⟩, fun j hj => by simp at hj⟩ (by simp)
  have := pv_17 F l h1
  exact ⟨out, G, this.1, this.2, h2, h3⟩
theorem acts {l : List AcT} (h : wfD (.slice (.pair (.int .i8) (.pair .bool .unit))) l) : ∀ x ∈ l, -128 ≤ x.1 ∧ x.1 ≤ 127 := by
  intro x hx
  have h := (h x hx).1
  simp [wfD, Lit.wf, IntKind.min, IntKind.max, IntKind.signed, IntKind.bits] at h
  omega
end Go.Ev
set_option linter.unusedSimpArgs false
set_option linter.unusedVariables false
namespace Go.Ev
open Go
set_option maxRecDepth 100000
set_option maxHeartbeats 4000000
theorem rin_ok (x l h : Int) : F_26 x l h = some (Sp.inr x l h, ()) := by
  unfold F_26 Sp.inr
  cases decide (x ≥ l) <;> rfl
theorem rin_pv (x l h : Int) : Sp.p_26 x l h = true ∧ Sp.v_26 x l h = (Sp.inr x l h, ()) := pv_26 x l h (rin_ok x l h)
theorem rcfg_ok (c : CfT) : F_10 c = some (Sp.cfg c, ()) := by
  unfold F_10 Sp.cfg
  simp only [rin_pv, gd_tt]
  cases Sp.inr c.1 1 16777215 <;> try rfl
  cases Sp.inr c.2.1 1 100 <;> try rfl
  cases Sp.inr c.2.2.1 1 100 <;> try rfl
  cases Sp.inr c.2.2.2.1 1 100 <;> try rfl
  cases Sp.inr c.2.2.2.2.1 c.2.2.2.1 255 <;> try rfl
  cases Sp.inr c.2.2.2.2.2.1 0 255 <;> rfl
theorem rcfg_pv (c : CfT) : Sp.p_10 c = true ∧ Sp.v_10 c = (Sp.cfg c, ()) := pv_10 c (rcfg_ok c)
theorem vals_ok (l : List Int) (h : l.length < 4611686018427387904) : F_44 l = some (Sp.vals l, ()) := by
  have := all0 (fun m i => Sp.L_44_0 m l i) (n := l.length) (fun j => Sp.val (l.getD j 0)) (e0 := some .e0) (e1 := some .e1) h (fun m j hj => by
    show Sp.L_44_0 (m + 1) l j = bif Sp.val (l.getD j 0) then Sp.L_44_0 m l ((j + 1 : Nat) : Int) else some .e0
    rw [Sp.L_44_0, cond_dtt (by omega), gd_inB (by omega) (by omega), (rin_pv _ _ _).1, (rin_pv _ _ _).2, gd_tt, Int.toNat_natCast, wi64 (by omega) (by omega)]
    push_cast
    show (bif !Sp.val (l.getD j 0) then _ else _) = _
    cases Sp.val (l.getD j 0) <;> rfl) (fun m => by
    show Sp.L_44_0 (m + 1) l l.length = _
    rw [Sp.L_44_0, cond_dff (by omega)])
  unfold F_44
  rw [this]
  unfold Sp.vals
  cases (List.range l.length).all (fun j => Sp.val (l.getD j 0)) <;> rfl
theorem vals_pv (l : List Int) (h : l.length < 4611686018427387904) : Sp.p_44 l = true ∧ Sp.v_44 l = (Sp.vals l, ()) := pv_44 l (vals_ok l h)
section
variable {c : CfT} {f : FaT} {cyc : Int}
theorem rhas_pv {k : Int} (hk : k = 1 ∨ k = 2 ∨ k = 4 ∨ k = 8 ∨ k = 16) (h0 : 0 ≤ f.1) (h1 : f.1 ≤ 31) : Sp.p_45 f k = true ∧ Sp.v_45 f k = (Sp.bt f k, ()) := by
  refine pv_45 f k ?_
  unfold F_45 Sp.bt
  have := bt_ne h0 h1
  rcases hk with rfl | rfl | rfl | rfl | rfl <;> simp only [this]
theorem rJ3 (k : Bool) : Sp.J_34_3 k c f = some (bif k then (bif Sp.kno f then .e0 c f else .e1) else bif Sp.unk f then .e2 f else .e1) := by
  unfold Sp.J_34_3 Sp.kno Sp.unk
  cases k
  · cases f.2.2.1 == 0 <;> try rfl
    cases f.2.2.2.1 == 0 <;> try rfl
    cases f.2.2.2.2.1 == 0 <;> try rfl
    cases f.2.2.2.2.2.2.1 == 0 <;> rfl
  · cases decide (f.2.2.2.2.1 ≥ 1) <;> try rfl
    cases decide (f.2.2.1 ≥ 1) <;> try rfl
    cases decide (f.2.2.2.2.2.2.1 ≥ 1) <;> rfl
theorem rJ2 (k : Bool) (h0 : 0 ≤ f.1) (h1 : f.1 ≤ 31) : Sp.J_34_2 k c f = some (bif Sp.q2 f then (bif k then (bif Sp.kno f then .e1 c f else .e0) else bif Sp.unk f then .e2 f else .e0) else .e0) := by
  unfold Sp.J_34_2 Sp.q2
  rw [(rhas_pv (by decide) h0 h1).1, (rhas_pv (by decide) h0 h1).2, gd_tt, rJ3]
  cases Sp.bt f 2 <;> cases f.2.2.2.1 != 0 <;> cases k <;> cases Sp.kno f <;> cases Sp.unk f <;> rfl
theorem rJ1 (k : Bool) (h0 : 0 ≤ f.1) (h1 : f.1 ≤ 31) : Sp.J_34_1 k c f = some (bif Sp.q1 c f && Sp.q2 f then (bif k then (bif Sp.kno f then .e1 c f else .e0) else bif Sp.unk f then .e2 f else .e0) else .e0) := by
  unfold Sp.J_34_1 Sp.q1
  rw [(rhas_pv (k := 4) (by decide) h0 h1).1, (rhas_pv (k := 4) (by decide) h0 h1).2, (rhas_pv (k := 16) (by decide) h0 h1).1, (rhas_pv (k := 16) (by decide) h0 h1).2, gd_tt, gd_tt, gd_tt, rJ2 k h0 h1]
  dsimp only
  cases Sp.bt f 4 <;> cases f.2.2.1 == 2 <;> cases Sp.bt f 16 <;> cases c.2.2.2.2.2.2.1 <;> cases Sp.q2 f <;> cases k <;> cases Sp.kno f <;> cases Sp.unk f <;> rfl
theorem rJ0 (k : Bool) (h0 : 0 ≤ f.1) (h1 : f.1 ≤ 31) : Sp.J_34_0 cyc k c f = some (bif Sp.q0 cyc f && (Sp.q1 c f && Sp.q2 f) then (bif k then (bif Sp.kno f then .e1 c f else .e0) else bif Sp.unk f then .e2 f else .e0) else .e0) := by
  unfold Sp.J_34_0 Sp.q0
  rw [(rhas_pv (k := 1) (by decide) h0 h1).1, (rhas_pv (k := 1) (by decide) h0 h1).2, (rhas_pv (k := 2) (by decide) h0 h1).1, (rhas_pv (k := 2) (by decide) h0 h1).2, (rhas_pv (k := 8) (by decide) h0 h1).1, (rhas_pv (k := 8) (by decide) h0 h1).2, gd_tt, gd_tt, gd_tt, rJ1 k h0 h1]
  dsimp only
  cases Sp.bt f 1 <;> cases Sp.bt f 2 <;> cases Sp.bt f 8 <;> cases f.2.2.2.2.2.2.1 == cyc <;> cases Sp.q1 c f <;> cases Sp.q2 f <;> cases k <;> cases Sp.kno f <;> cases Sp.unk f <;> rfl
theorem rfault_ok (hc : Sp.cfg c = true) (hfr : f.2.2.2.2.2.1.length < 4611686018427387904) : F_34 c f cyc = some (Sp.rgt c f cyc, ()) := by
  simp only [Sp.cfg, Bool.and_eq_true, inr_iff] at hc
  unfold F_34 Sp.rgt Sp.rngs
  simp only [rin_pv, gd_tt]
  rw [wi64 (n := 0 - c.2.2.1) (by omega) (by omega), wi64 (n := c.2.2.2.2.1 - 1) (by omega) (by omega)]
  cases h1 : Sp.inr f.1 0 31
  · rfl
  have hb := inr_iff.1 h1
  cases Sp.inr f.2.1 (0 - c.2.2.1) c.2.1
  · rfl
  cases Sp.inr f.2.2.1 0 2
  · rfl
  cases Sp.inr f.2.2.2.1 0 (c.2.2.2.2.1 - 1)
  · rfl
  cases Sp.inr f.2.2.2.2.1 0 255
  · rfl
  cases Sp.inr f.2.2.2.2.2.2.1 0 cyc
  · rfl
  simp only [Bool.not_true, cond_f, Bool.and_true, Bool.true_and]
  simp only [vals_pv _ hfr, rhas_pv (k := 2) (by decide) hb.1 hb.2, rhas_pv (k := 4) (by decide) hb.1 hb.2, gd_tt, rJ0 _ hb.1 hb.2]
  unfold Sp.frq Sp.fin
  cases e1 : ((f.2.2.2.2.2.1.length : Int) == c.2.2.2.2.2.2.2.1) <;> cases he : ((f.2.2.2.2.2.1.length : Int) == 0) <;> cases Sp.vals f.2.2.2.2.2.1 <;> cases Sp.bt f 2 <;> cases Sp.bt f 4 <;> cases Sp.q0 cyc f && (Sp.q1 c f && Sp.q2 f) <;> cases Sp.kno f <;> cases Sp.unk f <;> simp only [bne, he, e1, Sp.B_34_0, Bool.not_true, Bool.not_false, cond_true, cond_false, Bool.and_true, Bool.and_false, Bool.true_and, Bool.false_and, Bool.or_true, Bool.or_false, Bool.true_or, Bool.false_or]
end
end Go.Ev
set_option linter.unusedSimpArgs false
set_option linter.unusedVariables false
namespace Go.Ev
open Go
set_option maxRecDepth 100000
set_option maxHeartbeats 4000000
namespace Sp
def codesL (l : List CfT) : List Int := l.map fun c => c.1
def rcs (l : List CfT) : Int := bif decide (l.length ≤ 64) then (bif cfgs l then (bif dst (codesL l) then 0 else 8) else 1) else 5
def newF (l : List CfT) : FsT × Int × Unit := bif rcs l == 0 then ((l, List.replicate l.length Zd1, 0, false, ()), 0, ()) else (([], [], 0, false, ()), rcs l, ())
end Sp
theorem codesL_at (l : List CfT) {j : Nat} (h : j < l.length) : (Sp.codesL l).getD j 0 = (l.getD j Zd0).1 := by
  unfold Sp.codesL
  rw [getD_at _ h, getD_at 0 (by simpa using h), List.getElem_map]
end Go.Ev
namespace Go.Ev
open Go
set_option maxRecDepth 100000
set_option maxHeartbeats 4000000
set_option linter.unusedVariables false
noncomputable section

def sm_42 : Nat → Option Summ := fun f => none
def T_42_0 (p0 : List Int) (p1 : List Int) (p2 : Int) : St := St.mk ([CV.pure (Ty.slice (Ty.int IntKind.i64)) p0, CV.pure (Ty.slice (Ty.int IntKind.i64)) p1, jk, jk, jk, CV.int IntKind.i64 p2] ++ (jl 20)) [] (0 : Nat)
def X_42_0_0 : St := St.mk ([jk, jk, jk, jk, CV.bool false] ++ (jl 21)) [] (0 : Nat)
def X_42_0_1 : St := St.mk (jl 26) [] (0 : Nat)
inductive Sp.E_42_0 where
  | e0
  | e1
def Sp.B_42_0 {R : Type} (r : Option Sp.E_42_0) (k0 : Option R) (k1 : Option R) : Option R := match r with
  | none => none
  | some (.e0) => k0
  | some (.e1) => k1
def Sp.L_42_0 : Nat → (List Int) → (List Int) → (Int) → Option Sp.E_42_0
  | 0, _, _, _ => none
  | m + 1, p0, p1, p2 => bif decide (p2 < (↑(List.length p0) : Int)) then gd (inB p2 (List.length p0)) (gd (inB p2 (List.length p1)) (bif List.getD p0 (Int.toNat p2) (0 : Int) != List.getD p1 (Int.toNat p2) (0 : Int) then some (Sp.E_42_0.e0) else Sp.L_42_0 m p0 p1 (IntKind.wrap IntKind.i64 (p2 + (1 : Int))))) else some (Sp.E_42_0.e1)
def G_42_0 {R : Type} (p0 : List Int) (p1 : List Int) (p2 : Int) (k : Ex → St → Option R) : Option R := Sp.B_42_0 (Sp.L_42_0 FU p0 p1 p2) (k Ex.ret (X_42_0_0)) (k (Ex.exit (0 : Nat)) (X_42_0_1))
def o_42_0 {R : Type} (G : (List Int) → (List Int) → (Int) → (Ex → St → Option R) → Option R) : St → (Ex → St → Option R) → Option R := fun T k => match T.sl.getD 0 .junk, T.sl.getD 1 .junk, T.sl.getD 5 .junk, T.hp with
  | CV.pure (Ty.slice (Ty.int IntKind.i64)) p0, CV.pure (Ty.slice (Ty.int IntKind.i64)) p1, CV.int IntKind.i64 p2, [] => gd (shapeOK T 26 [0, 1, 5] (0 : Nat)) (G p0 p1 p2 k)
  | _, _, _, _ => none
def O_42_42_0 {R : Type} : St → (Ex → St → Option R) → Option R := fun T k => o_42_0 G_42_0 T k
def F_42 (a0 : (List Int)) (a1 : (List Int)) : Option (Bool × Unit) :=
  bif (↑(List.length a0) : Int) != (↑(List.length a1) : Int) then some (false, PUnit.unit) else Sp.B_42_0 (Sp.L_42_0 (4611686018427387904 : Nat) a0 a1 (0 : Int)) (some (false, PUnit.unit)) (some (true, PUnit.unit))
def Sp.p_42 (a0 : (List Int)) (a1 : (List Int)) : Bool := (F_42 a0 a1).isSome
def Sp.v_42 (a0 : (List Int)) (a1 : (List Int)) : Bool × Unit := (F_42 a0 a1).getD (dfH [.bool])
def s_42 : Summ := shN [(.slice (.int .i64)), (.slice (.int .i64))] [.bool] (fun x => Sp.p_42 x.1 x.2.1) (fun x => Sp.v_42 x.1 x.2.1)
end
end Go.Ev
namespace Go.Ev
open Go
set_option maxRecDepth 100000
set_option maxHeartbeats 4000000
set_option linter.unusedVariables false
noncomputable section

def sm_31 : Nat → Option Summ := fun f => bif Nat.beq f 42 then some s_42 else none


def F_31 (a0 : (Int × (Int × (Int × (Int × (Int × ((List Int) × (Int × Unit)))))))) (a1 : (Int × (Int × (Int × (Int × (Int × ((List Int) × (Int × Unit)))))))) : Option (Bool × Unit) :=
  bif a0.1 == a1.1 then bif a0.2.1 == a1.2.1 then bif a0.2.2.1 == a1.2.2.1 then bif a0.2.2.2.1 == a1.2.2.2.1 then bif a0.2.2.2.2.1 == a1.2.2.2.2.1 then bif a0.2.2.2.2.2.2.1 == a1.2.2.2.2.2.2.1 then gd (Sp.p_42 (a0.2.2.2.2.2.1) (a1.2.2.2.2.2.1)) (some ((Sp.v_42 (a0.2.2.2.2.2.1) (a1.2.2.2.2.2.1)).1, PUnit.unit)) else some (false, PUnit.unit) else some (false, PUnit.unit) else some (false, PUnit.unit) else some (false, PUnit.unit) else some (false, PUnit.unit) else some (false, PUnit.unit)
def Sp.p_31 (a0 : (Int × (Int × (Int × (Int × (Int × ((List Int) × (Int × Unit)))))))) (a1 : (Int × (Int × (Int × (Int × (Int × ((List Int) × (Int × Unit)))))))) : Bool := (F_31 a0 a1).isSome
def Sp.v_31 (a0 : (Int × (Int × (Int × (Int × (Int × ((List Int) × (Int × Unit)))))))) (a1 : (Int × (Int × (Int × (Int × (Int × ((List Int) × (Int × Unit)))))))) : Bool × Unit := (F_31 a0 a1).getD (dfH [.bool])
def s_31 : Summ := shN [(.pair (.int .i64) (.pair (.int .i64) (.pair (.int .i64) (.pair (.int .i64) (.pair (.int .i64) (.pair (.slice (.int .i64)) (.pair (.int .i64) .unit))))))), (.pair (.int .i64) (.pair (.int .i64) (.pair (.int .i64) (.pair (.int .i64) (.pair (.int .i64) (.pair (.slice (.int .i64)) (.pair (.int .i64) .unit)))))))] [.bool] (fun x => Sp.p_31 x.1 x.2.1) (fun x => Sp.v_31 x.1 x.2.1)
end
end Go.Ev
namespace Go.Ev
open Go
set_option maxRecDepth 100000
set_option maxHeartbeats 4000000
set_option linter.unusedVariables false
noncomputable section
abbrev Zt14_0 : Type := List (Int × Int × Int × Int × Int × Int × Bool × Int × PUnit) × List (Int × Int × Int × Int × Int × List Int × Int × PUnit) × Int × Bool × PUnit
abbrev Zy14_1 : Ty := (Ty.pair (Ty.slice (Ty.pair (Ty.int IntKind.i64) (Ty.pair (Ty.int IntKind.i64) (Ty.pair (Ty.int IntKind.i64) (Ty.pair (Ty.int IntKind.i64) (Ty.pair (Ty.int IntKind.i64) (Ty.pair (Ty.int IntKind.i64) (Ty.pair Ty.bool (Ty.pair (Ty.int IntKind.i64) Ty.unit))))))))) (Ty.pair (Ty.slice (Ty.pair (Ty.int IntKind.i64) (Ty.pair (Ty.int IntKind.i64) (Ty.pair (Ty.int IntKind.i64) (Ty.pair (Ty.int IntKind.i64) (Ty.pair (Ty.int IntKind.i64) (Ty.pair (Ty.slice (Ty.int IntKind.i64)) (Ty.pair (Ty.int IntKind.i64) Ty.unit)))))))) (Ty.pair (Ty.int IntKind.i64) (Ty.pair Ty.bool Ty.unit))))
abbrev Zy14_2 : Ty := (.pair (.slice (.pair (.int .i64) (.pair (.int .i64) (.pair (.int .i64) (.pair (.int .i64) (.pair (.int .i64) (.pair (.int .i64) (.pair .bool (.pair (.int .i64) .unit))))))))) (.pair (.slice (.pair (.int .i64) (.pair (.int .i64) (.pair (.int .i64) (.pair (.int .i64) (.pair (.int .i64) (.pair (.slice (.int .i64)) (.pair (.int .i64) .unit)))))))) (.pair (.int .i64) (.pair .bool .unit))))
abbrev Zy14_3 : Ty := (Ty.pair (Ty.int IntKind.i64) (Ty.pair (Ty.int IntKind.i64) (Ty.pair (Ty.int IntKind.i64) (Ty.pair (Ty.int IntKind.i64) (Ty.pair (Ty.int IntKind.i64) (Ty.pair (Ty.slice (Ty.int IntKind.i64)) (Ty.pair (Ty.int IntKind.i64) Ty.unit)))))))
abbrev Zy14_4 : Ty := (Ty.pair (Ty.int IntKind.i64) (Ty.pair (Ty.int IntKind.i64) (Ty.pair (Ty.int IntKind.i64) (Ty.pair (Ty.int IntKind.i64) (Ty.pair (Ty.int IntKind.i64) (Ty.pair (Ty.int IntKind.i64) (Ty.pair Ty.bool (Ty.pair (Ty.int IntKind.i64) Ty.unit))))))))

def sm_14 : Nat → Option Summ := fun f => bif Nat.beq f 31 then some s_31 else none
def T_14_0 (p0 : Int) (p1 : Zt14_0) (p2 : Zt14_0) : St := St.mk ([jk, jk, CV.ptr (0 : Nat) [], CV.ptr (1 : Nat) [], jk, CV.int IntKind.i64 p0] ++ (jl 68)) [Blk.mem (CV.pure Zy14_1 p1), Blk.mem (CV.pure Zy14_1 p2)] (0 : Nat)
def X_14_0_0 : St := St.mk ([jk, jk, jk, jk, CV.bool false] ++ (jl 69)) [] (0 : Nat)
def X_14_0_1 (p1 : Zt14_0) (p2 : Zt14_0) : St := St.mk ([jk, jk, CV.ptr (0 : Nat) [], CV.ptr (1 : Nat) []] ++ (jl 70)) [Blk.mem (CV.pure Zy14_1 p1), Blk.mem (CV.pure Zy14_1 p2)] (0 : Nat)
inductive Sp.E_14_0 where
  | e0
  | e1 (p1 : Zt14_0) (p2 : Zt14_0)
def Sp.B_14_0 {R : Type} (r : Option Sp.E_14_0) (k0 : Option R) (k1 : (Zt14_0) → (Zt14_0) → Option R) : Option R := match r with
  | none => none
  | some (.e0) => k0
  | some (.e1 p1 p2) => k1 p1 p2
def Sp.L_14_0 : Nat → (Int) → (List (Int × Int × Int × Int × Int × Int × Bool × Int × PUnit) × List (Int × Int × Int × Int × Int × List Int × Int × PUnit) × Int × Bool × PUnit) → (List (Int × Int × Int × Int × Int × Int × Bool × Int × PUnit) × List (Int × Int × Int × Int × Int × List Int × Int × PUnit) × Int × Bool × PUnit) → Option Sp.E_14_0
  | 0, _, _, _ => none
  | m + 1, p0, p1, p2 => bif decide (p0 < (↑(List.length (p1.1)) : Int)) then gd (inB p0 (List.length (p1.1))) (gd (inB p0 (List.length (p2.1))) (bif !Ty.beq (Ty.pair (Ty.int IntKind.i64) (Ty.pair (Ty.int IntKind.i64) (Ty.pair (Ty.int IntKind.i64) (Ty.pair (Ty.int IntKind.i64) (Ty.pair (Ty.int IntKind.i64) (Ty.pair (Ty.int IntKind.i64) (Ty.pair Ty.bool (Ty.pair (Ty.int IntKind.i64) Ty.unit)))))))) (List.getD (p1.1) (Int.toNat p0) Zd0) (List.getD (p2.1) (Int.toNat p0) Zd0) then some (Sp.E_14_0.e0) else Sp.L_14_0 m (IntKind.wrap IntKind.i64 (p0 + (1 : Int))) p1 p2)) else some (Sp.E_14_0.e1 p1 p2)
def G_14_0 {R : Type} (p0 : Int) (p1 : Zt14_0) (p2 : Zt14_0) (k : Ex → St → Option R) : Option R := Sp.B_14_0 (Sp.L_14_0 FU p0 p1 p2) (k Ex.ret (X_14_0_0)) (fun p1 p2 => k (Ex.exit (0 : Nat)) (X_14_0_1 p1 p2))
def o_14_0 {R : Type} (G : (Int) → (Zt14_0) → (Zt14_0) → (Ex → St → Option R) → Option R) : St → (Ex → St → Option R) → Option R := fun T k => match T.sl.getD 2 .junk, T.sl.getD 3 .junk, T.sl.getD 5 .junk, T.hp with
  | CV.ptr (0 : Nat) [], CV.ptr (1 : Nat) [], CV.int IntKind.i64 p0, ((Blk.mem (CV.pure (Ty.pair (Ty.slice (Ty.pair (Ty.int IntKind.i64) (Ty.pair (Ty.int IntKind.i64) (Ty.pair (Ty.int IntKind.i64) (Ty.pair (Ty.int IntKind.i64) (Ty.pair (Ty.int IntKind.i64) (Ty.pair (Ty.int IntKind.i64) (Ty.pair Ty.bool (Ty.pair (Ty.int IntKind.i64) Ty.unit))))))))) (Ty.pair (Ty.slice (Ty.pair (Ty.int IntKind.i64) (Ty.pair (Ty.int IntKind.i64) (Ty.pair (Ty.int IntKind.i64) (Ty.pair (Ty.int IntKind.i64) (Ty.pair (Ty.int IntKind.i64) (Ty.pair (Ty.slice (Ty.int IntKind.i64)) (Ty.pair (Ty.int IntKind.i64) Ty.unit)))))))) (Ty.pair (Ty.int IntKind.i64) (Ty.pair Ty.bool Ty.unit)))) p1)) :: (Blk.mem (CV.pure (Ty.pair (Ty.slice (Ty.pair (Ty.int IntKind.i64) (Ty.pair (Ty.int IntKind.i64) (Ty.pair (Ty.int IntKind.i64) (Ty.pair (Ty.int IntKind.i64) (Ty.pair (Ty.int IntKind.i64) (Ty.pair (Ty.int IntKind.i64) (Ty.pair Ty.bool (Ty.pair (Ty.int IntKind.i64) Ty.unit))))))))) (Ty.pair (Ty.slice (Ty.pair (Ty.int IntKind.i64) (Ty.pair (Ty.int IntKind.i64) (Ty.pair (Ty.int IntKind.i64) (Ty.pair (Ty.int IntKind.i64) (Ty.pair (Ty.int IntKind.i64) (Ty.pair (Ty.slice (Ty.int IntKind.i64)) (Ty.pair (Ty.int IntKind.i64) Ty.unit)))))))) (Ty.pair (Ty.int IntKind.i64) (Ty.pair Ty.bool Ty.unit)))) p2)) :: []) => gd (shapeOK T 74 [2, 3, 5] (0 : Nat)) (G p0 p1 p2 k)
  | _, _, _, _ => none
def T_14_1 (p0 : Int) (p1 : Zt14_0) (p2 : Zt14_0) : St := St.mk ([jk, jk, CV.ptr (0 : Nat) [], CV.ptr (1 : Nat) [], jk, jk, CV.int IntKind.i64 p0] ++ (jl 67)) [Blk.mem (CV.pure Zy14_1 p1), Blk.mem (CV.pure Zy14_1 p2)] (0 : Nat)
def X_14_1_0 : St := St.mk ([jk, jk, jk, jk, CV.bool false] ++ (jl 69)) [] (0 : Nat)
def X_14_1_1 : St := St.mk (jl 74) [] (0 : Nat)
inductive Sp.E_14_1 where
  | e0
  | e1
def Sp.B_14_1 {R : Type} (r : Option Sp.E_14_1) (k0 : Option R) (k1 : Option R) : Option R := match r with
  | none => none
  | some (.e0) => k0
  | some (.e1) => k1
def Sp.L_14_1 : Nat → (Int) → (List (Int × Int × Int × Int × Int × Int × Bool × Int × PUnit) × List (Int × Int × Int × Int × Int × List Int × Int × PUnit) × Int × Bool × PUnit) → (List (Int × Int × Int × Int × Int × Int × Bool × Int × PUnit) × List (Int × Int × Int × Int × Int × List Int × Int × PUnit) × Int × Bool × PUnit) → Option Sp.E_14_1
  | 0, _, _, _ => none
  | m + 1, p0, p1, p2 => bif decide (p0 < (↑(List.length (p1.2.1)) : Int)) then gd (inB p0 (List.length (p1.2.1))) (gd (inB p0 (List.length (p2.2.1))) (gd (Sp.p_31 (List.getD (p1.2.1) (Int.toNat p0) Zd1) (List.getD (p2.2.1) (Int.toNat p0) Zd1)) (bif !(Sp.v_31 (List.getD (p1.2.1) (Int.toNat p0) Zd1) (List.getD (p2.2.1) (Int.toNat p0) Zd1)).1 then some (Sp.E_14_1.e0) else Sp.L_14_1 m (IntKind.wrap IntKind.i64 (p0 + (1 : Int))) p1 p2))) else some (Sp.E_14_1.e1)
def G_14_1 {R : Type} (p0 : Int) (p1 : Zt14_0) (p2 : Zt14_0) (k : Ex → St → Option R) : Option R := Sp.B_14_1 (Sp.L_14_1 FU p0 p1 p2) (k Ex.ret (X_14_1_0)) (k (Ex.exit (2 : Nat)) (X_14_1_1))
def o_14_1 {R : Type} (G : (Int) → (Zt14_0) → (Zt14_0) → (Ex → St → Option R) → Option R) : St → (Ex → St → Option R) → Option R := fun T k => match T.sl.getD 2 .junk, T.sl.getD 3 .junk, T.sl.getD 6 .junk, T.hp with
  | CV.ptr (0 : Nat) [], CV.ptr (1 : Nat) [], CV.int IntKind.i64 p0, ((Blk.mem (CV.pure (Ty.pair (Ty.slice (Ty.pair (Ty.int IntKind.i64) (Ty.pair (Ty.int IntKind.i64) (Ty.pair (Ty.int IntKind.i64) (Ty.pair (Ty.int IntKind.i64) (Ty.pair (Ty.int IntKind.i64) (Ty.pair (Ty.int IntKind.i64) (Ty.pair Ty.bool (Ty.pair (Ty.int IntKind.i64) Ty.unit))))))))) (Ty.pair (Ty.slice (Ty.pair (Ty.int IntKind.i64) (Ty.pair (Ty.int IntKind.i64) (Ty.pair (Ty.int IntKind.i64) (Ty.pair (Ty.int IntKind.i64) (Ty.pair (Ty.int IntKind.i64) (Ty.pair (Ty.slice (Ty.int IntKind.i64)) (Ty.pair (Ty.int IntKind.i64) Ty.unit)))))))) (Ty.pair (Ty.int IntKind.i64) (Ty.pair Ty.bool Ty.unit)))) p1)) :: (Blk.mem (CV.pure (Ty.pair (Ty.slice (Ty.pair (Ty.int IntKind.i64) (Ty.pair (Ty.int IntKind.i64) (Ty.pair (Ty.int IntKind.i64) (Ty.pair (Ty.int IntKind.i64) (Ty.pair (Ty.int IntKind.i64) (Ty.pair (Ty.int IntKind.i64) (Ty.pair Ty.bool (Ty.pair (Ty.int IntKind.i64) Ty.unit))))))))) (Ty.pair (Ty.slice (Ty.pair (Ty.int IntKind.i64) (Ty.pair (Ty.int IntKind.i64) (Ty.pair (Ty.int IntKind.i64) (Ty.pair (Ty.int IntKind.i64) (Ty.pair (Ty.int IntKind.i64) (Ty.pair (Ty.slice (Ty.int IntKind.i64)) (Ty.pair (Ty.int IntKind.i64) Ty.unit)))))))) (Ty.pair (Ty.int IntKind.i64) (Ty.pair Ty.bool Ty.unit)))) p2)) :: []) => gd (shapeOK T 74 [2, 3, 6] (0 : Nat)) (G p0 p1 p2 k)
  | _, _, _, _ => none
def O_14_14_0 {R : Type} : St → (Ex → St → Option R) → Option R := fun T k => o_14_0 G_14_0 T k
def O_14_14_1 {R : Type} : St → (Ex → St → Option R) → Option R := fun T k => o_14_1 G_14_1 T k
def F_14 (a0 : ((List (Int × (Int × (Int × (Int × (Int × (Int × (Bool × (Int × Unit))))))))) × ((List (Int × (Int × (Int × (Int × (Int × ((List Int) × (Int × Unit)))))))) × (Int × (Bool × Unit))))) (a1 : ((List (Int × (Int × (Int × (Int × (Int × (Int × (Bool × (Int × Unit))))))))) × ((List (Int × (Int × (Int × (Int × (Int × ((List Int) × (Int × Unit)))))))) × (Int × (Bool × Unit))))) : Option (Bool × Unit) :=
  bif (↑(List.length (a0.1)) : Int) != (↑(List.length (a1.1)) : Int) then some (false, PUnit.unit) else bif (↑(List.length (a0.2.1)) : Int) != (↑(List.length (a1.2.1)) : Int) then some (false, PUnit.unit) else bif a0.2.2.1 != a1.2.2.1 then some (false, PUnit.unit) else bif !a0.2.2.2.1 == a1.2.2.2.1 then some (false, PUnit.unit) else Sp.B_14_0 (Sp.L_14_0 (4611686018427387904 : Nat) (0 : Int) a0 a1) (some (false, PUnit.unit)) fun (y2 y3 : List (Int × Int × Int × Int × Int × Int × Bool × Int × PUnit) × List (Int × Int × Int × Int × Int × List Int × Int × PUnit) × Int × Bool × PUnit) => Sp.B_14_1 (Sp.L_14_1 (4611686018427387904 : Nat) (0 : Int) y2 y3) (some (false, PUnit.unit)) (some (true, PUnit.unit))
def Sp.p_14 (a0 : ((List (Int × (Int × (Int × (Int × (Int × (Int × (Bool × (Int × Unit))))))))) × ((List (Int × (Int × (Int × (Int × (Int × ((List Int) × (Int × Unit)))))))) × (Int × (Bool × Unit))))) (a1 : ((List (Int × (Int × (Int × (Int × (Int × (Int × (Bool × (Int × Unit))))))))) × ((List (Int × (Int × (Int × (Int × (Int × ((List Int) × (Int × Unit)))))))) × (Int × (Bool × Unit))))) : Bool := (F_14 a0 a1).isSome
def Sp.v_14 (a0 : ((List (Int × (Int × (Int × (Int × (Int × (Int × (Bool × (Int × Unit))))))))) × ((List (Int × (Int × (Int × (Int × (Int × ((List Int) × (Int × Unit)))))))) × (Int × (Bool × Unit))))) (a1 : ((List (Int × (Int × (Int × (Int × (Int × (Int × (Bool × (Int × Unit))))))))) × ((List (Int × (Int × (Int × (Int × (Int × ((List Int) × (Int × Unit)))))))) × (Int × (Bool × Unit))))) : Bool × Unit := (F_14 a0 a1).getD (dfH [.bool])
def s_14 : Summ := shN [Zy14_2, Zy14_2] [.bool] (fun x => Sp.p_14 x.1 x.2.1) (fun x => Sp.v_14 x.1 x.2.1)
end
end Go.Ev
namespace Go.Ev
open Go
set_option maxRecDepth 100000
set_option maxHeartbeats 4000000
set_option linter.unusedVariables false
noncomputable section

def sm_13 : Nat → Option Summ := fun f => bif Nat.beq f 14 then some s_14 else none


def F_13 (a0 : ((List (Int × (Int × (Int × (Int × (Int × (Int × (Bool × (Int × Unit))))))))) × ((List (Int × (Int × (Int × (Int × (Int × ((List Int) × (Int × Unit)))))))) × (Int × (Bool × Unit))))) : Option (Bool × Unit) :=
  gd (Sp.p_14 a0 ([], [], (0 : Int), false, PUnit.unit)) (some ((Sp.v_14 a0 ([], [], (0 : Int), false, PUnit.unit)).1, PUnit.unit))
def Sp.p_13 (a0 : ((List (Int × (Int × (Int × (Int × (Int × (Int × (Bool × (Int × Unit))))))))) × ((List (Int × (Int × (Int × (Int × (Int × ((List Int) × (Int × Unit)))))))) × (Int × (Bool × Unit))))) : Bool := (F_13 a0).isSome
def Sp.v_13 (a0 : ((List (Int × (Int × (Int × (Int × (Int × (Int × (Bool × (Int × Unit))))))))) × ((List (Int × (Int × (Int × (Int × (Int × ((List Int) × (Int × Unit)))))))) × (Int × (Bool × Unit))))) : Bool × Unit := (F_13 a0).getD (dfH [.bool])
def s_13 : Summ := shN [(.pair (.slice (.pair (.int .i64) (.pair (.int .i64) (.pair (.int .i64) (.pair (.int .i64) (.pair (.int .i64) (.pair (.int .i64) (.pair .bool (.pair (.int .i64) .unit))))))))) (.pair (.slice (.pair (.int .i64) (.pair (.int .i64) (.pair (.int .i64) (.pair (.int .i64) (.pair (.int .i64) (.pair (.slice (.int .i64)) (.pair (.int .i64) .unit)))))))) (.pair (.int .i64) (.pair .bool .unit))))] [.bool] (fun x => Sp.p_13 x.1) (fun x => Sp.v_13 x.1)
end
end Go.Ev
set_option linter.unusedSimpArgs false
set_option linter.unusedVariables false
namespace Go.Ev
open Go
set_option maxRecDepth 100000
set_option maxHeartbeats 4000000
theorem dst_all (l : List Int) : Sp.dst l = (List.range l.length).all fun i => (List.range i).all fun k => !(l.getD k 0 == l.getD i 0) := by
  rw [Bool.eq_iff_iff, Sp.dst_nodup, List.Nodup, List.pairwise_iff_getElem]
  simp only [List.all_eq_true, List.mem_range, Bool.not_eq_true', beq_eq_false_iff_ne]
  constructor
  · intro h i hi k hk
    rw [getD_at 0 (show k < l.length by omega), getD_at 0 hi]
    exact h k i (by omega) hi hk
  · intro h i j hi hj hij
    have := h j hj i hij
    rwa [getD_at 0 hi, getD_at 0 hj] at this
theorem rcs_ok (l : List CfT) : F_12 l = some (Sp.rcs l, ()) := by
  unfold F_12 Sp.rcs
  by_cases h1 : (l.length : Int) > 64
  · rw [cond_dtt h1, decide_eq_false (by omega)]; rfl
  rw [cond_dff h1, decide_eq_true (p := l.length ≤ 64) (by omega), cond_t]
  have ha := all0 (fun m i => Sp.L_12_0 m l i) (n := l.length) (fun j => Sp.cfg (l.getD j Zd0)) (e0 := some .e0) (e1 := some (.e1 l)) (by omega) (fun m j hj => by
    show Sp.L_12_0 (m + 1) l j = bif Sp.cfg (l.getD j Zd0) then Sp.L_12_0 m l ((j + 1 : Nat) : Int) else some .e0
    rw [Sp.L_12_0, cond_dtt (by omega), gd_inB (by omega) (by omega), Int.toNat_natCast, (rcfg_pv _).1, (rcfg_pv _).2, gd_tt, wi64 (by omega) (by omega)]
    push_cast
    cases Sp.cfg (l.getD j Zd0) <;> rfl) (fun m => by
    show Sp.L_12_0 (m + 1) l l.length = _
    rw [Sp.L_12_0, cond_dff (by omega)])
  rw [ha]
  have ec : (List.range l.length).all (fun j => Sp.cfg (l.getD j Zd0)) = Sp.cfgs l := rfl
  rw [ec]
  cases Sp.cfgs l
  · rfl
  simp only [cond_t, Sp.B_12_0]
  have hin : ∀ i, i < l.length → Sp.L_12_2 4611686018427387904 l (i : Int) 0 = bif (List.range i).all (fun k => !((l.getD k Zd0).1 == (l.getD i Zd0).1)) then some (.e1 l i) else some .e0 := by
    intro i hi
    exact all0 (fun m k => Sp.L_12_2 m l (i : Int) k) (n := i) (fun k => !((l.getD k Zd0).1 == (l.getD i Zd0).1)) (e0 := some .e0) (e1 := some (.e1 l i)) (by omega) (fun m k hk => by
      show Sp.L_12_2 (m + 1) l (i : Int) (k : Int) = bif !((l.getD k Zd0).1 == (l.getD i Zd0).1) then Sp.L_12_2 m l (i : Int) ((k + 1 : Nat) : Int) else some .e0
      rw [Sp.L_12_2, cond_dtt (by omega), gd_inB (by omega) (by omega), gd_inB (by omega) (by omega), Int.toNat_natCast, Int.toNat_natCast, wi64 (by omega) (by omega)]
      push_cast
      cases (l.getD k Zd0).1 == (l.getD i Zd0).1 <;> rfl) (fun m => by
      show Sp.L_12_2 (m + 1) l (i : Int) (i : Int) = _
      rw [Sp.L_12_2, cond_dff (by omega)])
  have ho := all0 (fun m i => Sp.L_12_1 m l i) (n := l.length) (fun i => (List.range i).all (fun k => !((l.getD k Zd0).1 == (l.getD i Zd0).1))) (e0 := some .e0) (e1 := some .e1) (by omega) (fun m i hi => by
    show Sp.L_12_1 (m + 1) l i = bif (List.range i).all (fun k => !((l.getD k Zd0).1 == (l.getD i Zd0).1)) then Sp.L_12_1 m l ((i + 1 : Nat) : Int) else some .e0
    rw [Sp.L_12_1, cond_dtt (by omega), hin i hi]
    cases (List.range i).all (fun k => !((l.getD k Zd0).1 == (l.getD i Zd0).1))
    · rfl
    · simp only [cond_t, Sp.B_12_2]
      rw [wi64 (by omega) (by omega)]
      push_cast
      rfl) (fun m => by
    show Sp.L_12_1 (m + 1) l l.length = _
    rw [Sp.L_12_1, cond_dff (by omega)])
  rw [ho]
  have ed : (List.range l.length).all (fun i => (List.range i).all (fun k => !((l.getD k Zd0).1 == (l.getD i Zd0).1))) = Sp.dst (Sp.codesL l) := by
    rw [dst_all, show (Sp.codesL l).length = l.length by simp [Sp.codesL], Bool.eq_iff_iff]
    simp only [List.all_eq_true, List.mem_range]
    constructor
    · intro h i hi k hk
      rw [codesL_at l hi, codesL_at l (show k < l.length by omega)]
      exact h i hi k hk
    · intro h i hi k hk
      have := h i hi k hk
      rwa [codesL_at l hi, codesL_at l (show k < l.length by omega)] at this
  rw [ed]
  cases Sp.dst (Sp.codesL l) <;> rfl
theorem rcs_pv (l : List CfT) : Sp.p_12 l = true ∧ Sp.v_12 l = (Sp.rcs l, ()) := pv_12 l (rcs_ok l)
theorem rvf_ok {F : FsT} (hs : Sm F) : F_18 F = some (Sp.vf F, ()) := by
  unfold F_18 Sp.vf
  rw [(rcs_pv _).1, (rcs_pv _).2, gd_tt]
  unfold Sp.rcs
  dsimp only
  by_cases h1 : F.1.length ≤ 64
  rotate_left
  · rw [decide_eq_false h1]; rfl
  rw [decide_eq_true h1, cond_t, Bool.true_and]
  cases hc : Sp.cfgs F.1
  · rfl
  rw [cond_t, Bool.true_and]
  have em : (F.1.map fun c => c.1) = Sp.codesL F.1 := rfl
  rw [em]
  cases Sp.dst (Sp.codesL F.1)
  · rfl
  rw [cond_t, cond_nff rfl, Bool.true_and]
  by_cases hl : (F.2.1.length : Int) = (F.1.length : Int)
  rotate_left
  · rw [cond_ntt hl, beq_eq_false_iff_ne.2 hl]; rfl
  rw [cond_nff hl, beq_iff_eq.2 hl, Bool.true_and, (rin_pv _ _ _).1, (rin_pv _ _ _).2, gd_tt]
  cases Sp.inr F.2.2.1 0 1073741824
  · rfl
  have hJ : Sp.J_18_0 F = some (bif Sp.rgts F then .e1 else .e0) := by
    have := all0 (fun m i => Sp.L_18_1 m i F) (n := F.2.1.length) (fun j => Sp.rgt (F.1.getD j Zd0) (F.2.1.getD j Zd1) F.2.2.1) (e0 := some .e0) (e1 := some .e1) hs.l (fun m j hj => by
      show Sp.L_18_1 (m + 1) j F = bif Sp.rgt (F.1.getD j Zd0) (F.2.1.getD j Zd1) F.2.2.1 then Sp.L_18_1 m ((j + 1 : Nat) : Int) F else some .e0
      have hr := pv_34 _ _ _ (rfault_ok (cyc := F.2.2.1) (cfgs_at hc (j := j) (by omega)) (hs.f j hj))
      rw [Sp.L_18_1, cond_dtt (by omega), gd_inB (by omega) (by omega), gd_inB (by omega) (by omega), Int.toNat_natCast, hr.1, hr.2, gd_tt, wi64 (by have := hs.l; omega) (by have := hs.l; omega)]
      push_cast
      cases Sp.rgt (F.1.getD j Zd0) (F.2.1.getD j Zd1) F.2.2.1 <;> rfl) (fun m => by
      show Sp.L_18_1 (m + 1) F.2.1.length F = _
      rw [Sp.L_18_1, cond_dff (by omega)])
    unfold Sp.J_18_0
    rw [this]
    unfold Sp.rgts
    cases (List.range F.2.1.length).all fun j => Sp.rgt (F.1.getD j Zd0) (F.2.1.getD j Zd1) F.2.2.1 <;> rfl
  simp only [Bool.not_true, cond_f, Bool.true_and, hJ]
  cases F.2.2.2.1
  · cases Sp.rgts F <;> rfl
  · by_cases hy : F.2.2.1 < 1
    · rw [cond_t, cond_dtt hy, decide_eq_false (by omega)]
      rfl
    · rw [cond_t, cond_dff hy, decide_eq_true (p := F.2.2.1 ≥ 1) (by omega)]
      cases Sp.rgts F <;> rfl
theorem rvf_pv {F : FsT} (hs : Sm F) : Sp.p_18 F = true ∧ Sp.v_18 F = (Sp.vf F, ()) := pv_18 F (rvf_ok hs)
end Go.Ev
set_option linter.unusedSimpArgs false
set_option linter.unusedVariables false
namespace Go.Ev
open Go
set_option maxRecDepth 100000
set_option maxHeartbeats 4000000
theorem awk : F_8 = some (true, ()) := by kernel_rfl
theorem awk_pv : Sp.p_8 = true ∧ Sp.v_8 = (true, ()) := pv_8 awk
theorem plain_4 (F : FsT) (l : List AcT) (_ : wfD (.pair (.slice (.pair (.int .i64) (.pair (.int .i64) (.pair (.int .i64) (.pair (.int .i64) (.pair (.int .i64) (.pair (.int .i64) (.pair .bool (.pair (.int .i64) .unit))))))))) (.pair (.slice (.pair (.int .i64) (.pair (.int .i64) (.pair (.int .i64) (.pair (.int .i64) (.pair (.int .i64) (.pair (.slice (.int .i64)) (.pair (.int .i64) .unit)))))))) (.pair (.int .i64) (.pair .bool .unit)))) F) (wl : wfD (.slice (.pair (.int .i8) (.pair .bool .unit))) l) : F_4 F l = some true := by
  unfold F_4
  rw [awk_pv.1, awk_pv.2, gd_tt, Bool.not_true, cond_f, (great_pv F).1, (great_pv F).2, gd_tt]
  cases hg : Sp.gr F
  rotate_left
  · rfl
  rw [cond_f]
  by_cases h1 : (l.length : Int) > 100
  · rw [cond_dtt h1]
  rw [cond_dff h1, (vf_pv (gr_sm hg)).1, (vf_pv (gr_sm hg)).2, gd_tt]
  cases hv : Sp.vf F
  · rfl
  have hF := vf_iff.1 hv
  obtain ⟨out, G, p1, p2, p3, p4⟩ := play_pv l (acts wl) (by omega) hF
  rw [p1, p2, gd_tt, Bool.not_true, cond_f]
  dsimp only
  have := run0 (fun m i (_ : Unit) => Sp.L_4_0 m out out.length i F) (n := out.length) (fun _ => ()) (r := some .e1) (by omega) (fun m j hj => by
    show Sp.L_4_0 (m + 1) out out.length (j : Int) F = Sp.L_4_0 m out out.length ((j + 1 : Nat) : Int) F
    have hx := p3.v j hj
    rw [Sp.L_4_0, cond_dtt (by omega), gd_inB (by omega) (by omega), Int.toNat_natCast]
    generalize out.getD j Zd3 = x at hx
    obtain ⟨hxv, hxc, hxy⟩ := hx
    have hl1 := hxv.l
    have hl2 := hF.l
    have hq := vf_pv hxv.sm
    have hr := rvf_pv hxv.sm
    rw [hq.1, hq.2, gd_tt, vf_iff.2 hxv]
    simp only [Bool.not_true, cond_f]
    rw [hr.1, hr.2, gd_tt, vf_iff.2 hxv]
    simp only [Bool.not_true, cond_f]
    rw [hxc] at hl1
    rw [cond_nff (by rw [hxc]), cond_nff (by omega), cond_dff (by omega), wi64 (by omega) (by omega)]
    push_cast
    rfl) (fun m => by
    show Sp.L_4_0 (m + 1) out out.length out.length F = _
    rw [Sp.L_4_0, cond_dff (by omega)])
  have e : Sp.L_4_0 4611686018427387904 out out.length 0 F = _ := this
  rw [e]
  rfl
end Go.Ev
