/- Plain laws: what Unpack accepts, and what it makes. -/
import Derived.Test.YtajplaebcbojgaaProg
import Derived.WalkKit
import Derived.WalkSpells
import Derived.WalkLawsBesides
import Derived.KernelRfl
import Derived.Deep.RegionHeld3
import Derived.Deep.RegionWith
import Derived.Deep.RegionLaw
import Derived.Deep.QuietTactic
import Derived.BigQuiet
import Derived.BigGuardPart
import Derived.Deep.DeepCutAuto
import Derived.Deep.LoopGhost
import Derived.Lib.Hide
import Derived.Handy
import Derived.Test.YtajplaebcbojgaaFpR
set_option linter.unusedVariables false
set_option linter.unusedSimpArgs false
namespace Go.Proofs.Ytajplaebcbojgaa
open Go.RowKit
theorem gv_ok (y z : Int) (hy : 0 ≤ y ∧ y ≤ 4294967295) (hz : 0 ≤ z ∧ z ≤ 4294967295) :
    (decide (y ≤ 512) && rv (y * 4294967296 + z - 1099511627776)) = rv (IntKind.i64.wrap (IntKind.i64.wrap (IntKind.i64.wrap (y * 4294967296) + z) - 1099511627776)) := by
  by_cases h : y ≤ 512
  · have e1 : IntKind.i64.wrap (y * 4294967296) = y * 4294967296 := IntWalk.i64_in _ (by omega)
    have e2 : IntKind.i64.wrap (y * 4294967296 + z) = y * 4294967296 + z := IntWalk.i64_in _ (by omega)
    have e3 : IntKind.i64.wrap (y * 4294967296 + z - 1099511627776) = y * 4294967296 + z - 1099511627776 := IntWalk.i64_in _ (by omega)
    rw [e1, e2, e3]; simp [h]
  · have : rv (IntKind.i64.wrap (IntKind.i64.wrap (IntKind.i64.wrap (y * 4294967296) + z) - 1099511627776)) = false := by
      simp only [rv, rin, Bool.and_eq_false_iff, decide_eq_false_iff_not, IntKind.wrap_i64]
      omega
    rw [this]; simp [h]
theorem gv_eq (l : List Int) (k : Nat) (h : l[3 + 2 * k]?.getD 0 ≤ 512) (h0 : 0 ≤ l[3 + 2 * k]?.getD 0) (hz : 0 ≤ l[3 + 2 * k + 1]?.getD 0 ∧ l[3 + 2 * k + 1]?.getD 0 ≤ 4294967295) : gv l k = fv l k := by
  unfold gv fv
  generalize l[3 + 2 * k]?.getD 0 = y at *
  generalize l[3 + 2 * k + 1]?.getD 0 = z at *
  have e1 : IntKind.i64.wrap (y * 4294967296) = y * 4294967296 := IntWalk.i64_in _ (by omega)
  have e2 : IntKind.i64.wrap (y * 4294967296 + z) = y * 4294967296 + z := IntWalk.i64_in _ (by omega)
  have e3 : IntKind.i64.wrap (y * 4294967296 + z - 1099511627776) = y * 4294967296 + z - 1099511627776 := IntWalk.i64_in _ (by omega)
  rw [e1, e2, e3]
theorem rd_range {l : List Int} (hl : ∀ x ∈ l, 0 ≤ x ∧ x ≤ 4294967295) (i : Nat) : 0 ≤ l[i]?.getD 0 ∧ l[i]?.getD 0 ≤ 4294967295 := by
  rcases h : l[i]? with _ | x
  · simp
  · exact hl x (List.mem_of_getElem? h)
theorem frames_ok {l : List Int} (hl : ∀ x ∈ l, 0 ≤ x ∧ x ≤ 4294967295) (js : List Nat) :
    (js.all (fun j => decide (l[3 + 2 * j]?.getD 0 ≤ 512)) && (js.map (fv l)).all rv) = (js.map (gv l)).all rv := by
  induction js with
  | nil => rfl
  | cons j js ih =>
    simp only [List.all_cons, List.map_cons]
    rw [← ih, show rv (gv l j) = _ from (gv_ok _ _ (rd_range hl (3 + 2 * j)) (rd_range hl (3 + 2 * j + 1))).symm]
    show _ = (_ && rv (fv l j) && _)
    cases decide (l[3 + 2 * j]?.getD 0 ≤ 512) <;> cases rv (fv l j) <;> simp
theorem ugood_qgood {l : List Int} (hl : ∀ x ∈ l, 0 ≤ x ∧ x ≤ 4294967295) : ugood l = qgood l := by
  have r0 := rd_range hl 0
  have r1 := rd_range hl 1
  obtain ⟨e1, e2, e3⟩ := ust_eq _ r0.1 r0.2
  have hx : decide (l[1]?.getD 0 ≤ 1073741824) = rin (l[1]?.getD 0) 0 1073741824 := by simp [rin, r1.1]
  have hu : uhead l = (qhead l && rin (l[1]?.getD 0) 0 1073741824) := by
    rw [← hx, uhead, qhead]
    simp only [Bool.and_assoc]
  have hf := frames_ok hl (List.range (l[2]?.getD 0).toNat)
  rw [ugood, qgood, hu, UOK, QOK, ustok_eq _ r0.1 r0.2, fgood_rgood, e1, e2, e3, rgood, rgood, qfr, ← hf]
  simp only [uoc, ufr]
  generalize (List.range (l[2]?.getD 0).toNat).all _ = a
  generalize List.all (List.map (fv l) _) rv = b
  generalize rin (l[1]?.getD 0) 0 1073741824 = d
  cases qhead l <;> cases a <;> cases b <;> cases d <;> simp
theorem ugood_parts {l : List Int} (hl : ∀ x ∈ l, 0 ≤ x ∧ x ≤ 4294967295) (h : ugood l = true) : ufr l (l[2]?.getD 0).toNat = qfr l (l[2]?.getD 0).toNat := by
  simp only [ugood, UOK, Bool.and_eq_true] at h
  have ha := h.2.2.1
  rw [List.all_eq_true] at ha
  simp only [ufr, qfr]
  refine List.map_congr_left fun j hj => (gv_eq l j ?_ (rd_range hl _).1 (rd_range hl _)).symm
  simpa using ha j hj
end Go.Proofs.Ytajplaebcbojgaa
