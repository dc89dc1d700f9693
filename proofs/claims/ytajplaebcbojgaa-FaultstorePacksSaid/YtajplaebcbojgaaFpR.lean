/- Plain laws: the program's words and tests against the reference's. -/
import Derived.Test.YtajplaebcbojgaaProg
import Derived.WalkKit
import Derived.WalkSpells
import Derived.WalkLawsBesides
import Derived.KernelRfl
import Derived.Deep.RegionHeld3
import Derived.Deep.RegionWith
import Derived.Deep.RegionLaw
import Derived.Deep.QuietTactic
import Derived.BigQuiet
import Derived.BigGuardPart
import Derived.Deep.DeepCutAuto
import Derived.Deep.LoopGhost
import Derived.Lib.Hide
import Derived.Handy
import Derived.Test.YtajplaebcbojgaaFpQ
set_option linter.unusedVariables false
set_option linter.unusedSimpArgs false
namespace Go.Proofs.Ytajplaebcbojgaa
open Go.RowKit
theorem vok_rv (v : Int) : vok v = rv v := rfl
theorem any_vbad (fr : List Int) : (!fr.any vbad) = fr.all rv := by
  induction fr with
  | nil => rfl
  | cons x xs ih => simp only [List.any_cons, List.all_cons, Bool.not_or, ih, vbad, Bool.not_not, vok_rv]
theorem fgood_rgood (st cy cl oc la : Int) (n : Nat) (fr : List Int) : fgood st cy cl oc la n fr = rgood st cy cl oc la n fr := by
  have h8 : decide ((n : Int) ≤ 8) = decide (n ≤ 8) := by congr 1; exact propext (by omega)
  rw [fgood, rgood, any_vbad, h8]
  show (rin st 0 31 && (rin cy 0 2 && (rin cl 0 254 && (rin oc 0 255 && (rin la 0 1073741824 && (decide (n ≤ 8) && fr.all rv)))))) = _
  cases rin st 0 31 <;> cases rin cy 0 2 <;> cases rin cl 0 254 <;> cases rin oc 0 255 <;> cases rin la 0 1073741824 <;> cases decide (n ≤ 8) <;> cases fr.all rv <;> rfl
theorem fgood_parts {st cy cl oc la : Int} {n : Nat} {fr : List Int} (h : fgood st cy cl oc la n fr = true) :
    (0 ≤ st ∧ st ≤ 31) ∧ (0 ≤ cy ∧ cy ≤ 2) ∧ (0 ≤ cl ∧ cl ≤ 254) ∧ (0 ≤ oc ∧ oc ≤ 255) ∧ (0 ≤ la ∧ la ≤ 1073741824) ∧ n ≤ 8 ∧ ∀ v ∈ fr, -1099511627776 ≤ v ∧ v ≤ 1099511627776 := by
  rw [fgood_rgood] at h
  simp [rgood, rin, rv] at h
  obtain ⟨h1, h2, h3, h4, h5, h6, h7⟩ := h
  exact ⟨h3, h4, h5, h6, h7, by omega, fun v hv => h1 v hv⟩
theorem and_low (x : Int) (h0 : 0 ≤ x) (h1 : x < 9223372036854775808) : bits .and .i64 x 4294967295 = x % 4294967296 := by
  obtain ⟨a, rfl⟩ := Int.eq_ofNat_of_zero_le h0
  have := i64_and_nat a 4294967295 (by omega) (by omega)
  rw [show ((4294967295 : Nat) : Int) = 4294967295 from rfl] at this
  rw [this, show (4294967295 : Nat) = 2 ^ 32 - 1 from rfl, Nat.and_two_pow_sub_one_eq_mod]
  rfl
theorem pk1_eq (v : Int) (h : -1099511627776 ≤ v ∧ v ≤ 1099511627776) : pk1 v = qk1 v := by
  rw [pk1, qk1, and_low _ (by omega) (by omega)]
  congr 1
  · omega
  · congr 1; omega
theorem pk1s_eq (fr : List Int) (h : ∀ v ∈ fr, -1099511627776 ≤ v ∧ v ≤ 1099511627776) : fr.flatMap pk1 = fr.flatMap qk1 := by
  induction fr with
  | nil => rfl
  | cons x xs ih => rw [List.flatMap_cons, List.flatMap_cons, ih (fun v hv => h v (by simp [hv])), pk1_eq x (h x (by simp))]
theorem pkL_eq {st cy cl oc la : Int} {fr : List Int} (h : fgood st cy cl oc la fr.length fr = true) : pkL st cy cl oc la fr = qkT st cy cl oc la fr.length fr fr.length := by
  obtain ⟨h1, h2, h3, h4, h5, h6, h7⟩ := fgood_parts h
  rw [pkL, pkH, qkT, pk0_eq st cy cl oc h1 h2 h3 h4, List.take_length, pk1s_eq fr h7]
  congr 1
  congr 1
  congr 1
  · omega
  · congr 1; omega
end Go.Proofs.Ytajplaebcbojgaa
