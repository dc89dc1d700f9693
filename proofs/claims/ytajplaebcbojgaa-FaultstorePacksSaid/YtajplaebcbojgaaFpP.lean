/- Plain laws on the words of a fault: bits and sums. -/
import Derived.Test.YtajplaebcbojgaaProg
import Derived.WalkKit
import Derived.WalkSpells
import Derived.WalkLawsBesides
import Derived.KernelRfl
import Derived.Deep.RegionHeld3
import Derived.Deep.RegionWith
import Derived.Deep.RegionLaw
import Derived.Deep.QuietTactic
import Derived.BigQuiet
import Derived.BigGuardPart
import Derived.Deep.DeepCutAuto
import Derived.Deep.LoopGhost
import Derived.Lib.Hide
import Derived.Handy
import Derived.Test.YtajplaebcbojgaaFpM
import Derived.Laws.BitsAllLaws
import Derived.Laws.BitsLemmas
set_option linter.unusedVariables false
set_option linter.unusedSimpArgs false
namespace Go.Proofs.Ytajplaebcbojgaa
open Go.RowKit
theorem ofInt_i64 (a : Nat) (ha : a < 9223372036854775808) : (BitVec.ofInt 64 (a : Int)).toNat = a := by
  rw [BitVec.ofInt_natCast, BitVec.toNat_ofNat]; exact Nat.mod_eq_of_lt (by omega)
theorem i64_and_nat (a b : Nat) (ha : a < 9223372036854775808) (hb : b < 9223372036854775808) : bits .and .i64 (a : Int) (b : Int) = ((a &&& b : Nat) : Int) := by
  have hx : a &&& b < 2 ^ 63 := Nat.and_lt_two_pow _ (by omega)
  show IntKind.i64.wrap ((BitVec.ofInt 64 (a : Int) &&& BitVec.ofInt 64 (b : Int)).toNat : Int) = _
  rw [BitVec.toNat_and, ofInt_i64 a ha, ofInt_i64 b hb, IntKind.wrap_i64]
  omega
theorem i64_or_nat (a b : Nat) (ha : a < 9223372036854775808) (hb : b < 9223372036854775808) : bits .or .i64 (a : Int) (b : Int) = ((a ||| b : Nat) : Int) := by
  have hx : a ||| b < 2 ^ 63 := Nat.or_lt_two_pow (by omega) (by omega)
  show IntKind.i64.wrap ((BitVec.ofInt 64 (a : Int) ||| BitVec.ofInt 64 (b : Int)).toNat : Int) = _
  rw [BitVec.toNat_or, ofInt_i64 a ha, ofInt_i64 b hb, IntKind.wrap_i64]
  omega
theorem and255 (x : Int) (h0 : 0 ≤ x) (h1 : x < 9223372036854775808) : bits .and .i64 x 255 = x % 256 := by
  obtain ⟨a, rfl⟩ := Int.eq_ofNat_of_zero_le h0
  have := i64_and_nat a 255 (by omega) (by omega)
  rw [show ((255 : Nat) : Int) = 255 from rfl] at this
  rw [this, show (255 : Nat) = 2 ^ 8 - 1 from rfl, Nat.and_two_pow_sub_one_eq_mod]
  rfl
theorem ust_eq (x : Int) (h0 : 0 ≤ x) (h1 : x ≤ 4294967295) : ust x = x % 256 ∧ ucy x = x / 256 % 256 ∧ ucl x = x / 65536 % 256 :=
  ⟨and255 x h0 (by omega), and255 _ (by omega) (by omega), and255 _ (by omega) (by omega)⟩
theorem kept_eq : ∀ s : Fin 256, (bits .andNot .i64 ((s.val : Nat) : Int) 22 == 0) = (bits .and .i64 ((s.val : Nat) : Int) 22 == ((s.val : Nat) : Int)) := by decide +kernel
theorem ustok_eq (x : Int) (h0 : 0 ≤ x) (h1 : x ≤ 4294967295) : ustok x = (bits .and .i64 (x % 256) 22 == x % 256) := by
  have := kept_eq ⟨(x % 256).toNat, by omega⟩
  rw [ustok, (ust_eq x h0 h1).1]
  simpa [show ((x % 256).toNat : Int) = x % 256 by omega] using this
theorem and22 : ∀ s : Fin 32, 0 ≤ bits .and .i64 ((s.val : Nat) : Int) 22 ∧ bits .and .i64 ((s.val : Nat) : Int) 22 ≤ 31 := by decide +kernel
theorem and22_le (st : Int) (h0 : 0 ≤ st) (h1 : st ≤ 31) : 0 ≤ bits .and .i64 st 22 ∧ bits .and .i64 st 22 ≤ 31 := by
  have := and22 ⟨st.toNat, by omega⟩
  simpa [show (st.toNat : Int) = st by omega] using this
theorem or_add (a b k : Nat) (ha : a < 2 ^ k) (hb : b * 2 ^ k < 9223372036854775808) (ha' : a < 9223372036854775808) : bits .or .i64 (a : Int) ((b * 2 ^ k : Nat) : Int) = ((a + b * 2 ^ k : Nat) : Int) := by
  rw [i64_or_nat a _ ha' hb]
  have h := Nat.shiftLeft_add_eq_or_of_lt ha b
  rw [Nat.shiftLeft_eq] at h
  rw [Nat.or_comm, ← h, Nat.add_comm]
theorem pk0_eq (st cy cl oc : Int) (h1 : 0 ≤ st ∧ st ≤ 31) (h2 : 0 ≤ cy ∧ cy ≤ 2) (h3 : 0 ≤ cl ∧ cl ≤ 254) (h4 : 0 ≤ oc ∧ oc ≤ 255) : pk0 st cy cl oc = qk0 st cy cl oc := by
  obtain ⟨q1, q2⟩ := and22_le st h1.1 h1.2
  unfold pk0 qk0
  generalize bits .and .i64 st 22 = s at q1 q2
  obtain ⟨s, rfl⟩ := Int.eq_ofNat_of_zero_le q1
  obtain ⟨cy, rfl⟩ := Int.eq_ofNat_of_zero_le h2.1
  obtain ⟨cl, rfl⟩ := Int.eq_ofNat_of_zero_le h3.1
  obtain ⟨oc, rfl⟩ := Int.eq_ofNat_of_zero_le h4.1
  have e1 := or_add s cy 8 (by omega) (by omega) (by omega)
  have e2 := or_add (s + cy * 2 ^ 8) cl 16 (by omega) (by omega) (by omega)
  have e3 := or_add (s + cy * 2 ^ 8 + cl * 2 ^ 16) oc 24 (by omega) (by omega) (by omega)
  have c1 : ((cy : Int) * 256) = ((cy * 2 ^ 8 : Nat) : Int) := by omega
  have c2 : ((cl : Int) * 65536) = ((cl * 2 ^ 16 : Nat) : Int) := by omega
  have c3 : ((oc : Int) * 16777216) = ((oc * 2 ^ 24 : Nat) : Int) := by omega
  rw [c1, c2, c3, e1, e2, e3]
  omega
end Go.Proofs.Ytajplaebcbojgaa
