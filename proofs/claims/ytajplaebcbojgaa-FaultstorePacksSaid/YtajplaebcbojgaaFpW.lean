/- The law FaultstorePacks, walked: contracts of what is good. -/
import Derived.Test.YtajplaebcbojgaaProg
import Derived.WalkKit
import Derived.WalkSpells
import Derived.WalkLawsBesides
import Derived.KernelRfl
import Derived.Deep.RegionHeld3
import Derived.Deep.RegionWith
import Derived.Deep.RegionLaw
import Derived.Deep.QuietTactic
import Derived.BigQuiet
import Derived.BigGuardPart
import Derived.Deep.DeepCutAuto
import Derived.Deep.LoopGhost
import Derived.Lib.Hide
import Derived.Handy
import Derived.Test.YtajplaebcbojgaaFpV
set_option linter.unusedVariables false
set_option linter.unusedSimpArgs false
namespace Go.Proofs.Ytajplaebcbojgaa
open Go.RowKit
theorem fs_pack_good (st ct cy cl oc : Int) (a : Option Addr) (n c : Nat) (fr : List Int) (la : Int) (w : World) (hs : SlI w .i64 a n fr) (h : fgood st cy cl oc la n fr = true) : Calls Try.prog 6 #[.agg #[.int .i64 st, .int .i64 ct, .int .i64 cy, .int .i64 cl, .int .i64 oc, .slice a n c, .int .i64 la]] w fun e w' => ∃ A k, e = .returned (.tuple #[.slice A (3 + 2 * n) k, .int .i64 0]) ∧ Hid (SlI w' .u32 A (3 + 2 * n) (pkL st cy cl oc la fr)) ∧ Below w.heap.size w w' := by
  simp only [fgood, Bool.and_eq_true, decide_eq_true_eq, Bool.not_eq_true'] at h
  obtain ⟨h1, h2, h3, h4, h5, h6, h7⟩ := h
  exact (fs_pack_ok st ct cy cl oc a n c fr la w hs h1 h2 h3 h4 h5 h6 h7).mono fun e w' ⟨A, k, he, ho, hb⟩ => ⟨A, k, he, Lib.hid (SlI.of_own ho), hb⟩
theorem r52_pack_good (st ct cy cl oc : Int) (a : Option Addr) (n c : Nat) (fr : List Int) (la : Int) (w : World) (hs : SlI w .i64 a n fr) (h : fgood st cy cl oc la n fr = true) : Calls Try.prog 10 #[.agg #[.int .i64 st, .int .i64 ct, .int .i64 cy, .int .i64 cl, .int .i64 oc, .slice a n c, .int .i64 la]] w fun e w' => ∃ A k, e = .returned (.slice A (3 + 2 * n) k) ∧ Hid (SlI w' .u32 A (3 + 2 * n) (pkL st cy cl oc la fr)) ∧ Below w.heap.size w w' := by
  obtain ⟨h1, h2, h3, h4, h5, h6, h7⟩ := fgood_parts h
  obtain ⟨b0, b1⟩ := and22_le st h1.1 h1.2
  have hlen : fr.length = n := hs.1
  have e := pkL_eq (by rw [hlen]; exact h)
  rw [hlen] at e
  exact (r52_pack st ct cy cl oc a n c fr la w hs h1 h2 h3 h4 h5 h7 h6 b0 b1).mono fun e' w' ⟨A, k, he, ho, hb⟩ => ⟨A, k, he, Lib.hid (by rw [e]; exact SlI.of_own ho), hb⟩
theorem fs_unpack_good (a : Option Addr) (n c : Nat) (l : List Int) (w : World) (hs : SlI w .u32 a n l) (hl : ∀ x ∈ l, 0 ≤ x ∧ x ≤ 4294967295) (hn : n ≤ 4611686018427387904) (h : ugood l = true) : Calls Try.prog 7 #[.slice a n c] w fun e w' => ∃ A k, e = .returned (.tuple #[.agg #[.int .i64 (ust (l[0]?.getD 0)), .int .i64 0, .int .i64 (ucy (l[0]?.getD 0)), .int .i64 (ucl (l[0]?.getD 0)), .int .i64 (uoc (l[0]?.getD 0)), .slice A (l[2]?.getD 0).toNat k, .int .i64 (l[1]?.getD 0)], .int .i64 0]) ∧ Hid (SlI w' .i64 A (l[2]?.getD 0).toNat (ufr l (l[2]?.getD 0).toNat)) ∧ Below w.heap.size w w' :=
  (fs_unpack a n c l w hs hl hn).mono fun e w' ⟨hB, hr⟩ => by
    rcases hr with ⟨h3, _⟩ | ⟨_, A, k, he, ho⟩
    · rw [h] at h3; cases h3
    · exact ⟨A, k, he, Lib.hid (SlI.of_own ho), hB⟩
theorem r52_unpack_good (a : Option Addr) (n c : Nat) (l : List Int) (w : World) (hs : SlI w .u32 a n l) (hl : ∀ x ∈ l, 0 ≤ x ∧ x ≤ 4294967295) (hn : n ≤ 4611686018427387904) (h : ugood l = true) : Calls Try.prog 11 #[.slice a n c] w fun e w' => ∃ A k, e = .returned (.tuple #[.agg #[.int .i64 (ust (l[0]?.getD 0)), .int .i64 0, .int .i64 (ucy (l[0]?.getD 0)), .int .i64 (ucl (l[0]?.getD 0)), .int .i64 (uoc (l[0]?.getD 0)), .slice A (l[2]?.getD 0).toNat k, .int .i64 (l[1]?.getD 0)], .bool true]) ∧ Hid (SlI w' .i64 A (l[2]?.getD 0).toNat (ufr l (l[2]?.getD 0).toNat)) ∧ Below w.heap.size w w' := by
  have r0 := rd_range hl 0
  obtain ⟨e1, e2, e3⟩ := ust_eq _ r0.1 r0.2
  have e4 := ugood_parts hl h
  refine (r52_unpack a n c l w hs hl hn).mono fun e w' ⟨hB, hr⟩ => ?_
  rcases hr with ⟨h3, _⟩ | ⟨_, A, k, he, ho⟩
  · rw [← ugood_qgood hl, h] at h3; cases h3
  · rw [← e4] at ho
    exact ⟨A, k, by rw [he, e1, e2, e3]; rfl, Lib.hid (SlI.of_own ho), hB⟩
end Go.Proofs.Ytajplaebcbojgaa
