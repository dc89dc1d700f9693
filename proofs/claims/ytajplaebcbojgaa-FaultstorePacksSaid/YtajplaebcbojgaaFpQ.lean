/- The reference's Unpack, whole. -/
import Derived.Test.YtajplaebcbojgaaProg
import Derived.WalkKit
import Derived.WalkSpells
import Derived.WalkLawsBesides
import Derived.KernelRfl
import Derived.Deep.RegionHeld3
import Derived.Deep.RegionWith
import Derived.Deep.RegionLaw
import Derived.Deep.QuietTactic
import Derived.BigQuiet
import Derived.BigGuardPart
import Derived.Deep.DeepCutAuto
import Derived.Deep.LoopGhost
import Derived.Lib.Hide
import Derived.Handy
import Derived.Test.YtajplaebcbojgaaFpM
import Derived.Test.YtajplaebcbojgaaFpP
set_option linter.unusedVariables false
set_option linter.unusedSimpArgs false
namespace Go.Proofs.Ytajplaebcbojgaa
open Go.RowKit
/-- The words l are accepted by the reference's Unpack. -/
def qgood (l : List Int) : Bool := qhead l && QOK l (l[2]?.getD 0).toNat (l[0]?.getD 0) (l[1]?.getD 0)
theorem r52_unpack (a : Option Addr) (n c : Nat) (l : List Int) (w : World) (hs : SlI w .u32 a n l) (hl : ∀ x ∈ l, 0 ≤ x ∧ x ≤ 4294967295) (hn : n ≤ 4611686018427387904) :
    Calls Try.prog 11 #[.slice a n c] w fun e w' => Below w.heap.size w w' ∧
      ((qgood l = false ∧ e = .returned (.tuple #[.agg #[.int .i64 0, .int .i64 0, .int .i64 0, .int .i64 0, .int .i64 0, .slice none 0 0, .int .i64 0], .bool false])) ∨
       (qgood l = true ∧ ∃ A k, e = .returned (.tuple #[.agg #[.int .i64 ((l[0]?.getD 0) % 256), .int .i64 0, .int .i64 ((l[0]?.getD 0) / 256 % 256), .int .i64 ((l[0]?.getD 0) / 65536 % 256), .int .i64 ((l[0]?.getD 0) / 16777216), .slice A (l[2]?.getD 0).toNat k, .int .i64 (l[1]?.getD 0)], .bool true]) ∧ w'.ownsRow w.heap.size 3 1 (.slice A (l[2]?.getD 0).toNat k) (l[2]?.getD 0).toNat ((qfr l (l[2]?.getD 0).toNat).map (.int .i64)))) := by
  cases h1 : qhead l
  · exact (r52_unpack_head a n c l w hs hl hn h1).mono fun e w' ⟨he, hb⟩ => ⟨hb, .inl ⟨by simp [qgood, h1], he⟩⟩
  have hlen := hs.1
  have hu : 3 ≤ n ∧ l[2]?.getD 0 ≤ 8 ∧ (n : Int) = 3 + 2 * l[2]?.getD 0 := by
    simpa [qhead, hlen] using h1
  obtain ⟨u1, u2, u3⟩ := hu
  obtain ⟨b, off, rfl, hb, hc⟩ := hs.2 (by omega)
  have hl' : ∀ i, i < n → 0 ≤ l[i]?.getD 0 ∧ l[i]?.getD 0 ≤ 4294967295 := fun i hi => hl _ (by rw [List.getElem?_eq_getElem (by omega)]; exact List.getElem_mem _)
  have m2 := hl' 2 (by omega)
  refine (r52_unpack_loop b off n c l w (l[2]?.getD 0).toNat (l[0]?.getD 0) (l[1]?.getD 0) hb hc hl' (by omega) (by omega) (by omega) rfl rfl (by omega)).mono fun e w' hq => ?_
  obtain ⟨hB, hr⟩ := hq
  refine ⟨hB, ?_⟩
  rcases hr with ⟨h3, he⟩ | ⟨h3, A, k, he, ho⟩
  · exact .inl ⟨by simp [qgood, h3], he⟩
  · exact .inr ⟨by simp [qgood, h1, h3], A, k, he, ho⟩
end Go.Proofs.Ytajplaebcbojgaa
