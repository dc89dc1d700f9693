/- faultstore.Unpack, whole; the reference's in, Good, numbers, SameFault. -/
import Derived.Test.YtajplaebcbojgaaProg
import Derived.WalkKit
import Derived.WalkSpells
import Derived.WalkLawsBesides
import Derived.KernelRfl
import Derived.Deep.RegionHeld3
import Derived.Deep.RegionWith
import Derived.Deep.RegionLaw
import Derived.Deep.QuietTactic
import Derived.BigQuiet
import Derived.BigGuardPart
import Derived.Deep.DeepCutAuto
import Derived.Deep.LoopGhost
import Derived.Lib.Hide
import Derived.Handy
import Derived.Test.YtajplaebcbojgaaFpG
set_option linter.unusedVariables false
set_option linter.unusedSimpArgs false
namespace Go.Proofs.Ytajplaebcbojgaa
open Go.RowKit
/-- The words l are accepted by Unpack. -/
def ugood (l : List Int) : Bool := uhead l && (ustok (l[0]?.getD 0) && UOK l (l[2]?.getD 0).toNat (l[0]?.getD 0) (l[1]?.getD 0))
theorem fs_unpack (a : Option Addr) (n c : Nat) (l : List Int) (w : World) (hs : SlI w .u32 a n l) (hl : ∀ x ∈ l, 0 ≤ x ∧ x ≤ 4294967295) (hn : n ≤ 4611686018427387904) :
    Calls Try.prog 7 #[.slice a n c] w fun e w' => Below w.heap.size w w' ∧
      ((ugood l = false ∧ e = .returned (.tuple #[.agg #[.int .i64 0, .int .i64 0, .int .i64 0, .int .i64 0, .int .i64 0, .slice none 0 0, .int .i64 0], .int .i64 3])) ∨
       (ugood l = true ∧ ∃ A k, e = .returned (.tuple #[.agg #[.int .i64 (ust (l[0]?.getD 0)), .int .i64 0, .int .i64 (ucy (l[0]?.getD 0)), .int .i64 (ucl (l[0]?.getD 0)), .int .i64 (uoc (l[0]?.getD 0)), .slice A (l[2]?.getD 0).toNat k, .int .i64 (l[1]?.getD 0)], .int .i64 0]) ∧ w'.ownsRow w.heap.size 3 1 (.slice A (l[2]?.getD 0).toNat k) (l[2]?.getD 0).toNat ((ufr l (l[2]?.getD 0).toNat).map (.int .i64)))) := by
  cases h1 : uhead l
  · exact (fs_unpack_head a n c l w hs hl hn h1).mono fun e w' ⟨he, hb⟩ => ⟨hb, .inl ⟨by simp [ugood, h1], he⟩⟩
  cases h2 : ustok (l[0]?.getD 0)
  · exact (fs_unpack_st a n c l w hs hl hn h1 h2).mono fun e w' ⟨he, hb⟩ => ⟨hb, .inl ⟨by simp [ugood, h2], he⟩⟩
  have hlen := hs.1
  have hu : 3 ≤ n ∧ l[2]?.getD 0 ≤ 8 ∧ (n : Int) = 3 + 2 * l[2]?.getD 0 ∧ l[1]?.getD 0 ≤ 1073741824 := by
    simpa [uhead, hlen] using h1
  obtain ⟨u1, u2, u3, u4⟩ := hu
  obtain ⟨b, off, rfl, hb, hc⟩ := hs.2 (by omega)
  have hl' : ∀ i, i < n → 0 ≤ l[i]?.getD 0 ∧ l[i]?.getD 0 ≤ 4294967295 := fun i hi => hl _ (by rw [List.getElem?_eq_getElem (by omega)]; exact List.getElem_mem _)
  have m2 := hl' 2 (by omega)
  exact (fs_unpack_loop b off n c l w (l[2]?.getD 0).toNat (l[0]?.getD 0) (l[1]?.getD 0) hb hc hl' (by omega) (by omega) (by omega) rfl rfl (by omega) u4 h2).mono fun e w' ⟨hB, hr⟩ => ⟨hB, by
    rcases hr with ⟨h3, he⟩ | ⟨h3, A, k, he, ho⟩
    · exact .inl ⟨by simp [ugood, h3], he⟩
    · exact .inr ⟨by simp [ugood, h1, h2, h3], A, k, he, ho⟩⟩

def rin (x a b : Int) : Bool := decide (a ≤ x) && decide (x ≤ b)
theorem r52_in (x a b : Int) (w : World) : Calls Try.prog 18 #[.int .i64 x, .int .i64 a, .int .i64 b] w fun e w' => e = .returned (.bool (rin x a b)) ∧ w = w' := by
  go_enter Try.func18, Try.ntmps18
  go_wp2
  all_goals (go_ret; exact ⟨(ret_b (by first | (simp [rin, *]; done) | (simp [rin, *]; omega) | (simp_all [rin]; done) | (simp_all [rin]; omega))), by trivial⟩)
end Go.Proofs.Ytajplaebcbojgaa
