/- How a slice of integers that comes in reads. -/
import Derived.Test.YtajplaebcbojgaaProg
import Derived.WalkKit
import Derived.WalkSpells
import Derived.WalkLawsBesides
import Derived.KernelRfl
import Derived.Deep.RegionHeld3
import Derived.Deep.RegionWith
import Derived.Deep.RegionLaw
import Derived.Deep.QuietTactic
import Derived.BigQuiet
import Derived.BigGuardPart
import Derived.Deep.DeepCutAuto
import Derived.Deep.LoopGhost
import Derived.Lib.Hide
import Derived.Handy
import Derived.Test.YtajplaebcbojgaaRead
import Derived.Test.YtajplaebcbojgaaSl
import Derived.ChangeSlices
set_option linter.unusedVariables false
set_option linter.unusedSimpArgs false
namespace Go.Proofs.Ytajplaebcbojgaa
open Go.RowKit
open Go.ChangeShapes Go.WideShapes Go.ChangeAt
theorem Rd.ints {P : Program} {W : World} {t e : TypeId} {k : IntKind} {v : Value} (ht : P.underlying t = some (.slice e)) (he : P.underlying e = some (.int k)) (h1 : P.cellsOf e = 1) (h : Rd P W t [v]) :
    ∃ a n c xs, v = .slice a n c ∧ SlI W k a n xs ∧ n ≤ 9223372036854775807 ∧ ∀ x ∈ xs, (Lit.int k x).wf = true := by
  rcases Rd.slice ht h with h0 | ⟨a, n, c, h0, hnc, hc, hi⟩
  · simp only [List.cons.injEq, and_true] at h0
    exact ⟨none, 0, 0, [], h0, SlI.nil W k, by omega, by simp⟩
  · simp only [List.cons.injEq, and_true] at h0
    have hm : n ≤ 9223372036854775807 := by have : maxLen = 9223372036854775807 := rfl; omega
    have hx : ∀ i, i < n → ∃ m : Int, W.cell? (a.add i) = some (.int k m) ∧ (Lit.int k m).wf = true := by
      intro i hin
      obtain ⟨cs', hcs, hr⟩ := hi i hin
      obtain ⟨m, rfl, hw⟩ := Rd.int he hr
      rw [h1, Nat.mul_one] at hcs
      exact ⟨m, cell_of_cells?_one hcs, hw⟩
    let g : Nat → Int := fun i => if hin : i < n then Classical.choose (hx i hin) else 0
    have hg : ∀ i, i < n → W.cell? (a.add i) = some (.int k (g i)) ∧ (Lit.int k (g i)).wf = true := by
      intro i hin
      simp only [g, hin, dif_pos]
      exact Classical.choose_spec (hx i hin)
    refine ⟨some a, n, c, (List.range n).map g, h0, ⟨by simp, fun hn => ?_⟩, hm, ?_⟩
    · have c0 : W.cell? a = some (.int k (g 0)) := by simpa [Addr.add] using (hg 0 hn).1
      have hs : a.spot = none := by
        cases hsp : a.spot with
        | none => rfl
        | some x => simp [World.cell?, hsp] at c0; split at c0 <;> simp at c0
      have hb : a.block < W.heap.size := by
        rcases Nat.lt_or_ge a.block W.heap.size with hlt | hge
        · exact hlt
        · simp [World.cell?, Array.getElem?_eq_none hge] at c0
      obtain ⟨b, o, s⟩ := a
      simp only at hs hb
      subst hs
      refine ⟨b, o, rfl, hb, fun i hin => ?_⟩
      have := (hg i hin).1
      have e1 : (⟨b, o, none⟩ : Addr).add i = ⟨b, o + i, none⟩ := by
        unfold Addr.add; split
        · subst_vars; rfl
        · rfl
      rw [e1] at this
      rw [this]
      simp [hin]
    · intro x hx'
      obtain ⟨i, hin, rfl⟩ := List.mem_map.1 hx'
      exact (hg i (by simpa using hin)).2
end Go.Proofs.Ytajplaebcbojgaa
