/- Slices of integers that are only read, and the plain functions that the library's searches compute. -/
import Derived.Test.YtajplaebcbojgaaProg
import Derived.WalkKit
import Derived.WalkSpells
import Derived.WalkLawsBesides
import Derived.KernelRfl
import Derived.Deep.RegionHeld3
import Derived.Deep.RegionWith
import Derived.Deep.RegionLaw
import Derived.Deep.QuietTactic
import Derived.BigQuiet
import Derived.BigGuardPart
import Derived.Deep.DeepCutAuto
import Derived.Deep.LoopGhost
import Derived.Lib.Hide
import Derived.Handy
import Derived.Test.YtajplaebcbojgaaBase
set_option linter.unusedVariables false
set_option linter.unusedSimpArgs false
namespace Go.Proofs.Ytajplaebcbojgaa
open Go.RowKit

/-- The slice (a, n) reads as the integers xs of kind k. -/
def SlI (w : World) (k : IntKind) (a : Option Addr) (n : Nat) (xs : List Int) : Prop :=
  xs.length = n ∧ (0 < n → ∃ b off, a = some ⟨b, off, none⟩ ∧ b < w.heap.size ∧ ∀ i, i < n → w.cell? ⟨b, off + i, none⟩ = some (.int k (xs[i]?.getD 0)))
theorem SlI.len {w : World} {k : IntKind} {a : Option Addr} {n : Nat} {xs : List Int} (h : SlI w k a n xs) : xs.length = n := h.1
theorem SlI.below {w w' : World} {k : IntKind} {a : Option Addr} {n B : Nat} {xs : List Int} (h : SlI w k a n xs) (hb : Below B w w') (hB : w.heap.size ≤ B) : SlI w' k a n xs := by
  refine ⟨h.1, fun hn => ?_⟩
  obtain ⟨b, off, ha, hl, hc⟩ := h.2 hn
  exact ⟨b, off, ha, Nat.lt_of_lt_of_le hl hb.size, fun i hi => (hb.cell (p := ⟨b, off + i, none⟩) (show b < B by omega)).trans (hc i hi)⟩
theorem SlI.keep {w w' : World} {k : IntKind} {a : Option Addr} {n : Nat} {xs : List Int} (h : SlI w k a n xs) (hb : Below w.heap.size w w') : SlI w' k a n xs := h.below hb (Nat.le_refl _)
theorem SlI.nil (w : World) (k : IntKind) : SlI w k none 0 [] := ⟨rfl, fun h => absurd h (Nat.lt_irrefl 0)⟩

/-- What the call owns reads as a slice of integers. -/
theorem SlI.of_own {w : World} {k : IntKind} {A : Option Addr} {n c base : Nat} {e : TypeId} {xs : List Int} (h : w.ownsRow base e 1 (.slice A n c) n (xs.map (.int k))) : SlI w k A n xs := by
  have hl : xs.length = n := by have := h.1; simpa using this
  refine ⟨hl, fun hn => ?_⟩
  have h0 := h
  rcases h.2 with ⟨hv, h2⟩ | ⟨g, cap, cur, hv, hg, hh, h1, h2, h3, h4⟩
  · omega
  · injection hv with hA _ hc
    subst hA hc
    have hlt : g < w.heap.size := by
      rcases Nat.lt_or_ge g w.heap.size with hlt | hge
      · exact hlt
      · rw [Array.getElem?_eq_none hge] at hh; cases hh
    refine ⟨g, 0, rfl, hlt, fun i hi => ?_⟩
    have := h0.cellAt i (by omega)
    rw [Nat.zero_add, this]
    simp [List.getElem?_eq_getElem (show i < xs.length by omega)]

/-- Where the first x with p x stands, counted from i; -1: nowhere. -/
def fidx {α : Type} (p : α → Bool) : List α → Int → Int
  | [], _ => -1
  | x :: xs, i => bif p x then i else fidx p xs (i + 1)
theorem fidx_drop {α : Type} (p : α → Bool) (xs : List α) (k : Nat) (d : α) (hk : k < xs.length) :
    fidx p (xs.drop k) k = bif p (xs[k]?.getD d) then (k : Int) else fidx p (xs.drop (k + 1)) ((k : Int) + 1) := by
  rw [List.drop_eq_getElem_cons hk, fidx]
  simp [List.getElem?_eq_getElem hk]
theorem fidx_lo {α : Type} (p : α → Bool) (xs : List α) : ∀ i : Int, 0 ≤ i → (decide (0 ≤ fidx p xs i) = xs.any p) := by
  induction xs with
  | nil => intro i _; simp [fidx]
  | cons x xs ih =>
    intro i hi
    rw [fidx, List.any_cons]
    cases p x
    · simpa using ih (i + 1) (by omega)
    · simpa using hi
/-- The elements from k on are equal. -/
def eqFrom (xs ys : List Int) (k : Nat) : Bool := xs.drop k == ys.drop k
theorem eqFrom_step (xs ys : List Int) (k : Nat) (hx : k < xs.length) (hy : k < ys.length) :
    eqFrom xs ys k = ((xs[k]?.getD 0 == ys[k]?.getD 0) && eqFrom xs ys (k + 1)) := by
  have e1 := List.drop_eq_getElem_cons hx
  have e2 := List.drop_eq_getElem_cons hy
  have e3 : xs[k]?.getD 0 = xs[k] := by simp [List.getElem?_eq_getElem hx]
  have e4 : ys[k]?.getD 0 = ys[k] := by simp [List.getElem?_eq_getElem hy]
  rw [e3, e4, eqFrom, e1, e2]
  rfl
theorem eqFrom_end (xs ys : List Int) (k : Nat) (hx : xs.length ≤ k) (hy : ys.length ≤ k) : eqFrom xs ys k = true := by
  unfold eqFrom
  rw [List.drop_eq_nil_of_le hx, List.drop_eq_nil_of_le hy]; rfl
end Go.Proofs.Ytajplaebcbojgaa
