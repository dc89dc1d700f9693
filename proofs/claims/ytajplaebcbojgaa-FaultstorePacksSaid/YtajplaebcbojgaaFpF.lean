/- faultstore.Unpack. -/
import Derived.Test.YtajplaebcbojgaaProg
import Derived.WalkKit
import Derived.WalkSpells
import Derived.WalkLawsBesides
import Derived.KernelRfl
import Derived.Deep.RegionHeld3
import Derived.Deep.RegionWith
import Derived.Deep.RegionLaw
import Derived.Deep.QuietTactic
import Derived.BigQuiet
import Derived.BigGuardPart
import Derived.Deep.DeepCutAuto
import Derived.Deep.LoopGhost
import Derived.Lib.Hide
import Derived.Handy
import Derived.Test.YtajplaebcbojgaaFpE
import Derived.StillTailTactics
set_option linter.unusedVariables false
set_option linter.unusedSimpArgs false
namespace Go.Proofs.Ytajplaebcbojgaa
open Go.RowKit

/-- The status that Unpack reads has none but the bits that are kept. -/
def ustok (x : Int) : Bool := bits .andNot .i64 (ust x) 22 == 0
set_option maxHeartbeats 2000000 in
theorem fs_unpack_st (a : Option Addr) (n c : Nat) (l : List Int) (w : World) (hs : SlI w .u32 a n l) (hl : ∀ x ∈ l, 0 ≤ x ∧ x ≤ 4294967295) (hn : n ≤ 4611686018427387904) (h : uhead l = true) (h' : ustok (l[0]?.getD 0) = false) :
    Calls Try.prog 7 #[.slice a n c] w fun e w' => e = .returned (.tuple #[.agg #[.int .i64 0, .int .i64 0, .int .i64 0, .int .i64 0, .int .i64 0, .slice none 0 0, .int .i64 0], .int .i64 3]) ∧ Below w.heap.size w w' := by
  have hlen := hs.1
  have hu : 3 ≤ n ∧ l[2]?.getD 0 ≤ 8 ∧ (n : Int) = 3 + 2 * l[2]?.getD 0 ∧ l[1]?.getD 0 ≤ 1073741824 := by
    simpa [uhead, hlen] using h
  obtain ⟨u1, u2, u3, u4⟩ := hu
  obtain ⟨b, off, rfl, hb, hc⟩ := hs.2 (by omega)
  have c0 := hc 0 (by omega)
  have c1 := hc 1 (by omega)
  have c2 := hc 2 (by omega)
  have m0 := hl (l[0]?.getD 0) (by rw [List.getElem?_eq_getElem (by omega)]; exact List.getElem_mem _)
  have m1 := hl (l[1]?.getD 0) (by rw [List.getElem?_eq_getElem (by omega)]; exact List.getElem_mem _)
  have m2 := hl (l[2]?.getD 0) (by rw [List.getElem?_eq_getElem (by omega)]; exact List.getElem_mem _)
  generalize l[0]?.getD 0 = x0 at c0 m0 h'
  generalize l[1]?.getD 0 = x1 at c1 m1 u4
  generalize l[2]?.getD 0 = x2 at c2 m2 u2 u3
  have h5a : (n : Int) ≤ 3 + 2 * x2 := by omega
  have h5b : 3 + 2 * x2 ≤ (n : Int) := by omega
  clear h hl hs hc hlen u3
  obtain ⟨p1, p2⟩ := m1
  obtain ⟨p3, p4⟩ := m2
  obtain ⟨p5, p6⟩ := m0
  have d0 : ∀ W, Below w.heap.size w W → W.cell? ⟨b, off, none⟩ = some (.int .u32 x0) := fun W hW => (hW.cell (p := ⟨b, off, none⟩) hb).trans c0
  have d1 : ∀ W, Below w.heap.size w W → W.cell? ⟨b, off + 1, none⟩ = some (.int .u32 x1) := fun W hW => (hW.cell (p := ⟨b, off + 1, none⟩) hb).trans c1
  have d2 : ∀ W, Below w.heap.size w W → W.cell? ⟨b, off + 2, none⟩ = some (.int .u32 x2) := fun W hW => (hW.cell (p := ⟨b, off + 2, none⟩) hb).trans c2
  clear c0 c1 c2
  have h7 : (bits .andNot .i64 (bits .and .i64 x0 255) 22 == 0) = false := h'
  clear h'
  go_enter Try.func7, Try.ntmps7
  go_wp2_with fail
  (refine bodyPost_ret (res_row_tmp (cs := #[.int .i64 0, .int .i64 0, .int .i64 0, .int .i64 0, .int .i64 0, .slice none 0 0, .int .i64 0]) Try.results7 (g := w.heap.size) (t := 24) rfl ?_ Try.underlying24 rfl (by kernel_rfl)) rfl ⟨rfl, ?_⟩; (exact (by apply Blk.cast; repeat' (first | (with_reducible assumption) | (with_reducible apply Blk.drew) | (with_reducible apply Blk.drewN) | ((with_reducible apply Blk.new); first | (with_reducible rfl) | omega | (simp; done) | (simp; omega)) | (with_reducible apply Blk.alloc) | (with_reducible apply Blk.set_) | ((with_reducible apply Blk.far); first | omega | (simp; done) | (simp; omega)) | (with_reducible rfl) | ((with_reducible apply Blk.keepC); with_reducible assumption) | ((with_reducible apply Blk.keepB); with_reducible assumption) | (simp; done) | (simp [*]; done) | (simp_all []; done)))); (exact (by repeat' (first | (with_reducible exact Below.refl _ _) | (with_reducible assumption) | (with_reducible refine Below.alloc ?_ ?_ _) | (with_reducible refine Below.drew ?_) | (with_reducible refine below_drewN ?_) | (with_reducible refine Below.setCell ?_ ?_ _) | (with_reducible refine Below.trans ?_ (Below.mono (by with_reducible assumption) ?_)) | go_size))))
end Go.Proofs.Ytajplaebcbojgaa
