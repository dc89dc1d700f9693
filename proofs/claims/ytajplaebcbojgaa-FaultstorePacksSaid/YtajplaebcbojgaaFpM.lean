/- The reference's Unpack where the head is accepted. -/
import Derived.Test.YtajplaebcbojgaaProg
import Derived.WalkKit
import Derived.WalkSpells
import Derived.WalkLawsBesides
import Derived.KernelRfl
import Derived.Deep.RegionHeld3
import Derived.Deep.RegionWith
import Derived.Deep.RegionLaw
import Derived.Deep.QuietTactic
import Derived.BigQuiet
import Derived.BigGuardPart
import Derived.Deep.DeepCutAuto
import Derived.Deep.LoopGhost
import Derived.Lib.Hide
import Derived.Handy
import Derived.Test.YtajplaebcbojgaaFpL
set_option linter.unusedVariables false
set_option linter.unusedSimpArgs false
namespace Go.Proofs.Ytajplaebcbojgaa
open Go.RowKit
/-- The k-th value of a frame, as the reference computes it (it may go round). -/
def gv (l : List Int) (k : Nat) : Int := IntKind.i64.wrap (IntKind.i64.wrap (IntKind.i64.wrap (l[3 + 2 * k]?.getD 0 * 4294967296) + l[3 + 2 * k + 1]?.getD 0) - 1099511627776)
def QR (w : World) (l : List Int) (m : Nat) (x0 x1 : Int) (i : Value) (wr : World) : Prop :=
  ∃ (k : Nat) (Ak : Option Addr) (dk : Nat), k ≤ m ∧ i = .int .i64 ((3 + 2 * k : Nat) : Int) ∧ Blk wr (w.heap.size + 1) 24 #[.int .i64 (x0 % 256), .int .i64 0, .int .i64 (x0 / 256 % 256), .int .i64 (x0 / 65536 % 256), .int .i64 (x0 / 16777216), .slice Ak k dk, .int .i64 x1] ∧ Blk wr w.heap.size 24 #[.int .i64 0, .int .i64 0, .int .i64 0, .int .i64 0, .int .i64 0, .slice none 0 0, .int .i64 0] ∧
    wr.ownsRow w.heap.size 3 1 (.slice Ak k dk) k ((List.range k).map fun j => .int .i64 (gv l j)) ∧ Below w.heap.size w wr
def qfr (l : List Int) (m : Nat) : List Int := (List.range m).map (gv l)
def QOK (l : List Int) (m : Nat) (x0 x1 : Int) : Bool := (bits .and .i64 (x0 % 256) 22 == x0 % 256) && rgood (x0 % 256) (x0 / 256 % 256) (x0 / 65536 % 256) (x0 / 16777216) x1 m (qfr l m)
def QPost (w : World) (l : List Int) (m : Nat) (x0 x1 : Int) (e : Ending) (w' : World) : Prop := Below w.heap.size w w' ∧
  ((QOK l m x0 x1 = false ∧ e = .returned (.tuple #[.agg #[.int .i64 0, .int .i64 0, .int .i64 0, .int .i64 0, .int .i64 0, .slice none 0 0, .int .i64 0], .bool false])) ∨
   (QOK l m x0 x1 = true ∧ ∃ A c, e = .returned (.tuple #[.agg #[.int .i64 (x0 % 256), .int .i64 0, .int .i64 (x0 / 256 % 256), .int .i64 (x0 / 65536 % 256), .int .i64 (x0 / 16777216), .slice A m c, .int .i64 x1], .bool true]) ∧ w'.ownsRow w.heap.size 3 1 (.slice A m c) m ((qfr l m).map (.int .i64))))
set_option maxHeartbeats 4000000 in
theorem r52_unpack_loop (b off n c : Nat) (l : List Int) (w : World) (m : Nat) (x0 x1 : Int) (hb : b < w.heap.size) (hc : ∀ i, i < n → w.cell? ⟨b, off + i, none⟩ = some (.int .u32 (l[i]?.getD 0)))
    (hl : ∀ i, i < n → 0 ≤ l[i]?.getD 0 ∧ l[i]?.getD 0 ≤ 4294967295) (hm : m ≤ 8) (n1 : n ≤ 3 + 2 * m) (n2 : 3 + 2 * m ≤ n) (h0 : l[0]?.getD 0 = x0) (h1 : l[1]?.getD 0 = x1) (h2 : l[2]?.getD 0 = (m : Int)) :
    Calls Try.prog 11 #[.slice (some ⟨b, off, none⟩) n c] w (QPost w l m x0 x1) := by
  obtain ⟨i0, hi0, hz0, hz1, hz2⟩ := info_parts int_info
  have c0 := hc 0 (by omega)
  have c1 := hc 1 (by omega)
  have c2 := hc 2 (by omega)
  have m0 := hl 0 (by omega)
  have m1 := hl 1 (by omega)
  rw [h0] at c0 m0; rw [h1] at c1 m1; rw [h2] at c2
  obtain ⟨p1, p2⟩ := m0
  obtain ⟨p3, p4⟩ := m1
  have d0 : ∀ W, Below w.heap.size w W → W.cell? ⟨b, off, none⟩ = some (.int .u32 x0) := fun W hW => (hW.cell (p := ⟨b, off, none⟩) hb).trans c0
  have d1 : ∀ W, Below w.heap.size w W → W.cell? ⟨b, off + 1, none⟩ = some (.int .u32 x1) := fun W hW => (hW.cell (p := ⟨b, off + 1, none⟩) hb).trans c1
  have d2 : ∀ W, Below w.heap.size w W → W.cell? ⟨b, off + 2, none⟩ = some (.int .u32 m) := fun W hW => (hW.cell (p := ⟨b, off + 2, none⟩) hb).trans c2
  have Hc := Lib.hid hc; have Hl := Lib.hid hl; have H0 := Lib.hid h0; have H1 := Lib.hid h1; have H2 := Lib.hid h2
  clear hc hl h0 h1 h2 c0 c1 c2
  have n3 : (n : Int) ≤ 3 + 2 * (m : Int) := by omega
  have n4 : 3 + 2 * (m : Int) ≤ (n : Int) := by omega
  go_enter Try.func11, Try.ntmps11
  go_wp2_with fail
  go_loopw [6] (fun i wr => QR w l m x0 x1 i wr) (fun i _ => n - (intOf i).toNat)
  case atStart =>
    exact ⟨0, none, 0, Nat.zero_le _, rfl, (by apply Blk.cast; repeat' (first | (with_reducible assumption) | (with_reducible apply Blk.drew) | (with_reducible apply Blk.drewN) | ((with_reducible apply Blk.new); first | (with_reducible rfl) | omega | (simp; done) | (simp; omega)) | (with_reducible apply Blk.alloc) | (with_reducible apply Blk.set_) | ((with_reducible apply Blk.far); first | omega | (simp; done) | (simp; omega)) | (with_reducible rfl) | ((with_reducible apply Blk.keepC); with_reducible assumption) | ((with_reducible apply Blk.keepB); with_reducible assumption) | (simp; done))), (by apply Blk.cast; repeat' (first | (with_reducible assumption) | (with_reducible apply Blk.drew) | (with_reducible apply Blk.drewN) | ((with_reducible apply Blk.new); first | (with_reducible rfl) | omega | (simp; done) | (simp; omega)) | (with_reducible apply Blk.alloc) | (with_reducible apply Blk.set_) | ((with_reducible apply Blk.far); first | omega | (simp; done) | (simp; omega)) | (with_reducible rfl) | ((with_reducible apply Blk.keepC); with_reducible assumption) | ((with_reducible apply Blk.keepB); with_reducible assumption) | (simp; done))), ⟨rfl, .inl ⟨rfl, rfl⟩⟩, (by repeat' (first | (with_reducible exact Below.refl _ _) | (with_reducible assumption) | (with_reducible refine Below.alloc ?_ ?_ _) | (with_reducible refine Below.drew ?_) | (with_reducible refine below_drewN ?_) | (with_reducible refine Below.setCell ?_ ?_ _) | (with_reducible refine Below.trans ?_ (Below.mono (by with_reducible assumption) ?_)) | go_size))⟩
  case round =>
    obtain ⟨k, Ak, dk, hk, rfl, hbF, hbZ, hown, hB⟩ := hrel
    have Hown := Lib.hid hown
    have hBs : w.heap.size ≤ wr.heap.size := hB.size
    clear hown
    by_cases hlt : k < m
    · have c3 := Hc.out (3 + 2 * k) (by omega)
      have c4 := Hc.out (3 + 2 * k + 1) (by omega)
      obtain ⟨q1, q2⟩ := Hl.out (3 + 2 * k) (by omega)
      obtain ⟨q3, q4⟩ := Hl.out (3 + 2 * k + 1) (by omega)
      generalize hy : l[3 + 2 * k]?.getD 0 = y at c3 q1 q2
      generalize hz : l[3 + 2 * k + 1]?.getD 0 = z at c4 q3 q4
      have Hy := Lib.hid hy; have Hz := Lib.hid hz; clear hy hz
      have e3 : ∀ W, Below w.heap.size w W → W.cell? ⟨b, off + (3 + 2 * k), none⟩ = some (.int .u32 y) := fun W hW => (hW.cell (p := ⟨b, off + (3 + 2 * k), none⟩) hb).trans c3
      have e4 : ∀ W, Below w.heap.size w W → W.cell? ⟨b, off + (3 + 2 * k + 1), none⟩ = some (.int .u32 z) := fun W hW => (hW.cell (p := ⟨b, off + (3 + 2 * k + 1), none⟩) hb).trans c4
      clear c3 c4
      have f1 := hbF.cellA; have f2 := hbF.freeA; have f3 := hbZ.cellA; have f4 := hbZ.freeA
      have g1 : (0 : Int) ≤ 3 + 2 * (k : Int) := by omega
      have g2 : 3 + 2 * (k : Int) < (n : Int) := by omega
      have g5 : (0 : Int) ≤ 3 + 2 * (k : Int) + 1 := by omega
      have g6 : 3 + 2 * (k : Int) + 1 < (n : Int) := by omega
      have g11 : 3 + 2 * (k : Int) + 1 < 3 + 2 * (m : Int) := by omega
      have g12 : 3 + 2 * (k : Int) < 3 + 2 * (m : Int) := by omega
      have g4 : IntKind.i64.wrap (3 + 2 * (k : Int) + 1) = 3 + 2 * (k : Int) + 1 := IntWalk.i64_in _ (by omega)
      have g13 : IntKind.i64.wrap y = y := IntWalk.i64_in _ (by omega)
      have g14 : IntKind.i64.wrap z = z := IntWalk.i64_in _ (by omega)
      have g3 : (3 + 2 * (k : Int)).toNat = 3 + 2 * k := by omega
      have g7 : (3 + 2 * (k : Int) + 1).toNat = 3 + 2 * k + 1 := by omega
      have dum0 : True ∧ True := ⟨trivial, trivial⟩; have dum1 : True ∧ True := ⟨trivial, trivial⟩; have dum2 : True ∧ True := ⟨trivial, trivial⟩; have dum3 : True ∧ True := ⟨trivial, trivial⟩; have dum4 : True ∧ True := ⟨trivial, trivial⟩; have dum5 : True ∧ True := ⟨trivial, trivial⟩; have dum6 : True ∧ True := ⟨trivial, trivial⟩; have dum7 : True ∧ True := ⟨trivial, trivial⟩; have dum8 : True ∧ True := ⟨trivial, trivial⟩; have dum9 : True ∧ True := ⟨trivial, trivial⟩; have dum10 : True ∧ True := ⟨trivial, trivial⟩; have dum11 : True ∧ True := ⟨trivial, trivial⟩
      go_wp2_with fail
      go_region_law (refine step_append_own _ rfl (.tmp 54) (.tmp 69) 22 rfl w.heap.size 3 i0 (.int .i64 0) 1 8 Try.underlying22 hi0 hz0 hz1 hz2 rfl (by decide) _ k ((List.range k).map fun j => Value.int .i64 (gv l j)) rfl (by exact Hown.out.alloc _) ⟨wr.heap.size, 0, none⟩ 1 1 [.int .i64 (IntKind.i64.wrap (IntKind.i64.wrap (IntKind.i64.wrap (y * 4294967296) + z) - 1099511627776))] rfl rfl (by exact cell_one_new wr _ _) (by intro u hu; simp at hu; subst hu; rfl) (by simp only [maxLen]; omega) (by omega) (by first | omega | (simp; omega)) ?_; intro v1 w1 hownw1 hgroww1 _; obtain ⟨Aw1, cw1, rfl⟩ := own_shape hownw1; replace hgroww1 : World.grownBy _ _ (Value.ownBlock (.slice Ak k dk)) := hgroww1; have hk1 := Blk.grown (Blk.drew (hbF.alloc _)) hgroww1 (own_blk_ne Hown.out hbF (by decide)); have hz1 := Blk.grown (Blk.drew (hbZ.alloc _)) hgroww1 (own_blk_ne Hown.out hbZ (by decide)); have hB1 := below_grow (Below.drew (hB.alloc hBs _)) (by exact Hown.out.alloc _) hgroww1 (Nat.le_refl _) (by first | omega | (simp; omega)); have f5 := hk1.cell; have f6 := hk1.free; have Ho1 := Lib.hid hownw1; clear hownw1)
      all_goals
        go_wp2_with fail
        go_roundw
        case rel =>
          refine ⟨k + 1, Aw1, cw1, by omega, by go_num, (by apply Blk.cast; repeat' (first | (with_reducible assumption) | (with_reducible apply Blk.drew) | (with_reducible apply Blk.drewN) | ((with_reducible apply Blk.new); first | (with_reducible rfl) | omega | (simp; done) | (simp; omega)) | (with_reducible apply Blk.alloc) | (with_reducible apply Blk.set_) | ((with_reducible apply Blk.far); first | omega | (simp; done) | (simp; omega)) | (with_reducible rfl) | ((with_reducible apply Blk.keepC); with_reducible assumption) | ((with_reducible apply Blk.keepB); with_reducible assumption) | (simp; done))), (by apply Blk.cast; repeat' (first | (with_reducible assumption) | (with_reducible apply Blk.drew) | (with_reducible apply Blk.drewN) | ((with_reducible apply Blk.new); first | (with_reducible rfl) | omega | (simp; done) | (simp; omega)) | (with_reducible apply Blk.alloc) | (with_reducible apply Blk.set_) | ((with_reducible apply Blk.far); first | omega | (simp; done) | (simp; omega)) | (with_reducible rfl) | ((with_reducible apply Blk.keepC); with_reducible assumption) | ((with_reducible apply Blk.keepB); with_reducible assumption) | (simp; done))), ?_, (by repeat' (first | (with_reducible exact Below.refl _ _) | (with_reducible assumption) | (with_reducible refine Below.alloc ?_ ?_ _) | (with_reducible refine Below.drew ?_) | (with_reducible refine below_drewN ?_) | (with_reducible refine Below.setCell ?_ ?_ _) | (with_reducible refine Below.trans ?_ (Below.mono (by with_reducible assumption) ?_)) | go_size))⟩
          · have := ownsRow_setCell_other (a := ⟨w.heap.size + 1, 5, none⟩) Ho1.out (own_blk_ne Ho1.out hk1 (by decide)).symm (Value.slice Aw1 (k + 1) cw1)
            rw [List.range_succ, List.map_append]
            simpa [gv, Hy.out, Hz.out] using this
        case measure => simp [intOf]; omega
    · obtain rfl : k = m := by omega
      have hsl : SlI wr .i64 Ak k (qfr l k) := SlI.of_own (c := dk) (base := w.heap.size) (e := 3) (by
        have := Hown.out
        simpa [qfr, List.map_map, Function.comp_def] using this)
      have Hsl := Lib.hid hsl
      clear hsl
      have f1 := hbF.cellA; have f2 := hbF.freeA; have f3 := hbZ.cellA; have f4 := hbZ.freeA
      have hBs : w.heap.size ≤ wr.heap.size := hB.size
      have hn2 : ¬ (3 + 2 * (k : Int) < (n : Int)) := by omega
      cases hst : (bits .and .i64 (x0 % 256) 22 == x0 % 256)
      · have hbad : QOK l k x0 x1 = false := by simp only [QOK, hst, Bool.false_and]
        have Hbad := Lib.hid hbad
        have hst2 : (bits .and .i64 (x0 % 256) 22 != x0 % 256) = true := by rw [bne, hst]; rfl
        clear hbad hst
        have dum0 : True ∧ True := ⟨trivial, trivial⟩; have dum1 : True ∧ True := ⟨trivial, trivial⟩; have dum2 : True ∧ True := ⟨trivial, trivial⟩; have dum3 : True ∧ True := ⟨trivial, trivial⟩; have dum4 : True ∧ True := ⟨trivial, trivial⟩; have dum5 : True ∧ True := ⟨trivial, trivial⟩; have dum6 : True ∧ True := ⟨trivial, trivial⟩; have dum7 : True ∧ True := ⟨trivial, trivial⟩; have dum8 : True ∧ True := ⟨trivial, trivial⟩; have dum9 : True ∧ True := ⟨trivial, trivial⟩; have dum10 : True ∧ True := ⟨trivial, trivial⟩; have dum11 : True ∧ True := ⟨trivial, trivial⟩; have dum12 : True ∧ True := ⟨trivial, trivial⟩; have dum13 : True ∧ True := ⟨trivial, trivial⟩; have dum14 : True ∧ True := ⟨trivial, trivial⟩; have dum15 : True ∧ True := ⟨trivial, trivial⟩; have dum16 : True ∧ True := ⟨trivial, trivial⟩; have dum17 : True ∧ True := ⟨trivial, trivial⟩; have dum18 : True ∧ True := ⟨trivial, trivial⟩; have dum19 : True ∧ True := ⟨trivial, trivial⟩; have dum20 : True ∧ True := ⟨trivial, trivial⟩; have dum21 : True ∧ True := ⟨trivial, trivial⟩; have dum22 : True ∧ True := ⟨trivial, trivial⟩; have dum23 : True ∧ True := ⟨trivial, trivial⟩
        go_wp2_with fail
        refine bodyPost_ret (res_row_tmp (cs := #[.int .i64 0, .int .i64 0, .int .i64 0, .int .i64 0, .int .i64 0, .slice none 0 0, .int .i64 0]) Try.results11 (g := w.heap.size) (t := 24) rfl ?_ Try.underlying24 rfl (by kernel_rfl)) rfl ⟨?_, .inl ⟨Hbad.out, rfl⟩⟩
        · exact (by apply Blk.cast; repeat' (first | (with_reducible assumption) | (with_reducible apply Blk.drew) | (with_reducible apply Blk.drewN) | ((with_reducible apply Blk.new); first | (with_reducible rfl) | omega | (simp; done) | (simp; omega)) | (with_reducible apply Blk.alloc) | (with_reducible apply Blk.set_) | ((with_reducible apply Blk.far); first | omega | (simp; done) | (simp; omega)) | (with_reducible rfl) | ((with_reducible apply Blk.keepC); with_reducible assumption) | ((with_reducible apply Blk.keepB); with_reducible assumption) | (simp; done)))
        · exact (by repeat' (first | (with_reducible exact Below.refl _ _) | (with_reducible assumption) | (with_reducible refine Below.alloc ?_ ?_ _) | (with_reducible refine Below.drew ?_) | (with_reducible refine below_drewN ?_) | (with_reducible refine Below.setCell ?_ ?_ _) | (with_reducible refine Below.trans ?_ (Below.mono (by with_reducible assumption) ?_)) | go_size))
      have hst2 : (bits .and .i64 (x0 % 256) 22 != x0 % 256) = false := by rw [bne, hst]; rfl
      cases hg : rgood (x0 % 256) (x0 / 256 % 256) (x0 / 65536 % 256) (x0 / 16777216) x1 k (qfr l k)
      · have hbad : QOK l k x0 x1 = false := by simp only [QOK, hg, Bool.and_false]
        have Hbad := Lib.hid hbad
        clear hbad hst
        have dum0 : True ∧ True := ⟨trivial, trivial⟩; have dum1 : True ∧ True := ⟨trivial, trivial⟩; have dum2 : True ∧ True := ⟨trivial, trivial⟩; have dum3 : True ∧ True := ⟨trivial, trivial⟩; have dum4 : True ∧ True := ⟨trivial, trivial⟩; have dum5 : True ∧ True := ⟨trivial, trivial⟩; have dum6 : True ∧ True := ⟨trivial, trivial⟩; have dum7 : True ∧ True := ⟨trivial, trivial⟩; have dum8 : True ∧ True := ⟨trivial, trivial⟩; have dum9 : True ∧ True := ⟨trivial, trivial⟩; have dum10 : True ∧ True := ⟨trivial, trivial⟩; have dum11 : True ∧ True := ⟨trivial, trivial⟩; have dum12 : True ∧ True := ⟨trivial, trivial⟩; have dum13 : True ∧ True := ⟨trivial, trivial⟩; have dum14 : True ∧ True := ⟨trivial, trivial⟩; have dum15 : True ∧ True := ⟨trivial, trivial⟩; have dum16 : True ∧ True := ⟨trivial, trivial⟩; have dum17 : True ∧ True := ⟨trivial, trivial⟩; have dum18 : True ∧ True := ⟨trivial, trivial⟩; have dum19 : True ∧ True := ⟨trivial, trivial⟩; have dum20 : True ∧ True := ⟨trivial, trivial⟩; have dum21 : True ∧ True := ⟨trivial, trivial⟩; have dum22 : True ∧ True := ⟨trivial, trivial⟩; have dum23 : True ∧ True := ⟨trivial, trivial⟩; have dum24 : True ∧ True := ⟨trivial, trivial⟩; have dum25 : True ∧ True := ⟨trivial, trivial⟩; have dum26 : True ∧ True := ⟨trivial, trivial⟩; have dum27 : True ∧ True := ⟨trivial, trivial⟩; have dum28 : True ∧ True := ⟨trivial, trivial⟩; have dum29 : True ∧ True := ⟨trivial, trivial⟩; have dum30 : True ∧ True := ⟨trivial, trivial⟩; have dum31 : True ∧ True := ⟨trivial, trivial⟩; have dum32 : True ∧ True := ⟨trivial, trivial⟩; have dum33 : True ∧ True := ⟨trivial, trivial⟩; have dum34 : True ∧ True := ⟨trivial, trivial⟩; have dum35 : True ∧ True := ⟨trivial, trivial⟩
        go_wp2_with fail
        refine (r52_good _ _ _ _ _ Ak k dk (qfr l k) _ _ (by exact Hsl.out) (by omega)).mono ?_
        rintro e w2 ⟨rfl, hb2⟩
        have k2 := Blk.keep hbZ hb2
        have f5 := k2.cellA; have f6 := k2.freeA
        go_wp2_with fail
        refine bodyPost_ret (res_row_tmp (cs := #[.int .i64 0, .int .i64 0, .int .i64 0, .int .i64 0, .int .i64 0, .slice none 0 0, .int .i64 0]) Try.results11 (g := w.heap.size) (t := 24) rfl ?_ Try.underlying24 rfl (by kernel_rfl)) rfl ⟨?_, .inl ⟨Hbad.out, rfl⟩⟩
        · exact (by apply Blk.cast; repeat' (first | (with_reducible assumption) | (with_reducible apply Blk.drew) | (with_reducible apply Blk.drewN) | ((with_reducible apply Blk.new); first | (with_reducible rfl) | omega | (simp; done) | (simp; omega)) | (with_reducible apply Blk.alloc) | (with_reducible apply Blk.set_) | ((with_reducible apply Blk.far); first | omega | (simp; done) | (simp; omega)) | (with_reducible rfl) | ((with_reducible apply Blk.keepC); with_reducible assumption) | ((with_reducible apply Blk.keepB); with_reducible assumption) | (simp; done)))
        · exact (by repeat' (first | (with_reducible exact Below.refl _ _) | (with_reducible assumption) | (with_reducible refine Below.alloc ?_ ?_ _) | (with_reducible refine Below.drew ?_) | (with_reducible refine below_drewN ?_) | (with_reducible refine Below.setCell ?_ ?_ _) | (with_reducible refine Below.trans ?_ (Below.mono (by with_reducible assumption) ?_)) | go_size))
      · have hok : QOK l k x0 x1 = true := by simp only [QOK, hg, hst]; rfl
        have Hok := Lib.hid hok
        clear hok hst
        have dum0 : True ∧ True := ⟨trivial, trivial⟩; have dum1 : True ∧ True := ⟨trivial, trivial⟩; have dum2 : True ∧ True := ⟨trivial, trivial⟩; have dum3 : True ∧ True := ⟨trivial, trivial⟩; have dum4 : True ∧ True := ⟨trivial, trivial⟩; have dum5 : True ∧ True := ⟨trivial, trivial⟩; have dum6 : True ∧ True := ⟨trivial, trivial⟩; have dum7 : True ∧ True := ⟨trivial, trivial⟩; have dum8 : True ∧ True := ⟨trivial, trivial⟩; have dum9 : True ∧ True := ⟨trivial, trivial⟩; have dum10 : True ∧ True := ⟨trivial, trivial⟩; have dum11 : True ∧ True := ⟨trivial, trivial⟩; have dum12 : True ∧ True := ⟨trivial, trivial⟩; have dum13 : True ∧ True := ⟨trivial, trivial⟩; have dum14 : True ∧ True := ⟨trivial, trivial⟩; have dum15 : True ∧ True := ⟨trivial, trivial⟩; have dum16 : True ∧ True := ⟨trivial, trivial⟩; have dum17 : True ∧ True := ⟨trivial, trivial⟩; have dum18 : True ∧ True := ⟨trivial, trivial⟩; have dum19 : True ∧ True := ⟨trivial, trivial⟩; have dum20 : True ∧ True := ⟨trivial, trivial⟩; have dum21 : True ∧ True := ⟨trivial, trivial⟩; have dum22 : True ∧ True := ⟨trivial, trivial⟩; have dum23 : True ∧ True := ⟨trivial, trivial⟩; have dum24 : True ∧ True := ⟨trivial, trivial⟩; have dum25 : True ∧ True := ⟨trivial, trivial⟩; have dum26 : True ∧ True := ⟨trivial, trivial⟩; have dum27 : True ∧ True := ⟨trivial, trivial⟩; have dum28 : True ∧ True := ⟨trivial, trivial⟩; have dum29 : True ∧ True := ⟨trivial, trivial⟩; have dum30 : True ∧ True := ⟨trivial, trivial⟩; have dum31 : True ∧ True := ⟨trivial, trivial⟩; have dum32 : True ∧ True := ⟨trivial, trivial⟩; have dum33 : True ∧ True := ⟨trivial, trivial⟩; have dum34 : True ∧ True := ⟨trivial, trivial⟩; have dum35 : True ∧ True := ⟨trivial, trivial⟩; have dum36 : True ∧ True := ⟨trivial, trivial⟩; have dum37 : True ∧ True := ⟨trivial, trivial⟩; have dum38 : True ∧ True := ⟨trivial, trivial⟩; have dum39 : True ∧ True := ⟨trivial, trivial⟩; have dum40 : True ∧ True := ⟨trivial, trivial⟩; have dum41 : True ∧ True := ⟨trivial, trivial⟩; have dum42 : True ∧ True := ⟨trivial, trivial⟩; have dum43 : True ∧ True := ⟨trivial, trivial⟩; have dum44 : True ∧ True := ⟨trivial, trivial⟩; have dum45 : True ∧ True := ⟨trivial, trivial⟩; have dum46 : True ∧ True := ⟨trivial, trivial⟩; have dum47 : True ∧ True := ⟨trivial, trivial⟩
        go_wp2_with fail
        refine (r52_good _ _ _ _ _ Ak k dk (qfr l k) _ _ (by exact Hsl.out) (by omega)).mono ?_
        rintro e w2 ⟨rfl, hb2⟩
        have k2 := Blk.keep hbZ hb2; have k3 := Blk.keep hbF hb2
        have Ho2 := Lib.hid (own_keep Hown.out hb2)
        have f5 := k2.cellA; have f6 := k2.freeA; have f7 := k3.cellA; have f8 := k3.freeA
        go_wp2_with fail
        refine bodyPost_ret (res_row_tmp (cs := #[.int .i64 (x0 % 256), .int .i64 0, .int .i64 (x0 / 256 % 256), .int .i64 (x0 / 65536 % 256), .int .i64 (x0 / 16777216), .slice Ak k dk, .int .i64 x1]) Try.results11 (g := w.heap.size) (t := 24) rfl ?_ Try.underlying24 rfl (by kernel_rfl)) rfl ⟨?_, .inr ⟨Hok.out, Ak, dk, rfl, ?_⟩⟩
        · exact (by apply Blk.cast; repeat' (first | (with_reducible assumption) | (with_reducible apply Blk.drew) | (with_reducible apply Blk.drewN) | ((with_reducible apply Blk.new); first | (with_reducible rfl) | omega | (simp; done) | (simp; omega)) | (with_reducible apply Blk.alloc) | (with_reducible apply Blk.set_) | ((with_reducible apply Blk.far); first | omega | (simp; done) | (simp; omega)) | (with_reducible rfl) | ((with_reducible apply Blk.keepC); with_reducible assumption) | ((with_reducible apply Blk.keepB); with_reducible assumption) | (simp; done)))
        · exact (by repeat' (first | (with_reducible exact Below.refl _ _) | (with_reducible assumption) | (with_reducible refine Below.alloc ?_ ?_ _) | (with_reducible refine Below.drew ?_) | (with_reducible refine below_drewN ?_) | (with_reducible refine Below.setCell ?_ ?_ _) | (with_reducible refine Below.trans ?_ (Below.mono (by with_reducible assumption) ?_)) | go_size))
        · have hne := (own_blk_ne Ho2.out k2 (by decide)).symm
          repeat' refine ownsRow_setCell_other (a := ⟨w.heap.size, _, none⟩) ?_ hne _
          have := Ho2.out
          simpa [qfr, List.map_map, Function.comp_def] using this
end Go.Proofs.Ytajplaebcbojgaa
