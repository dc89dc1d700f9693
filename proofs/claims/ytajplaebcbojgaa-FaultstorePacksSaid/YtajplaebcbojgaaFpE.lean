/- faultstore.Unpack. -/
import Derived.Test.YtajplaebcbojgaaProg
import Derived.WalkKit
import Derived.WalkSpells
import Derived.WalkLawsBesides
import Derived.KernelRfl
import Derived.Deep.RegionHeld3
import Derived.Deep.RegionWith
import Derived.Deep.RegionLaw
import Derived.Deep.QuietTactic
import Derived.BigQuiet
import Derived.BigGuardPart
import Derived.Deep.DeepCutAuto
import Derived.Deep.LoopGhost
import Derived.Lib.Hide
import Derived.Handy
import Derived.Test.YtajplaebcbojgaaFpD
import Derived.StillTailTactics
set_option linter.unusedVariables false
set_option linter.unusedSimpArgs false
namespace Go.Proofs.Ytajplaebcbojgaa
open Go.RowKit
/-- The head of words that Unpack accepts: so many, so long a frame, such a last cycle. -/
def uhead (l : List Int) : Bool := decide (3 ≤ l.length) && (decide (l[2]?.getD 0 ≤ 8) && (decide ((l.length : Int) = 3 + 2 * l[2]?.getD 0) && decide (l[1]?.getD 0 ≤ 1073741824)))
def ust (x : Int) : Int := bits .and .i64 x 255
def ucy (x : Int) : Int := bits .and .i64 (x / 256) 255
def ucl (x : Int) : Int := bits .and .i64 (x / 65536) 255
def uoc (x : Int) : Int := x / 16777216
set_option maxHeartbeats 2000000 in
theorem fs_unpack_head (a : Option Addr) (n c : Nat) (l : List Int) (w : World) (hs : SlI w .u32 a n l) (hl : ∀ x ∈ l, 0 ≤ x ∧ x ≤ 4294967295) (hn : n ≤ 4611686018427387904) (h : uhead l = false) :
    Calls Try.prog 7 #[.slice a n c] w fun e w' => e = .returned (.tuple #[.agg #[.int .i64 0, .int .i64 0, .int .i64 0, .int .i64 0, .int .i64 0, .slice none 0 0, .int .i64 0], .int .i64 3]) ∧ Below w.heap.size w w' := by
  have hlen := hs.1
  by_cases h3 : n < 3
  · have h3' : (n : Int) < 3 := by omega
    clear h hl
    have Hs := Lib.hid hs; clear hs hlen
    go_enter Try.func7, Try.ntmps7
    go_wp2_with fail
    (refine bodyPost_ret (res_row_tmp (cs := #[.int .i64 0, .int .i64 0, .int .i64 0, .int .i64 0, .int .i64 0, .slice none 0 0, .int .i64 0]) Try.results7 (g := w.heap.size) (t := 24) rfl ?_ Try.underlying24 rfl (by kernel_rfl)) rfl ⟨rfl, ?_⟩; (exact (by apply Blk.cast; repeat' (first | (with_reducible assumption) | (with_reducible apply Blk.drew) | (with_reducible apply Blk.drewN) | ((with_reducible apply Blk.new); first | (with_reducible rfl) | omega | (simp; done) | (simp; omega)) | (with_reducible apply Blk.alloc) | (with_reducible apply Blk.set_) | ((with_reducible apply Blk.far); first | omega | (simp; done) | (simp; omega)) | (with_reducible rfl) | ((with_reducible apply Blk.keepC); with_reducible assumption) | ((with_reducible apply Blk.keepB); with_reducible assumption) | (simp; done) | (simp [*]; done) | (simp_all []; done)))); (exact (by repeat' (first | (with_reducible exact Below.refl _ _) | (with_reducible assumption) | (with_reducible refine Below.alloc ?_ ?_ _) | (with_reducible refine Below.drew ?_) | (with_reducible refine below_drewN ?_) | (with_reducible refine Below.setCell ?_ ?_ _) | (with_reducible refine Below.trans ?_ (Below.mono (by with_reducible assumption) ?_)) | go_size))))
  · have h3' : (3 : Int) ≤ (n : Int) := by omega
    obtain ⟨b, off, rfl, hb, hc⟩ := hs.2 (by omega)
    have c1 := hc 1 (by omega)
    have c2 := hc 2 (by omega)
    have m1 := hl (l[1]?.getD 0) (by rw [List.getElem?_eq_getElem (by omega)]; exact List.getElem_mem _)
    have m2 := hl (l[2]?.getD 0) (by rw [List.getElem?_eq_getElem (by omega)]; exact List.getElem_mem _)
    have hu : ¬ (l[2]?.getD 0 ≤ 8 ∧ (n : Int) = 3 + 2 * l[2]?.getD 0 ∧ l[1]?.getD 0 ≤ 1073741824) := by
      intro hh; simp [uhead, hlen, hh, show 3 ≤ n by omega] at h
    generalize l[1]?.getD 0 = x1 at c1 m1 hu
    generalize l[2]?.getD 0 = x2 at c2 m2 hu
    clear h hl hs hc hlen h3
    obtain ⟨p1, p2⟩ := m1
    obtain ⟨p3, p4⟩ := m2
    have d1 : ∀ W, Below w.heap.size w W → W.cell? ⟨b, off + 1, none⟩ = some (.int .u32 x1) := fun W hW => (hW.cell (p := ⟨b, off + 1, none⟩) hb).trans c1
    have d2 : ∀ W, Below w.heap.size w W → W.cell? ⟨b, off + 2, none⟩ = some (.int .u32 x2) := fun W hW => (hW.cell (p := ⟨b, off + 2, none⟩) hb).trans c2
    clear c1 c2
    by_cases h4 : x2 ≤ 8
    · rcases Int.lt_trichotomy (n : Int) (3 + 2 * x2) with h5 | h5 | h5
      · clear hu
        have dum0 : True ∧ True := ⟨trivial, trivial⟩; have dum1 : True ∧ True := ⟨trivial, trivial⟩; have dum2 : True ∧ True := ⟨trivial, trivial⟩; have dum3 : True ∧ True := ⟨trivial, trivial⟩; have dum4 : True ∧ True := ⟨trivial, trivial⟩; have dum5 : True ∧ True := ⟨trivial, trivial⟩
        go_enter Try.func7, Try.ntmps7
        go_wp2_with fail
        (refine bodyPost_ret (res_row_tmp (cs := #[.int .i64 0, .int .i64 0, .int .i64 0, .int .i64 0, .int .i64 0, .slice none 0 0, .int .i64 0]) Try.results7 (g := w.heap.size) (t := 24) rfl ?_ Try.underlying24 rfl (by kernel_rfl)) rfl ⟨rfl, ?_⟩; (exact (by apply Blk.cast; repeat' (first | (with_reducible assumption) | (with_reducible apply Blk.drew) | (with_reducible apply Blk.drewN) | ((with_reducible apply Blk.new); first | (with_reducible rfl) | omega | (simp; done) | (simp; omega)) | (with_reducible apply Blk.alloc) | (with_reducible apply Blk.set_) | ((with_reducible apply Blk.far); first | omega | (simp; done) | (simp; omega)) | (with_reducible rfl) | ((with_reducible apply Blk.keepC); with_reducible assumption) | ((with_reducible apply Blk.keepB); with_reducible assumption) | (simp; done) | (simp [*]; done) | (simp_all []; done)))); (exact (by repeat' (first | (with_reducible exact Below.refl _ _) | (with_reducible assumption) | (with_reducible refine Below.alloc ?_ ?_ _) | (with_reducible refine Below.drew ?_) | (with_reducible refine below_drewN ?_) | (with_reducible refine Below.setCell ?_ ?_ _) | (with_reducible refine Below.trans ?_ (Below.mono (by with_reducible assumption) ?_)) | go_size))))
      · have h6 : 1073741824 < x1 := by omega
        have h5a : (n : Int) ≤ 3 + 2 * x2 := by omega
        have h5b : 3 + 2 * x2 ≤ (n : Int) := by omega
        clear hu h5
        have dum0 : True ∧ True := ⟨trivial, trivial⟩; have dum1 : True ∧ True := ⟨trivial, trivial⟩; have dum2 : True ∧ True := ⟨trivial, trivial⟩; have dum3 : True ∧ True := ⟨trivial, trivial⟩; have dum4 : True ∧ True := ⟨trivial, trivial⟩; have dum5 : True ∧ True := ⟨trivial, trivial⟩; have dum6 : True ∧ True := ⟨trivial, trivial⟩; have dum7 : True ∧ True := ⟨trivial, trivial⟩; have dum8 : True ∧ True := ⟨trivial, trivial⟩; have dum9 : True ∧ True := ⟨trivial, trivial⟩; have dum10 : True ∧ True := ⟨trivial, trivial⟩; have dum11 : True ∧ True := ⟨trivial, trivial⟩
        go_enter Try.func7, Try.ntmps7
        go_wp2_with fail
        (refine bodyPost_ret (res_row_tmp (cs := #[.int .i64 0, .int .i64 0, .int .i64 0, .int .i64 0, .int .i64 0, .slice none 0 0, .int .i64 0]) Try.results7 (g := w.heap.size) (t := 24) rfl ?_ Try.underlying24 rfl (by kernel_rfl)) rfl ⟨rfl, ?_⟩; (exact (by apply Blk.cast; repeat' (first | (with_reducible assumption) | (with_reducible apply Blk.drew) | (with_reducible apply Blk.drewN) | ((with_reducible apply Blk.new); first | (with_reducible rfl) | omega | (simp; done) | (simp; omega)) | (with_reducible apply Blk.alloc) | (with_reducible apply Blk.set_) | ((with_reducible apply Blk.far); first | omega | (simp; done) | (simp; omega)) | (with_reducible rfl) | ((with_reducible apply Blk.keepC); with_reducible assumption) | ((with_reducible apply Blk.keepB); with_reducible assumption) | (simp; done) | (simp [*]; done) | (simp_all []; done)))); (exact (by repeat' (first | (with_reducible exact Below.refl _ _) | (with_reducible assumption) | (with_reducible refine Below.alloc ?_ ?_ _) | (with_reducible refine Below.drew ?_) | (with_reducible refine below_drewN ?_) | (with_reducible refine Below.setCell ?_ ?_ _) | (with_reducible refine Below.trans ?_ (Below.mono (by with_reducible assumption) ?_)) | go_size))))
      · clear hu
        have dum0 : True ∧ True := ⟨trivial, trivial⟩; have dum1 : True ∧ True := ⟨trivial, trivial⟩; have dum2 : True ∧ True := ⟨trivial, trivial⟩; have dum3 : True ∧ True := ⟨trivial, trivial⟩; have dum4 : True ∧ True := ⟨trivial, trivial⟩; have dum5 : True ∧ True := ⟨trivial, trivial⟩; have dum6 : True ∧ True := ⟨trivial, trivial⟩; have dum7 : True ∧ True := ⟨trivial, trivial⟩; have dum8 : True ∧ True := ⟨trivial, trivial⟩; have dum9 : True ∧ True := ⟨trivial, trivial⟩; have dum10 : True ∧ True := ⟨trivial, trivial⟩; have dum11 : True ∧ True := ⟨trivial, trivial⟩; have dum12 : True ∧ True := ⟨trivial, trivial⟩; have dum13 : True ∧ True := ⟨trivial, trivial⟩; have dum14 : True ∧ True := ⟨trivial, trivial⟩; have dum15 : True ∧ True := ⟨trivial, trivial⟩; have dum16 : True ∧ True := ⟨trivial, trivial⟩; have dum17 : True ∧ True := ⟨trivial, trivial⟩
        go_enter Try.func7, Try.ntmps7
        go_wp2_with fail
        (refine bodyPost_ret (res_row_tmp (cs := #[.int .i64 0, .int .i64 0, .int .i64 0, .int .i64 0, .int .i64 0, .slice none 0 0, .int .i64 0]) Try.results7 (g := w.heap.size) (t := 24) rfl ?_ Try.underlying24 rfl (by kernel_rfl)) rfl ⟨rfl, ?_⟩; (exact (by apply Blk.cast; repeat' (first | (with_reducible assumption) | (with_reducible apply Blk.drew) | (with_reducible apply Blk.drewN) | ((with_reducible apply Blk.new); first | (with_reducible rfl) | omega | (simp; done) | (simp; omega)) | (with_reducible apply Blk.alloc) | (with_reducible apply Blk.set_) | ((with_reducible apply Blk.far); first | omega | (simp; done) | (simp; omega)) | (with_reducible rfl) | ((with_reducible apply Blk.keepC); with_reducible assumption) | ((with_reducible apply Blk.keepB); with_reducible assumption) | (simp; done) | (simp [*]; done) | (simp_all []; done)))); (exact (by repeat' (first | (with_reducible exact Below.refl _ _) | (with_reducible assumption) | (with_reducible refine Below.alloc ?_ ?_ _) | (with_reducible refine Below.drew ?_) | (with_reducible refine below_drewN ?_) | (with_reducible refine Below.setCell ?_ ?_ _) | (with_reducible refine Below.trans ?_ (Below.mono (by with_reducible assumption) ?_)) | go_size))))
    · have h4' : 8 < x2 := by omega
      clear h4 hu
      have dum0 : True ∧ True := ⟨trivial, trivial⟩; have dum1 : True ∧ True := ⟨trivial, trivial⟩; have dum2 : True ∧ True := ⟨trivial, trivial⟩; have dum3 : True ∧ True := ⟨trivial, trivial⟩; have dum4 : True ∧ True := ⟨trivial, trivial⟩; have dum5 : True ∧ True := ⟨trivial, trivial⟩; have dum6 : True ∧ True := ⟨trivial, trivial⟩; have dum7 : True ∧ True := ⟨trivial, trivial⟩; have dum8 : True ∧ True := ⟨trivial, trivial⟩; have dum9 : True ∧ True := ⟨trivial, trivial⟩; have dum10 : True ∧ True := ⟨trivial, trivial⟩; have dum11 : True ∧ True := ⟨trivial, trivial⟩; have dum12 : True ∧ True := ⟨trivial, trivial⟩; have dum13 : True ∧ True := ⟨trivial, trivial⟩; have dum14 : True ∧ True := ⟨trivial, trivial⟩; have dum15 : True ∧ True := ⟨trivial, trivial⟩; have dum16 : True ∧ True := ⟨trivial, trivial⟩; have dum17 : True ∧ True := ⟨trivial, trivial⟩; have dum18 : True ∧ True := ⟨trivial, trivial⟩; have dum19 : True ∧ True := ⟨trivial, trivial⟩; have dum20 : True ∧ True := ⟨trivial, trivial⟩; have dum21 : True ∧ True := ⟨trivial, trivial⟩; have dum22 : True ∧ True := ⟨trivial, trivial⟩; have dum23 : True ∧ True := ⟨trivial, trivial⟩
      go_enter Try.func7, Try.ntmps7
      go_wp2_with fail
      (refine bodyPost_ret (res_row_tmp (cs := #[.int .i64 0, .int .i64 0, .int .i64 0, .int .i64 0, .int .i64 0, .slice none 0 0, .int .i64 0]) Try.results7 (g := w.heap.size) (t := 24) rfl ?_ Try.underlying24 rfl (by kernel_rfl)) rfl ⟨rfl, ?_⟩; (exact (by apply Blk.cast; repeat' (first | (with_reducible assumption) | (with_reducible apply Blk.drew) | (with_reducible apply Blk.drewN) | ((with_reducible apply Blk.new); first | (with_reducible rfl) | omega | (simp; done) | (simp; omega)) | (with_reducible apply Blk.alloc) | (with_reducible apply Blk.set_) | ((with_reducible apply Blk.far); first | omega | (simp; done) | (simp; omega)) | (with_reducible rfl) | ((with_reducible apply Blk.keepC); with_reducible assumption) | ((with_reducible apply Blk.keepB); with_reducible assumption) | (simp; done) | (simp [*]; done) | (simp_all []; done)))); (exact (by repeat' (first | (with_reducible exact Below.refl _ _) | (with_reducible assumption) | (with_reducible refine Below.alloc ?_ ?_ _) | (with_reducible refine Below.drew ?_) | (with_reducible refine below_drewN ?_) | (with_reducible refine Below.setCell ?_ ?_ _) | (with_reducible refine Below.trans ?_ (Below.mono (by with_reducible assumption) ?_)) | go_size))))
end Go.Proofs.Ytajplaebcbojgaa
