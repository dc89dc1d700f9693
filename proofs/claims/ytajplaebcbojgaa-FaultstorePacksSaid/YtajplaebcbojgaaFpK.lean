/- The reference's Pack. -/
import Derived.Test.YtajplaebcbojgaaProg
import Derived.WalkKit
import Derived.WalkSpells
import Derived.WalkLawsBesides
import Derived.KernelRfl
import Derived.Deep.RegionHeld3
import Derived.Deep.RegionWith
import Derived.Deep.RegionLaw
import Derived.Deep.QuietTactic
import Derived.BigQuiet
import Derived.BigGuardPart
import Derived.Deep.DeepCutAuto
import Derived.Deep.LoopGhost
import Derived.Lib.Hide
import Derived.Handy
import Derived.Test.YtajplaebcbojgaaFpJ
set_option linter.unusedVariables false
set_option linter.unusedSimpArgs false
namespace Go.Proofs.Ytajplaebcbojgaa
open Go.RowKit
def qk0 (st cy cl oc : Int) : Int := bits .and .i64 st 22 + cy * 256 + cl * 65536 + oc * 16777216
def qk1 (v : Int) : List Int := [(v + 1099511627776) / 4294967296, (v + 1099511627776) % 4294967296]
def qkT (st cy cl oc la n : Int) (fr : List Int) (k : Nat) : List Int := [qk0 st cy cl oc, la, n] ++ (fr.take k).flatMap qk1
theorem qkT_succ (st cy cl oc la n : Int) (fr : List Int) (k : Nat) (hk : k < fr.length) : qkT st cy cl oc la n fr (k + 1) = qkT st cy cl oc la n fr k ++ qk1 (fr[k]?.getD 0) := by
  unfold qkT
  rw [List.take_succ_eq_append_getElem hk, List.flatMap_append, List.append_assoc]
  simp [List.getElem?_eq_getElem hk]
set_option maxHeartbeats 4000000 in
theorem r52_pack (st ct cy cl oc : Int) (a : Option Addr) (n c : Nat) (fr : List Int) (la : Int) (w : World) (hs : SlI w .i64 a n fr) (h1 : 0 ≤ st ∧ st ≤ 31) (h2 : 0 ≤ cy ∧ cy ≤ 2) (h3 : 0 ≤ cl ∧ cl ≤ 254) (h4 : 0 ≤ oc ∧ oc ≤ 255) (h5 : 0 ≤ la ∧ la ≤ 1073741824)
    (hv : ∀ x ∈ fr, -1099511627776 ≤ x ∧ x ≤ 1099511627776) (hn : n ≤ 8) (hb0 : 0 ≤ bits .and .i64 st 22) (hb1 : bits .and .i64 st 22 ≤ 31) :
    Calls Try.prog 10 #[.agg #[.int .i64 st, .int .i64 ct, .int .i64 cy, .int .i64 cl, .int .i64 oc, .slice a n c, .int .i64 la]] w fun e w' => ∃ A k, e = .returned (.slice A (3 + 2 * n) k) ∧ w'.ownsRow w.heap.size 34 1 (.slice A (3 + 2 * n) k) (3 + 2 * n) ((qkT st cy cl oc la n fr n).map (.int .u32)) ∧ Below w.heap.size w w' := by
  obtain ⟨i0, hi0, hz0, hz1, hz2⟩ := info_parts u32_info
  obtain ⟨p1, p2⟩ := h1; obtain ⟨p3, p4⟩ := h2; obtain ⟨p5, p6⟩ := h3; obtain ⟨p7, p8⟩ := h4; obtain ⟨p9, p10⟩ := h5
  have Hv := Lib.hid hv; clear hv
  have Hs := Lib.hid hs; clear hs
  go_enter Try.func10, Try.ntmps10
  go_wp2_with fail
  go_loopw [3, 4] (fun v i wr => ∃ (k : Nat) (Ak : Option Addr) (dk : Nat), k ≤ n ∧ i = .int .i64 k ∧ v = .slice Ak (3 + 2 * k) dk ∧ wr.ownsRow (w.heap.size + 1) 34 1 (.slice Ak (3 + 2 * k) dk) (3 + 2 * k) ((qkT st cy cl oc la n fr k).map (.int .u32)) ∧ Blk wr w.heap.size 24 #[.int .i64 st, .int .i64 ct, .int .i64 cy, .int .i64 cl, .int .i64 oc, .slice a n c, .int .i64 la] ∧ Below w.heap.size w wr) (fun _ i _ => n - (intOf i).toNat)
  case atStart =>
    refine ⟨0, _, _, Nat.zero_le _, rfl, rfl, ?_, (by apply Blk.cast; repeat' (first | (with_reducible assumption) | (with_reducible apply Blk.drew) | (with_reducible apply Blk.drewN) | ((with_reducible apply Blk.new); first | (with_reducible rfl) | omega | (simp; done) | (simp; omega)) | (with_reducible apply Blk.alloc) | (with_reducible apply Blk.set_) | ((with_reducible apply Blk.far); first | omega | (simp; done) | (simp; omega)) | (with_reducible rfl) | ((with_reducible apply Blk.keepC); with_reducible assumption) | ((with_reducible apply Blk.keepB); with_reducible assumption) | (simp; done))), (by repeat' (first | (with_reducible exact Below.refl _ _) | (with_reducible assumption) | (with_reducible refine Below.alloc ?_ ?_ _) | (with_reducible refine Below.drew ?_) | (with_reducible refine below_drewN ?_) | (with_reducible refine Below.setCell ?_ ?_ _) | (with_reducible refine Below.trans ?_ (Below.mono (by with_reducible assumption) ?_)) | go_size))⟩
    refine ⟨rfl, .inr ⟨w.heap.size + 1, 3, #[.int .u32 (qk0 st cy cl oc), .int .u32 la, .int .u32 n], rfl, Nat.le_refl _, ?_, by omega, by simp [maxLen], rfl, rfl⟩⟩
    exact (heap_alloc2_new w _ _)
  case round =>
    obtain ⟨k, Ak, dk, hk, rfl, rfl, hown, hbk, hB⟩ := hrel
    have Hown := Lib.hid hown; clear hown
    have f1 := hbk.cellA; have f2 := hbk.freeA
    have hBs : w.heap.size ≤ wr.heap.size := hB.size
    have hlw := hbk.lt
    by_cases hlt : k < n
    · obtain ⟨b, off, rfl, hb, hc⟩ := Hs.out.2 (by omega)
      have hck : ∀ W, Below wr.heap.size wr W → W.cell? ⟨b, off + k, none⟩ = some (.int .i64 (fr[k]?.getD 0)) := fun W hW => (hW.cell (p := ⟨b, off + k, none⟩) (show b < wr.heap.size by omega)).trans ((hB.cell (p := ⟨b, off + k, none⟩) hb).trans (hc k hlt))
      have hkl : k < fr.length := by rw [Hs.out.1]; exact hlt
      have hx := Hv.out (fr[k]?.getD 0) (by simp [List.getElem?_eq_getElem hkl])
      have Hkl := Lib.hid hkl; clear hc hkl
      generalize hxe : fr[k]?.getD 0 = x at hck hx
      have Hx := Lib.hid hxe; clear hxe
      obtain ⟨x1, x2⟩ := hx
      have dum0 : True ∧ True := ⟨trivial, trivial⟩; have dum1 : True ∧ True := ⟨trivial, trivial⟩; have dum2 : True ∧ True := ⟨trivial, trivial⟩; have dum3 : True ∧ True := ⟨trivial, trivial⟩
      go_wp2_with (at_builtin; refine wpList_append_own _ rfl (.tmp 43) (.tmp 50) 25 rfl (w.heap.size + 1) 34 i0 (.int .u32 0) 1 4 Try.underlying25 hi0 hz0 hz1 hz2 rfl (by decide) _ (3 + 2 * k) ((qkT st cy cl oc la n fr k).map (.int .u32)) rfl (Hown.out.alloc _) ⟨_, 0, none⟩ 2 2 [.int .u32 ((x + 1099511627776) / 4294967296), .int .u32 ((x + 1099511627776) % 4294967296)] rfl rfl (cell_two_new _ _ _ _) (by intro u hu; simp at hu; rcases hu with rfl | rfl <;> rfl) (by simp only [maxLen]; omega) (by omega) (by first | omega | (simp; omega)) ?_; intro v1 w1 hownw1 hgroww1 _; obtain ⟨Aw1, cw1, rfl⟩ := own_shape hownw1; replace hgroww1 : World.grownBy _ _ (Value.ownBlock (.slice Ak (3 + 2 * k) dk)) := hgroww1; have hk1 := Blk.grown (hbk.alloc _) hgroww1 (own_blk_ne Hown.out hbk (by decide)); have hB1 := below_grow (hB.alloc hBs _) (by exact Hown.out.alloc _) hgroww1 (by omega) (by first | omega | (simp; omega)); have Ho1 := Lib.hid hownw1; clear hownw1)
      go_roundw
      case rel =>
        have e1 : 3 + 2 * (k + 1) = 3 + 2 * k + 2 := by omega
        refine ⟨k + 1, Aw1, cw1, by omega, by go_num, by rw [e1], ?_, hk1, hB1⟩
        rw [e1, qkT_succ _ _ _ _ _ _ _ _ Hkl.out, Hx.out]
        simpa [qk1] using Ho1.out
      case measure => simp [intOf]; omega
    · obtain rfl : k = n := by omega
      have dum0 : True ∧ True := ⟨trivial, trivial⟩; have dum1 : True ∧ True := ⟨trivial, trivial⟩; have dum2 : True ∧ True := ⟨trivial, trivial⟩; have dum3 : True ∧ True := ⟨trivial, trivial⟩; have dum4 : True ∧ True := ⟨trivial, trivial⟩; have dum5 : True ∧ True := ⟨trivial, trivial⟩; have dum6 : True ∧ True := ⟨trivial, trivial⟩; have dum7 : True ∧ True := ⟨trivial, trivial⟩; have dum8 : True ∧ True := ⟨trivial, trivial⟩; have dum9 : True ∧ True := ⟨trivial, trivial⟩
      go_wp2_with fail
      go_ret
      exact ⟨Ak, dk, rfl, ownsRow_base Hown.out (by omega), hB⟩
end Go.Proofs.Ytajplaebcbojgaa
