/- faultstore.Pack: the words of a fault. -/
import Derived.Test.YtajplaebcbojgaaProg
import Derived.WalkKit
import Derived.WalkSpells
import Derived.WalkLawsBesides
import Derived.KernelRfl
import Derived.Deep.RegionHeld3
import Derived.Deep.RegionWith
import Derived.Deep.RegionLaw
import Derived.Deep.QuietTactic
import Derived.BigQuiet
import Derived.BigGuardPart
import Derived.Deep.DeepCutAuto
import Derived.Deep.LoopGhost
import Derived.Lib.Hide
import Derived.Handy
import Derived.Test.YtajplaebcbojgaaFpB
set_option linter.unusedVariables false
set_option linter.unusedSimpArgs false
namespace Go.Proofs.Ytajplaebcbojgaa
open Go.RowKit

/-- What Pack accepts. -/
def fgood (st cy cl oc la : Int) (n : Nat) (fr : List Int) : Bool := w0 st 31 && (w0 cy 2 && (w0 cl 254 && (w0 oc 255 && (w0 la 1073741824 && (decide (n ≤ 8) && !fr.any vbad)))))
def pk0 (st cy cl oc : Int) : Int := bits .or .i64 (bits .or .i64 (bits .or .i64 (bits .and .i64 st 22) (cy * 256)) (cl * 65536)) (oc * 16777216) % 4294967296
def pk1 (v : Int) : List Int := [(v + 1099511627776) / 4294967296 % 4294967296, bits .and .i64 (v + 1099511627776) 4294967295 % 4294967296]
def pkH (st cy cl oc la n : Int) : List Int := [pk0 st cy cl oc, la % 4294967296, n % 4294967296]
def pkL (st cy cl oc la : Int) (fr : List Int) : List Int := pkH st cy cl oc la fr.length ++ fr.flatMap pk1
theorem pkL_len (st cy cl oc la : Int) (fr : List Int) : (pkL st cy cl oc la fr).length = 3 + 2 * fr.length := by
  simp only [pkL, List.length_append, List.length_flatMap]
  have : (fr.map fun v => (pk1 v).length).sum = 2 * fr.length := by
    induction fr with
    | nil => rfl
    | cons x l ih => rw [List.map_cons, List.sum_cons, ih]; simp [pk1]; omega
  rw [this]; simp [pkH]
def pkT (st cy cl oc la n : Int) (fr : List Int) (k : Nat) : List Int := pkH st cy cl oc la n ++ (fr.take k).flatMap pk1
theorem pkT_succ (st cy cl oc la n : Int) (fr : List Int) (k : Nat) (hk : k < fr.length) : pkT st cy cl oc la n fr (k + 1) = pkT st cy cl oc la n fr k ++ pk1 (fr[k]?.getD 0) := by
  unfold pkT
  rw [List.take_succ_eq_append_getElem hk, List.flatMap_append, List.append_assoc]
  simp [List.getElem?_eq_getElem hk]
theorem pkT_end (st cy cl oc la : Int) (fr : List Int) : pkT st cy cl oc la fr.length fr fr.length = pkL st cy cl oc la fr := by simp [pkT, pkL]
set_option maxHeartbeats 2000000 in
theorem fs_pack_ok (st ct cy cl oc : Int) (a : Option Addr) (n c : Nat) (fr : List Int) (la : Int) (w : World) (hs : SlI w .i64 a n fr)
    (h1 : w0 st 31 = true) (h2 : w0 cy 2 = true) (h3 : w0 cl 254 = true) (h4 : w0 oc 255 = true) (h5 : w0 la 1073741824 = true) (h6 : n ≤ 8) (h7 : fr.any vbad = false) :
    Calls Try.prog 6 #[.agg #[.int .i64 st, .int .i64 ct, .int .i64 cy, .int .i64 cl, .int .i64 oc, .slice a n c, .int .i64 la]] w fun e w' => ∃ A k, e = .returned (.tuple #[.slice A (3 + 2 * n) k, .int .i64 0]) ∧ w'.ownsRow w.heap.size 34 1 (.slice A (3 + 2 * n) k) (3 + 2 * n) ((pkL st cy cl oc la fr).map (.int .u32)) ∧ Below w.heap.size w w' := by
  have b1 : 0 ≤ st ∧ st ≤ 31 := by simpa [w0] using h1
  have b2 : 0 ≤ cy ∧ cy ≤ 2 := by simpa [w0] using h2
  have b3 : 0 ≤ cl ∧ cl ≤ 254 := by simpa [w0] using h3
  have b4 : 0 ≤ oc ∧ oc ≤ 255 := by simpa [w0] using h4
  obtain ⟨c1, c2⟩ := b1; obtain ⟨c3, c4⟩ := b2; obtain ⟨c5, c6⟩ := b3; obtain ⟨c7, c8⟩ := b4
  have hv : ∀ x ∈ fr, -1099511627776 ≤ x ∧ x ≤ 1099511627776 := by
    intro x hx
    have := List.any_eq_false.1 h7 x hx
    simpa [vbad, vok] using this
  have Hv := Lib.hid hv; clear hv
  have Hs := Lib.hid hs; clear hs
  go_enter Try.func6, Try.ntmps6
  go_wp2_with (first | (go_at_call 13; refine (fs_within _ _ _).mono ?_; rintro e w' ⟨rfl, rfl⟩) | (go_at_call 14; refine (fs_any a n c fr _ (by exact Hs.out.keep (by repeat' (first | (with_reducible exact Below.refl _ _) | (with_reducible assumption) | (with_reducible refine Below.alloc ?_ ?_ _) | (with_reducible refine Below.drew ?_) | (with_reducible refine below_drewN ?_) | (with_reducible refine Below.setCell ?_ ?_ _) | (with_reducible refine Below.trans ?_ (Below.mono (by with_reducible assumption) ?_)) | go_size))) (by omega)).mono ?_; rintro e w1 ⟨rfl, hbw1⟩; have hkw10 : Blk w1 (w.heap.size) 24 #[.int .i64 st, .int .i64 ct, .int .i64 cy, .int .i64 cl, .int .i64 oc, .slice a n c, .int .i64 la] := Blk.keep (by apply Blk.cast; repeat' (first | (with_reducible assumption) | (with_reducible apply Blk.drew) | (with_reducible apply Blk.drewN) | ((with_reducible apply Blk.new); first | (with_reducible rfl) | omega | (simp; done) | (simp; omega)) | (with_reducible apply Blk.alloc) | (with_reducible apply Blk.set_) | ((with_reducible apply Blk.far); first | omega | (simp; done) | (simp; omega)) | (with_reducible rfl) | ((with_reducible apply Blk.keepC); with_reducible assumption) | ((with_reducible apply Blk.keepB); with_reducible assumption) | (simp; done))) hbw1; have hBw1 : Below w.heap.size w w1 := (by repeat' (first | (with_reducible exact Below.refl _ _) | (with_reducible assumption) | (with_reducible refine Below.alloc ?_ ?_ _) | (with_reducible refine Below.drew ?_) | (with_reducible refine below_drewN ?_) | (with_reducible refine Below.setCell ?_ ?_ _) | (with_reducible refine Below.trans ?_ (Below.mono (by with_reducible assumption) ?_)) | go_size)); have hzw1 := hbw1.size; (try simp at hzw1); have hcw10 := hkw10.cellA; have hfw10 := hkw10.freeA; have hqw1 := hb_lt hbw1; clear hbw1))
  refine (fs_add w1.heap.size none 0 0 [] _ _ (by apply Blk.cast; repeat' (first | (with_reducible assumption) | (with_reducible apply Blk.drew) | (with_reducible apply Blk.drewN) | ((with_reducible apply Blk.new); first | (with_reducible rfl) | omega | (simp; done) | (simp; omega)) | (with_reducible apply Blk.alloc) | (with_reducible apply Blk.set_) | ((with_reducible apply Blk.far); first | omega | (simp; done) | (simp; omega)) | (with_reducible rfl) | ((with_reducible apply Blk.keepC); with_reducible assumption) | ((with_reducible apply Blk.keepB); with_reducible assumption) | (simp; done))) ⟨rfl, .inl ⟨rfl, rfl⟩⟩ (by omega)).mono ?_; rintro e w2 ⟨rfl, A2, d2, hk2, ho2, hb2⟩
  have hB2 : Below w1.heap.size w1 w2 := (Below.alloc (Below.refl _ _) (Nat.le_refl _) _).trans hb2
  clear hb2; have Ho2 := Lib.hid ho2; clear ho2
  go_wp2_with fail
  refine (fs_add w1.heap.size A2 _ d2 _ _ _ hk2 Ho2.out (by omega)).mono ?_; rintro e w3 ⟨rfl, A3, d3, hk3, ho3, hb3⟩
  have hB3 : Below w1.heap.size w1 w3 := hB2.trans hb3
  clear hb3; have Ho3 := Lib.hid ho3; clear ho3
  go_wp2_with fail
  refine (fs_add w1.heap.size A3 _ d3 _ _ _ hk3 Ho3.out (by omega)).mono ?_; rintro e w4 ⟨rfl, A4, d4, hk4, ho4, hb4⟩
  have hB4 : Below w1.heap.size w1 w4 := hB3.trans hb4
  clear hb4; have Ho4 := Lib.hid ho4; clear ho4
  go_wp2_with fail
  go_loopw [78] (fun i wr => ∃ (k : Nat) (Ak : Option Addr) (dk : Nat), k ≤ n ∧ i = .int .i64 k ∧ Blk wr w1.heap.size 25 #[.slice Ak (3 + 2 * k) dk] ∧ wr.ownsRow w1.heap.size 34 1 (.slice Ak (3 + 2 * k) dk) (3 + 2 * k) ((pkT st cy cl oc la n fr k).map (.int .u32)) ∧ Below w1.heap.size w1 wr) (fun i _ => n - (intOf i).toNat)
  case atStart =>
    refine ⟨0, A4, d4, Nat.zero_le _, rfl, ?_, ?_, hB4⟩
    · simpa using hk4
    · simpa [pkT, pkH, pk0] using Ho4.out
  case round =>
    obtain ⟨k, Ak, dk, hk, rfl, hbk, hok, hBk⟩ := hrel
    have Hok := Lib.hid hok; clear hok
    clear hk2 hk3 hk4 Ho2 Ho3 Ho4 hB2 hB3 hB4
    by_cases hlt : k < n
    · obtain ⟨b, off, rfl, hb, hc⟩ := Hs.out.2 (by omega)
      have hbw : b < w1.heap.size := by omega
      have hck : wr.cell? ⟨b, off + k, none⟩ = some (.int .i64 (fr[k]?.getD 0)) := (hBk.cell (p := ⟨b, off + k, none⟩) hbw).trans ((hBw1.cell (p := ⟨b, off + k, none⟩) hb).trans (hc k hlt))
      have hkl : k < fr.length := by rw [Hs.out.1]; exact hlt
      have hx := Hv.out (fr[k]?.getD 0) (by simp [List.getElem?_eq_getElem hkl])
      obtain ⟨x1, x2⟩ := hx
      have Hkl := Lib.hid hkl; clear hkl hc
      generalize hxk : fr[k]?.getD 0 = x at hck x1 x2
      have Hxk := Lib.hid hxk; clear hxk
      go_wp2_with fail
      refine (fs_add w1.heap.size Ak _ dk _ _ _ hbk Hok.out (by omega)).mono ?_; rintro e w5 ⟨rfl, A5, d5, hk5, ho5, hb5⟩
      have hB5 : Below w1.heap.size w1 w5 := hBk.trans hb5
      clear hb5; have Ho5 := Lib.hid ho5; clear ho5
      go_wp2_with fail
      refine (fs_add w1.heap.size A5 _ d5 _ _ _ hk5 Ho5.out (by omega)).mono ?_; rintro e w6 ⟨rfl, A6, d6, hk6, ho6, hb6⟩
      have hB6 : Below w1.heap.size w1 w6 := hB5.trans hb6
      clear hb6; have Ho6 := Lib.hid ho6; clear ho6
      go_wp2_with fail
      go_roundw
      case rel =>
        have e1 : 3 + 2 * (k + 1) = 3 + 2 * k + 1 + 1 := by omega
        refine ⟨k + 1, A6, d6, by omega, by go_num, ?_, ?_, hB6⟩
        · rw [e1]; exact hk6
        · rw [e1, pkT_succ _ _ _ _ _ _ _ _ Hkl.out, Hxk.out]
          simpa [pk1] using Ho6.out
      case measure => simp [intOf]; omega
    · have hkn : k = n := by omega
      subst hkn
      have hck := hbk.cell
      go_wp2_with fail
      go_ret2
      have hl := Hs.out.1
      refine ⟨Ak, dk, rfl, ?_, (by repeat' (first | (with_reducible exact Below.refl _ _) | (with_reducible assumption) | (with_reducible refine Below.alloc ?_ ?_ _) | (with_reducible refine Below.drew ?_) | (with_reducible refine below_drewN ?_) | (with_reducible refine Below.setCell ?_ ?_ _) | (with_reducible refine Below.trans ?_ (Below.mono (by with_reducible assumption) ?_)) | go_size))⟩
      have hok := Hok.out
      rw [← hl, pkT_end] at hok
      rw [← hl]
      exact ownsRow_base hok (by omega)
end Go.Proofs.Ytajplaebcbojgaa
