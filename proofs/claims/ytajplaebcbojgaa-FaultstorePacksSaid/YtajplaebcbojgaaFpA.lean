/- faultstore: small functions, slices.ContainsFunc over the values of a frame, slices.Equal on words. -/
import Derived.Test.YtajplaebcbojgaaProg
import Derived.WalkKit
import Derived.WalkSpells
import Derived.WalkLawsBesides
import Derived.KernelRfl
import Derived.Deep.RegionHeld3
import Derived.Deep.RegionWith
import Derived.Deep.RegionLaw
import Derived.Deep.QuietTactic
import Derived.BigQuiet
import Derived.BigGuardPart
import Derived.Deep.DeepCutAuto
import Derived.Deep.LoopGhost
import Derived.Lib.Hide
import Derived.Handy
import Derived.Test.YtajplaebcbojgaaSl
set_option linter.unusedVariables false
set_option linter.unusedSimpArgs false
namespace Go.Proofs.Ytajplaebcbojgaa
open Go.RowKit

def vok (v : Int) : Bool := decide (-1099511627776 ≤ v) && decide (v ≤ 1099511627776)
theorem fs_value (v : Int) (w : World) : Calls Try.prog 16 #[.int .i64 v] w fun e w' => e = .returned (.bool (vok v)) ∧ w = w' := by
  go_enter Try.func16, Try.ntmps16
  go_wp2
  all_goals (go_ret; exact ⟨(ret_b (by first | (simp [vok, *]; done) | (simp [vok, *]; omega) | (simp_all [vok]; done) | (simp_all [vok]; omega))), by trivial⟩)
def w0 (n m : Int) : Bool := decide (0 ≤ n) && decide (n ≤ m)
theorem fs_within (n m : Int) (w : World) : Calls Try.prog 13 #[.int .i64 n, .int .i64 m] w fun e w' => e = .returned (.bool (w0 n m)) ∧ w = w' := by
  go_enter Try.func13, Try.ntmps13
  go_wp2
  all_goals (go_ret; exact ⟨(ret_b (by first | (simp [w0, *]; done) | (simp [w0, *]; omega) | (simp_all [w0]; done) | (simp_all [w0]; omega))), by trivial⟩)
def vbad (v : Int) : Bool := !vok v
theorem fs_bad (v : Int) (w : World) : Calls Try.prog 15 #[.int .i64 v] w fun e w' => e = .returned (.bool (vbad v)) ∧ w = w' := by
  go_enter Try.func15, Try.ntmps15
  go_wp2_with (go_at_call 16; refine (fs_value _ _).mono ?_; rintro e w' ⟨rfl, rfl⟩)
  go_ret
  exact ⟨rfl, by trivial⟩
set_option maxHeartbeats 1000000 in
theorem fs_idx (a : Option Addr) (n c : Nat) (xs : List Int)  (w : World) (hs : SlI w .i64 a n xs) (hn : n ≤ 4611686018427387904) :
    Calls Try.prog 20 #[.slice a n c, .func (.func 15) #[] #[]] w fun e w' => e = .returned (.int .i64 (fidx vbad xs 0)) ∧ Below w.heap.size w w' := by
  have hl : xs.length = n := hs.1
  have Hs := Lib.hid hs; clear hs
  have Hl := Lib.hid hl; clear hl
  go_enter Try.func20, Try.ntmps20
  go_wp2_with fail
  go_loopw [8] (fun i wr => ∃ k : Nat, k ≤ n ∧ i = .int .i64 k ∧ fidx vbad xs 0 = fidx vbad (xs.drop k) k ∧ Below w.heap.size w wr) (fun i _ => n - (intOf i).toNat)
  case atStart => exact ⟨0, Nat.zero_le _, rfl, by simp, (by repeat' (first | (with_reducible exact Below.refl _ _) | (with_reducible assumption) | (with_reducible refine Below.alloc ?_ ?_ _) | (with_reducible refine Below.drew ?_) | (with_reducible refine below_drewN ?_) | (with_reducible refine Below.setCell ?_ ?_ _) | (with_reducible refine Below.trans ?_ (Below.mono (by with_reducible assumption) ?_)) | go_size))⟩
  case round =>
    obtain ⟨k, hk, rfl, hf, hB⟩ := hrel
    have Hf := Lib.hid hf; clear hf
    by_cases hlt : k < n
    · obtain ⟨b, off, rfl, hb, hc⟩ := Hs.out.2 (by omega)
      have hck : wr.cell? ⟨b, off + k, none⟩ = some (.int .i64 (xs[k]?.getD 0)) := (hB.cell (p := ⟨b, off + k, none⟩) hb).trans (hc k hlt)
      clear hc
      have Hd := Lib.hid (fidx_drop vbad xs k 0 (by rw [Hl.out]; exact hlt))
      cases hp : vbad (xs[k]?.getD 0)
      · go_wp2_with (go_at_call 15; refine (fs_bad _ _).mono ?_; rintro e w' ⟨rfl, rfl⟩)
        go_roundw
        case rel => exact ⟨k + 1, by omega, by go_num, by rw [Hf.out, Hd.out, hp]; rfl, (by repeat' (first | (with_reducible exact Below.refl _ _) | (with_reducible assumption) | (with_reducible refine Below.alloc ?_ ?_ _) | (with_reducible refine Below.drew ?_) | (with_reducible refine below_drewN ?_) | (with_reducible refine Below.setCell ?_ ?_ _) | (with_reducible refine Below.trans ?_ (Below.mono (by with_reducible assumption) ?_)) | go_size))⟩
        case measure => simp [intOf]; omega
      · go_wp2_with (go_at_call 15; refine (fs_bad _ _).mono ?_; rintro e w' ⟨rfl, rfl⟩)
        go_ret
        exact ⟨ret_i (by rw [Hf.out, Hd.out, hp]; rfl), (by repeat' (first | (with_reducible exact Below.refl _ _) | (with_reducible assumption) | (with_reducible refine Below.alloc ?_ ?_ _) | (with_reducible refine Below.drew ?_) | (with_reducible refine below_drewN ?_) | (with_reducible refine Below.setCell ?_ ?_ _) | (with_reducible refine Below.trans ?_ (Below.mono (by with_reducible assumption) ?_)) | go_size))⟩
    · go_wp2_with fail
      go_ret
      exact ⟨ret_i (by rw [Hf.out, List.drop_eq_nil_of_le (by rw [Hl.out]; omega)]; rfl), (by repeat' (first | (with_reducible exact Below.refl _ _) | (with_reducible assumption) | (with_reducible refine Below.alloc ?_ ?_ _) | (with_reducible refine Below.drew ?_) | (with_reducible refine below_drewN ?_) | (with_reducible refine Below.setCell ?_ ?_ _) | (with_reducible refine Below.trans ?_ (Below.mono (by with_reducible assumption) ?_)) | go_size))⟩
set_option maxHeartbeats 1000000 in
theorem fs_any (a : Option Addr) (n c : Nat) (xs : List Int)  (w : World) (hs : SlI w .i64 a n xs) (hn : n ≤ 4611686018427387904) :
    Calls Try.prog 14 #[.slice a n c, .func (.func 15) #[] #[]] w fun e w' => e = .returned (.bool (xs.any vbad)) ∧ Below w.heap.size w w' := by
  have Hs := Lib.hid hs; clear hs
  go_enter Try.func14, Try.ntmps14
  go_wp2_with (go_at_call 20; refine (fs_idx a n c xs  _ Hs.out hn).mono ?_; rintro e w' ⟨rfl, hb⟩)
  go_ret
  exact ⟨ret_b (fidx_lo _ _ 0 (by omega)), (by repeat' (first | (with_reducible exact Below.refl _ _) | (with_reducible assumption) | (with_reducible refine Below.alloc ?_ ?_ _) | (with_reducible refine Below.drew ?_) | (with_reducible refine below_drewN ?_) | (with_reducible refine Below.setCell ?_ ?_ _) | (with_reducible refine Below.trans ?_ (Below.mono (by with_reducible assumption) ?_)) | go_size))⟩
set_option maxHeartbeats 1000000 in
theorem eq_u32 (a : Option Addr) (n c : Nat) (xs : List Int) (a' : Option Addr) (n' c' : Nat) (ys : List Int) (w : World) (hs : SlI w .u32 a n xs) (hs' : SlI w .u32 a' n' ys) (hn : n ≤ 4611686018427387904) (hn' : n' ≤ 4611686018427387904) :
    Calls Try.prog 9 #[.slice a n c, .slice a' n' c'] w fun e w' => e = .returned (.bool (xs == ys)) ∧ Below w.heap.size w w' := by
  by_cases hne : n = n'
  · subst hne
    have Hs := Lib.hid hs; clear hs
    have Hs' := Lib.hid hs'; clear hs'
    go_enter Try.func9, Try.ntmps9
    go_wp2_with fail
    go_loopw [13] (fun i wr => ∃ k : Nat, k ≤ n ∧ i = .int .i64 k ∧ (xs == ys) = eqFrom xs ys k ∧ Below w.heap.size w wr) (fun i _ => n - (intOf i).toNat)
    case atStart => exact ⟨0, Nat.zero_le _, rfl, by simp [eqFrom], (by repeat' (first | (with_reducible exact Below.refl _ _) | (with_reducible assumption) | (with_reducible refine Below.alloc ?_ ?_ _) | (with_reducible refine Below.drew ?_) | (with_reducible refine below_drewN ?_) | (with_reducible refine Below.setCell ?_ ?_ _) | (with_reducible refine Below.trans ?_ (Below.mono (by with_reducible assumption) ?_)) | go_size))⟩
    case round =>
      obtain ⟨k, hk, rfl, hf, hB⟩ := hrel
      have Hf := Lib.hid hf; clear hf
      by_cases hlt : k < n
      · obtain ⟨b, off, rfl, hb, hc⟩ := Hs.out.2 (by omega)
        obtain ⟨b', off', rfl, hb', hc'⟩ := Hs'.out.2 (by omega)
        have hck : wr.cell? ⟨b, off + k, none⟩ = some (.int .u32 (xs[k]?.getD 0)) := (hB.cell (p := ⟨b, off + k, none⟩) hb).trans (hc k hlt)
        have hck' : wr.cell? ⟨b', off' + k, none⟩ = some (.int .u32 (ys[k]?.getD 0)) := (hB.cell (p := ⟨b', off' + k, none⟩) hb').trans (hc' k hlt)
        clear hc hc'
        have Hd := Lib.hid (eqFrom_step xs ys k (by rw [Hs.out.1]; exact hlt) (by rw [Hs'.out.1]; exact hlt))
        have hlt1 : (k : Int) < (n : Int) := by omega
        cases hp : (xs[k]?.getD 0 == ys[k]?.getD 0)
        · have hq : (xs[k]?.getD 0 != ys[k]?.getD 0) = true := by simp [bne, hp]
          go_wp2_with fail
          go_quiet (fail)
          go_wp2_with fail
          go_ret
          exact ⟨ret_b (by rw [Hf.out, Hd.out, hp]; rfl), (by repeat' (first | (with_reducible exact Below.refl _ _) | (with_reducible assumption) | (with_reducible refine Below.alloc ?_ ?_ _) | (with_reducible refine Below.drew ?_) | (with_reducible refine below_drewN ?_) | (with_reducible refine Below.setCell ?_ ?_ _) | (with_reducible refine Below.trans ?_ (Below.mono (by with_reducible assumption) ?_)) | go_size))⟩
        · have hq : (xs[k]?.getD 0 != ys[k]?.getD 0) = false := by simp [bne, hp]
          go_wp2_with fail
          go_quiet (fail)
          go_wp2_with fail
          go_roundw
          case rel => exact ⟨k + 1, by omega, by go_num, by rw [Hf.out, Hd.out, hp]; rfl, (by repeat' (first | (with_reducible exact Below.refl _ _) | (with_reducible assumption) | (with_reducible refine Below.alloc ?_ ?_ _) | (with_reducible refine Below.drew ?_) | (with_reducible refine below_drewN ?_) | (with_reducible refine Below.setCell ?_ ?_ _) | (with_reducible refine Below.trans ?_ (Below.mono (by with_reducible assumption) ?_)) | go_size))⟩
          case measure => simp [intOf]; omega
      · go_wp2_with fail
        go_ret
        exact ⟨ret_b (by rw [Hf.out, eqFrom_end xs ys k (by rw [Hs.out.1]; omega) (by rw [Hs'.out.1]; omega)]), (by repeat' (first | (with_reducible exact Below.refl _ _) | (with_reducible assumption) | (with_reducible refine Below.alloc ?_ ?_ _) | (with_reducible refine Below.drew ?_) | (with_reducible refine below_drewN ?_) | (with_reducible refine Below.setCell ?_ ?_ _) | (with_reducible refine Below.trans ?_ (Below.mono (by with_reducible assumption) ?_)) | go_size))⟩
  · have hq : (xs == ys) = false := by
      rw [beq_eq_false_iff_ne]; rintro rfl; exact hne (hs.1.symm.trans hs'.1)
    have hq1 : ((n : Int) != (n' : Int)) = true := by rw [bne_iff_ne]; omega
    clear hs hs'
    go_enter Try.func9, Try.ntmps9
    go_wp2_with fail
    go_ret
    exact ⟨ret_b hq.symm, (by repeat' (first | (with_reducible exact Below.refl _ _) | (with_reducible assumption) | (with_reducible refine Below.alloc ?_ ?_ _) | (with_reducible refine Below.drew ?_) | (with_reducible refine below_drewN ?_) | (with_reducible refine Below.setCell ?_ ?_ _) | (with_reducible refine Below.trans ?_ (Below.mono (by with_reducible assumption) ?_)) | go_size))⟩
end Go.Proofs.Ytajplaebcbojgaa
