/- The references' numbers, SameFault, Good. -/
import Derived.Test.YtajplaebcbojgaaProg
import Derived.WalkKit
import Derived.WalkSpells
import Derived.WalkLawsBesides
import Derived.KernelRfl
import Derived.Deep.RegionHeld3
import Derived.Deep.RegionWith
import Derived.Deep.RegionLaw
import Derived.Deep.QuietTactic
import Derived.BigQuiet
import Derived.BigGuardPart
import Derived.Deep.DeepCutAuto
import Derived.Deep.LoopGhost
import Derived.Lib.Hide
import Derived.Handy
import Derived.Test.YtajplaebcbojgaaFpH
set_option linter.unusedVariables false
set_option linter.unusedSimpArgs false
namespace Go.Proofs.Ytajplaebcbojgaa
open Go.RowKit

set_option maxHeartbeats 1000000 in
theorem r46_numbers (a : Option Addr) (n c : Nat) (xs : List Int) (a' : Option Addr) (n' c' : Nat) (ys : List Int) (w : World) (hs : SlI w .i64 a n xs) (hs' : SlI w .i64 a' n' ys) (hn : n ≤ 4611686018427387904) (hn' : n' ≤ 4611686018427387904) :
    Calls Try.prog 19 #[.slice a n c, .slice a' n' c'] w fun e w' => e = .returned (.bool (xs == ys)) ∧ Below w.heap.size w w' := by
  by_cases hne : n = n'
  · subst hne
    have Hs := Lib.hid hs; clear hs
    have Hs' := Lib.hid hs'; clear hs'
    go_enter Try.func19, Try.ntmps19
    go_wp2_with fail
    go_loopw [5] (fun i wr => ∃ k : Nat, k ≤ n ∧ i = .int .i64 k ∧ (xs == ys) = eqFrom xs ys k ∧ Below w.heap.size w wr) (fun i _ => n - (intOf i).toNat)
    case atStart => exact ⟨0, Nat.zero_le _, rfl, by simp [eqFrom], (by repeat' (first | (with_reducible exact Below.refl _ _) | (with_reducible assumption) | (with_reducible refine Below.alloc ?_ ?_ _) | (with_reducible refine Below.drew ?_) | (with_reducible refine below_drewN ?_) | (with_reducible refine Below.setCell ?_ ?_ _) | (with_reducible refine Below.trans ?_ (Below.mono (by with_reducible assumption) ?_)) | go_size))⟩
    case round =>
      obtain ⟨k, hk, rfl, hf, hB⟩ := hrel
      have Hf := Lib.hid hf; clear hf
      by_cases hlt : k < n
      · obtain ⟨b, off, rfl, hb, hc⟩ := Hs.out.2 (by omega)
        obtain ⟨b', off', rfl, hb', hc'⟩ := Hs'.out.2 (by omega)
        have hck : wr.cell? ⟨b, off + k, none⟩ = some (.int .i64 (xs[k]?.getD 0)) := (hB.cell (p := ⟨b, off + k, none⟩) hb).trans (hc k hlt)
        have hck' : wr.cell? ⟨b', off' + k, none⟩ = some (.int .i64 (ys[k]?.getD 0)) := (hB.cell (p := ⟨b', off' + k, none⟩) hb').trans (hc' k hlt)
        clear hc hc'
        have Hd := Lib.hid (eqFrom_step xs ys k (by rw [Hs.out.1]; exact hlt) (by rw [Hs'.out.1]; exact hlt))
        have hlt1 : (k : Int) < (n : Int) := by omega
        cases hp : (xs[k]?.getD 0 == ys[k]?.getD 0)
        · have hq : (xs[k]?.getD 0 != ys[k]?.getD 0) = true := by simp [bne, hp]
          go_wp2_with fail
          go_quiet (fail)
          go_wp2_with fail
          go_ret
          exact ⟨ret_b (by rw [Hf.out, Hd.out, hp]; rfl), (by repeat' (first | (with_reducible exact Below.refl _ _) | (with_reducible assumption) | (with_reducible refine Below.alloc ?_ ?_ _) | (with_reducible refine Below.drew ?_) | (with_reducible refine below_drewN ?_) | (with_reducible refine Below.setCell ?_ ?_ _) | (with_reducible refine Below.trans ?_ (Below.mono (by with_reducible assumption) ?_)) | go_size))⟩
        · have hq : (xs[k]?.getD 0 != ys[k]?.getD 0) = false := by simp [bne, hp]
          go_wp2_with fail
          go_quiet (fail)
          go_wp2_with fail
          go_roundw
          case rel => exact ⟨k + 1, by omega, by go_num, by rw [Hf.out, Hd.out, hp]; rfl, (by repeat' (first | (with_reducible exact Below.refl _ _) | (with_reducible assumption) | (with_reducible refine Below.alloc ?_ ?_ _) | (with_reducible refine Below.drew ?_) | (with_reducible refine below_drewN ?_) | (with_reducible refine Below.setCell ?_ ?_ _) | (with_reducible refine Below.trans ?_ (Below.mono (by with_reducible assumption) ?_)) | go_size))⟩
          case measure => simp [intOf]; omega
      · go_wp2_with fail
        go_ret
        exact ⟨ret_b (by rw [Hf.out, eqFrom_end xs ys k (by rw [Hs.out.1]; omega) (by rw [Hs'.out.1]; omega)]), (by repeat' (first | (with_reducible exact Below.refl _ _) | (with_reducible assumption) | (with_reducible refine Below.alloc ?_ ?_ _) | (with_reducible refine Below.drew ?_) | (with_reducible refine below_drewN ?_) | (with_reducible refine Below.setCell ?_ ?_ _) | (with_reducible refine Below.trans ?_ (Below.mono (by with_reducible assumption) ?_)) | go_size))⟩
  · have hq : (xs == ys) = false := by
      rw [beq_eq_false_iff_ne]; rintro rfl; exact hne (hs.1.symm.trans hs'.1)
    have hq1 : ((n : Int) != (n' : Int)) = true := by rw [bne_iff_ne]; omega
    clear hs hs'
    go_enter Try.func19, Try.ntmps19
    go_wp2_with fail
    go_ret
    exact ⟨ret_b hq.symm, (by repeat' (first | (with_reducible exact Below.refl _ _) | (with_reducible assumption) | (with_reducible refine Below.alloc ?_ ?_ _) | (with_reducible refine Below.drew ?_) | (with_reducible refine below_drewN ?_) | (with_reducible refine Below.setCell ?_ ?_ _) | (with_reducible refine Below.trans ?_ (Below.mono (by with_reducible assumption) ?_)) | go_size))⟩

def sameF (st ct cy cl oc la : Int) (fr : List Int) (st' ct' cy' cl' oc' la' : Int) (fr' : List Int) : Bool :=
  (st == st') && ((ct == ct') && ((cy == cy') && ((cl == cl') && ((oc == oc') && ((la == la') && (fr == fr'))))))
set_option maxHeartbeats 4000000 in
theorem r46_same (st ct cy cl oc : Int) (a : Option Addr) (n c : Nat) (fr : List Int) (la : Int) (st' ct' cy' cl' oc' : Int) (a' : Option Addr) (n' c' : Nat) (fr' : List Int) (la' : Int) (w : World)
    (hs : SlI w .i64 a n fr) (hs' : SlI w .i64 a' n' fr') (hn : n ≤ 4611686018427387904) (hn' : n' ≤ 4611686018427387904) :
    Calls Try.prog 12 #[.agg #[.int .i64 st, .int .i64 ct, .int .i64 cy, .int .i64 cl, .int .i64 oc, .slice a n c, .int .i64 la], .agg #[.int .i64 st', .int .i64 ct', .int .i64 cy', .int .i64 cl', .int .i64 oc', .slice a' n' c', .int .i64 la']] w fun e w' => e = .returned (.bool (sameF st ct cy cl oc la fr st' ct' cy' cl' oc' la' fr')) ∧ Below w.heap.size w w' := by
  have Hs := Lib.hid hs; clear hs
  have Hs' := Lib.hid hs'; clear hs'
  go_enter Try.func12, Try.ntmps12
  go_wp2_with (go_at_call 19; refine (r46_numbers a n c fr a' n' c' fr' _ (by exact Hs.out.keep (by repeat' (first | (with_reducible exact Below.refl _ _) | (with_reducible assumption) | (with_reducible refine Below.alloc ?_ ?_ _) | (with_reducible refine Below.drew ?_) | (with_reducible refine below_drewN ?_) | (with_reducible refine Below.setCell ?_ ?_ _) | (with_reducible refine Below.trans ?_ (Below.mono (by with_reducible assumption) ?_)) | go_size))) (by exact Hs'.out.keep (by repeat' (first | (with_reducible exact Below.refl _ _) | (with_reducible assumption) | (with_reducible refine Below.alloc ?_ ?_ _) | (with_reducible refine Below.drew ?_) | (with_reducible refine below_drewN ?_) | (with_reducible refine Below.setCell ?_ ?_ _) | (with_reducible refine Below.trans ?_ (Below.mono (by with_reducible assumption) ?_)) | go_size))) hn hn').mono ?_; rintro e w1 ⟨rfl, hbw1⟩; have hBw1 : Below w.heap.size w w1 := (by repeat' (first | (with_reducible exact Below.refl _ _) | (with_reducible assumption) | (with_reducible refine Below.alloc ?_ ?_ _) | (with_reducible refine Below.drew ?_) | (with_reducible refine below_drewN ?_) | (with_reducible refine Below.setCell ?_ ?_ _) | (with_reducible refine Below.trans ?_ (Below.mono (by with_reducible assumption) ?_)) | go_size)); have hzw1 := hbw1.size; (try simp at hzw1); obtain ⟨hdw1, hew1⟩ := bcell hbw1; have hqw1 := hb_lt hbw1; have hZw1 := hBw1.size; have hnw1 := CallB.of hbw1; clear hbw1)
  all_goals go_ret
  all_goals exact ⟨(ret_b (by first | (simp [sameF, *]; done) | (simp [sameF, *]; omega) | (simp_all [sameF]; done) | (simp_all [sameF]; omega))), (by repeat' (first | (with_reducible exact Below.refl _ _) | (with_reducible assumption) | (with_reducible refine Below.alloc ?_ ?_ _) | (with_reducible refine Below.drew ?_) | (with_reducible refine below_drewN ?_) | (with_reducible refine Below.setCell ?_ ?_ _) | (with_reducible refine Below.trans ?_ (Below.mono (by with_reducible assumption) ?_)) | go_size))⟩
end Go.Proofs.Ytajplaebcbojgaa
