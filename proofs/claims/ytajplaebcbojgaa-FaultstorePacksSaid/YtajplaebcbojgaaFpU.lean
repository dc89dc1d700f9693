/- The law FaultstorePacks, walked. -/
import Derived.Test.YtajplaebcbojgaaProg
import Derived.WalkKit
import Derived.WalkSpells
import Derived.WalkLawsBesides
import Derived.KernelRfl
import Derived.Deep.RegionHeld3
import Derived.Deep.RegionWith
import Derived.Deep.RegionLaw
import Derived.Deep.QuietTactic
import Derived.BigQuiet
import Derived.BigGuardPart
import Derived.Deep.DeepCutAuto
import Derived.Deep.LoopGhost
import Derived.Lib.Hide
import Derived.Handy
import Derived.Test.YtajplaebcbojgaaFpT
set_option linter.unusedVariables false
set_option linter.unusedSimpArgs false
namespace Go.Proofs.Ytajplaebcbojgaa
open Go.RowKit
set_option maxHeartbeats 2000000 in
theorem fp_big (st ct cy cl oc : Int) (a : Option Addr) (n c : Nat) (fr : List Int) (la : Int) (a' : Option Addr) (n' c' : Nat) (l : List Int) (w : World) (hs : SlI w .i64 a n fr) (hs' : SlI w .u32 a' n' l) (hl : ∀ x ∈ l, 0 ≤ x ∧ x ≤ 4294967295) (hn : n ≤ 9223372036854775807) (hn' : n' ≤ 9223372036854775807) (hb : 100 < n ∨ 100 < n') : Calls Try.prog 3 #[.agg #[.int .i64 st, .int .i64 ct, .int .i64 cy, .int .i64 cl, .int .i64 oc, .slice a n c, .int .i64 la], .slice a' n' c'] w fun e w' => e = .returned (.bool true) ∧ Below w.heap.size w w' := by
  clear hs hs' hl
  by_cases h1 : n ≤ 100
  · have h2 : 100 < n' := by omega
    have h1' : (n : Int) ≤ 100 := by omega
    have h2' : 100 < (n' : Int) := by omega
    clear hb
    have dum0 : True ∧ True := ⟨trivial, trivial⟩; have dum1 : True ∧ True := ⟨trivial, trivial⟩; have dum2 : True ∧ True := ⟨trivial, trivial⟩; have dum3 : True ∧ True := ⟨trivial, trivial⟩; have dum4 : True ∧ True := ⟨trivial, trivial⟩; have dum5 : True ∧ True := ⟨trivial, trivial⟩; have dum6 : True ∧ True := ⟨trivial, trivial⟩; have dum7 : True ∧ True := ⟨trivial, trivial⟩; have dum8 : True ∧ True := ⟨trivial, trivial⟩; have dum9 : True ∧ True := ⟨trivial, trivial⟩
    go_enter Try.func3, Try.ntmps3
    go_wp2_with (go_at_call 5; refine (fp_awake _).mono ?_; rintro e w1 ⟨rfl, hbw1⟩; have hBw1 : Below w.heap.size w w1 := (by repeat' (first | (with_reducible exact Below.refl _ _) | (with_reducible assumption) | (with_reducible refine Below.alloc ?_ ?_ _) | (with_reducible refine Below.drew ?_) | (with_reducible refine below_drewN ?_) | (with_reducible refine Below.setCell ?_ ?_ _) | (with_reducible refine Below.trans ?_ (Below.mono (by with_reducible assumption) ?_)) | go_size)); have hzw1 := hbw1.size; (try simp at hzw1); obtain ⟨hdw1, hew1⟩ := bcell hbw1; have hqw1 := hb_lt hbw1; have hZw1 := hBw1.size; have hnw1 := CallB.of hbw1; clear hbw1)
    all_goals go_ret
    all_goals exact ⟨rfl, (by repeat' (first | (with_reducible exact Below.refl _ _) | (with_reducible assumption) | (with_reducible refine Below.alloc ?_ ?_ _) | (with_reducible refine Below.drew ?_) | (with_reducible refine below_drewN ?_) | (with_reducible refine Below.setCell ?_ ?_ _) | (with_reducible refine Below.trans ?_ (Below.mono (by with_reducible assumption) ?_)) | go_size))⟩
  · have h1' : 100 < (n : Int) := by omega
    clear hb
    go_enter Try.func3, Try.ntmps3
    go_wp2_with (go_at_call 5; refine (fp_awake _).mono ?_; rintro e w1 ⟨rfl, hbw1⟩; have hBw1 : Below w.heap.size w w1 := (by repeat' (first | (with_reducible exact Below.refl _ _) | (with_reducible assumption) | (with_reducible refine Below.alloc ?_ ?_ _) | (with_reducible refine Below.drew ?_) | (with_reducible refine below_drewN ?_) | (with_reducible refine Below.setCell ?_ ?_ _) | (with_reducible refine Below.trans ?_ (Below.mono (by with_reducible assumption) ?_)) | go_size)); have hzw1 := hbw1.size; (try simp at hzw1); obtain ⟨hdw1, hew1⟩ := bcell hbw1; have hqw1 := hb_lt hbw1; have hZw1 := hBw1.size; have hnw1 := CallB.of hbw1; clear hbw1)
    all_goals go_ret
    all_goals exact ⟨rfl, (by repeat' (first | (with_reducible exact Below.refl _ _) | (with_reducible assumption) | (with_reducible refine Below.alloc ?_ ?_ _) | (with_reducible refine Below.drew ?_) | (with_reducible refine below_drewN ?_) | (with_reducible refine Below.setCell ?_ ?_ _) | (with_reducible refine Below.trans ?_ (Below.mono (by with_reducible assumption) ?_)) | go_size))⟩
end Go.Proofs.Ytajplaebcbojgaa
