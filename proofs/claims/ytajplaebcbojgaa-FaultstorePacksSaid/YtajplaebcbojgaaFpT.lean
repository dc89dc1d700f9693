/- The law's awake. -/
import Derived.Test.YtajplaebcbojgaaProg
import Derived.WalkKit
import Derived.WalkSpells
import Derived.WalkLawsBesides
import Derived.KernelRfl
import Derived.Deep.RegionHeld3
import Derived.Deep.RegionWith
import Derived.Deep.RegionLaw
import Derived.Deep.QuietTactic
import Derived.BigQuiet
import Derived.BigGuardPart
import Derived.Deep.DeepCutAuto
import Derived.Deep.LoopGhost
import Derived.Lib.Hide
import Derived.Handy
import Derived.Test.YtajplaebcbojgaaFpS
set_option linter.unusedVariables false
set_option linter.unusedSimpArgs false
namespace Go.Proofs.Ytajplaebcbojgaa
open Go.RowKit
theorem SlI.lit {w W : World} {k : IntKind} {xs : List Int} (n : Nat) (hn : xs.length = n) (h : ∀ i, i < n → W.cell? ⟨w.heap.size, i, none⟩ = some (.int k (xs[i]?.getD 0))) (hs : w.heap.size < W.heap.size) : SlI W k (some ⟨w.heap.size, 0, none⟩) n xs :=
  ⟨hn, fun _ => ⟨w.heap.size, 0, rfl, hs, fun i hi => by simpa using h i hi⟩⟩
theorem lit_cells (w : World) (k : IntKind) (xs : List Int) (t : TypeId) (i : Nat) (h : i < xs.length) : (w.alloc (Obj.cells (xs.map (Value.int k)).toArray t)).cell? ⟨w.heap.size, i, none⟩ = some (.int k (xs[i]?.getD 0)) := by
  simp [List.getElem?_eq_getElem h]
theorem awk : (pkL 6 2 0 3 9 [5] == [50332166, 9, 1, 256, 5]) = true := by decide +kernel
set_option maxHeartbeats 1000000 in
theorem fp_awake (w : World) : Calls Try.prog 5 #[] w fun e w' => e = .returned (.bool true) ∧ Below w.heap.size w w' := by
  go_enter Try.func5, Try.ntmps5
  go_wp2_with fail
  go_at_call 6
  refine (fs_pack_ok 6 0 2 0 3 (some ⟨w.heap.size, 0, none⟩) 1 1 [5] 9 _ ?_ (by decide) (by decide) (by decide) (by decide) (by decide) (by decide) (by decide)).mono ?_
  · exact SlI.lit (w := w) 1 rfl (fun i hi => lit_cells w .i64 [5] 3 i hi) (by simp)
  rintro e wa ⟨A, k, rfl, hown, hb⟩
  have hB : Below w.heap.size w wa := (by repeat' (first | (with_reducible exact Below.refl _ _) | (with_reducible assumption) | (with_reducible refine Below.alloc ?_ ?_ _) | (with_reducible refine Below.drew ?_) | (with_reducible refine below_drewN ?_) | (with_reducible refine Below.setCell ?_ ?_ _) | (with_reducible refine Below.trans ?_ (Below.mono (by with_reducible assumption) ?_)) | go_size))
  have hz : w.heap.size ≤ wa.heap.size := hB.size
  have Hs := Lib.hid (SlI.of_own (xs := pkL 6 2 0 3 9 [5]) hown)
  clear hown hb
  go_wp2_with (go_at_call 9; refine (eq_u32 A (3 + 2 * 1) k (pkL 6 2 0 3 9 [5]) (some ⟨wa.heap.size, 0, none⟩) 5 5 [50332166, 9, 1, 256, 5] _ (by exact Hs.out.keep (by repeat' (first | (with_reducible exact Below.refl _ _) | (with_reducible assumption) | (with_reducible refine Below.alloc ?_ ?_ _) | (with_reducible refine Below.drew ?_) | (with_reducible refine below_drewN ?_) | (with_reducible refine Below.setCell ?_ ?_ _) | (with_reducible refine Below.trans ?_ (Below.mono (by with_reducible assumption) ?_)) | go_size))) (by exact SlI.lit (w := wa) 5 rfl (fun i hi => lit_cells wa .u32 [50332166, 9, 1, 256, 5] _ i hi) (by simp)) (by decide) (by decide)).mono ?_; rintro e w2 ⟨rfl, hbw2⟩; have hBw2 : Below w.heap.size w w2 := (by repeat' (first | (with_reducible exact Below.refl _ _) | (with_reducible assumption) | (with_reducible refine Below.alloc ?_ ?_ _) | (with_reducible refine Below.drew ?_) | (with_reducible refine below_drewN ?_) | (with_reducible refine Below.setCell ?_ ?_ _) | (with_reducible refine Below.trans ?_ (Below.mono (by with_reducible assumption) ?_)) | go_size)); have hzw2 := hbw2.size; (try simp at hzw2); obtain ⟨hdw2, hew2⟩ := bcell hbw2; have hqw2 := hb_lt hbw2; have hZw2 := hBw2.size; have hnw2 := CallB.of hbw2; clear hbw2)
  all_goals go_ret
  all_goals exact ⟨ret_b (by simp [awk]), (by repeat' (first | (with_reducible exact Below.refl _ _) | (with_reducible assumption) | (with_reducible refine Below.alloc ?_ ?_ _) | (with_reducible refine Below.drew ?_) | (with_reducible refine below_drewN ?_) | (with_reducible refine Below.setCell ?_ ?_ _) | (with_reducible refine Below.trans ?_ (Below.mono (by with_reducible assumption) ?_)) | go_size))⟩
end Go.Proofs.Ytajplaebcbojgaa
