/- faultstore.Pack: the closure that appends a word. -/
import Derived.Test.YtajplaebcbojgaaProg
import Derived.WalkKit
import Derived.WalkSpells
import Derived.WalkLawsBesides
import Derived.KernelRfl
import Derived.Deep.RegionHeld3
import Derived.Deep.RegionWith
import Derived.Deep.RegionLaw
import Derived.Deep.QuietTactic
import Derived.BigQuiet
import Derived.BigGuardPart
import Derived.Deep.DeepCutAuto
import Derived.Deep.LoopGhost
import Derived.Lib.Hide
import Derived.Handy
import Derived.Test.YtajplaebcbojgaaFpA
set_option linter.unusedVariables false
set_option linter.unusedSimpArgs false
namespace Go.Proofs.Ytajplaebcbojgaa
open Go.RowKit
open Go.RowKit
theorem u32_info : (Try.prog.info? 34).map (fun i => (i.zero, i.size, i.bytes)) = some (some (.int .u32 0), 1, 4) := by kernel_rfl
set_option maxHeartbeats 1000000 in
theorem fs_add (g : Nat) (A : Option Addr) (n c : Nat) (xs : List Value) (x : Int) (w : World) (hk : Blk w g 25 #[.slice A n c]) (hown : w.ownsRow g 34 1 (.slice A n c) n xs) (hn : n ≤ 1000) :
    Calls Try.prog 17 #[.int .i64 x, .pointer (some ⟨g, 0, none⟩)] w fun e w' => e = .returned (.tuple #[]) ∧ ∃ A' c', Blk w' g 25 #[.slice A' (n + 1) c'] ∧ w'.ownsRow g 34 1 (.slice A' (n + 1) c') (n + 1) (xs ++ [.int .u32 (x % 4294967296)]) ∧ Below g w w' := by
  obtain ⟨i0, hi0, hz0, hz1, hz2⟩ := info_parts u32_info
  have hc := hk.cell
  have hf := hk.free
  have hlt := hk.lt
  have Ho := Lib.hid hown; clear hown
  go_enter Try.func17, Try.ntmps17
  go_wp2_with (at_builtin; refine wpList_append_own _ rfl (.tmp 3) (.tmp 6) 25 rfl g 34 i0 (.int .u32 0) 1 4 Try.underlying25 hi0 hz0 hz1 hz2 rfl (by decide) _ n xs rfl (Ho.out.alloc _) ⟨_, 0, none⟩ 1 1 [.int .u32 (x % 4294967296)] rfl rfl (cell_one_new _ _ _) (by intro u hu; simp at hu; subst hu; rfl) (by simp only [maxLen]; omega) (by omega) (by first | omega | (simp; omega)) ?_; intro v1 w1 hownw1 hgroww1 _; obtain ⟨Aw1, cw1, rfl⟩ := own_shape hownw1; replace hgroww1 : World.grownBy _ _ (Value.ownBlock (.slice A n c)) := hgroww1; have hk1 := Blk.grown (hk.alloc (.cells #[.int .u32 (x % 4294967296)] 34)) hgroww1 (own_blk_ne Ho.out hk (by decide)); have hB1 := below_grow (B := g) ((Below.refl g w).alloc (by omega) _) (Ho.out.alloc _) hgroww1 (Nat.le_refl _) (by simp; omega); have hc1 := hk1.cell; have hf1 := hk1.free; have Ho1 := Lib.hid hownw1; clear hownw1)
  go_end0
  exact ⟨rfl, _, _, (by apply Blk.cast; repeat' (first | (with_reducible assumption) | (with_reducible apply Blk.drew) | (with_reducible apply Blk.drewN) | ((with_reducible apply Blk.new); first | (with_reducible rfl) | omega | (simp; done) | (simp; omega)) | (with_reducible apply Blk.alloc) | (with_reducible apply Blk.set_) | ((with_reducible apply Blk.far); first | omega | (simp; done) | (simp; omega)) | (with_reducible rfl) | ((with_reducible apply Blk.keepC); with_reducible assumption) | ((with_reducible apply Blk.keepB); with_reducible assumption) | (simp; done))), ownsRow_setCell_other Ho1.out (own_blk_ne Ho1.out hk1 (by decide)).symm _, (by repeat' (first | (with_reducible exact Below.refl _ _) | (with_reducible assumption) | (with_reducible refine Below.alloc ?_ ?_ _) | (with_reducible refine Below.drew ?_) | (with_reducible refine below_drewN ?_) | (with_reducible refine Below.setCell ?_ ?_ _) | (with_reducible refine Below.trans ?_ (Below.mono (by with_reducible assumption) ?_)) | go_size))⟩
end Go.Proofs.Ytajplaebcbojgaa
