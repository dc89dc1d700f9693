/- The reference's Good. -/
import Derived.Test.YtajplaebcbojgaaProg
import Derived.WalkKit
import Derived.WalkSpells
import Derived.WalkLawsBesides
import Derived.KernelRfl
import Derived.Deep.RegionHeld3
import Derived.Deep.RegionWith
import Derived.Deep.RegionLaw
import Derived.Deep.QuietTactic
import Derived.BigQuiet
import Derived.BigGuardPart
import Derived.Deep.DeepCutAuto
import Derived.Deep.LoopGhost
import Derived.Lib.Hide
import Derived.Handy
import Derived.Test.YtajplaebcbojgaaFpI
set_option linter.unusedVariables false
set_option linter.unusedSimpArgs false
namespace Go.Proofs.Ytajplaebcbojgaa
open Go.RowKit
def rv (v : Int) : Bool := rin v (-1099511627776) 1099511627776
def rgood (st cy cl oc la : Int) (n : Nat) (fr : List Int) : Bool := fr.all rv && (decide ((n : Int) ≤ 8) && (rin st 0 31 && (rin cy 0 2 && (rin cl 0 254 && (rin oc 0 255 && rin la 0 1073741824)))))
theorem rall_step (fr : List Int) (k : Nat) (h : k < fr.length) : (fr.drop k).all rv = (rv (fr[k]?.getD 0) && (fr.drop (k + 1)).all rv) := by
  rw [List.drop_eq_getElem_cons h, List.all_cons]
  simp [List.getElem?_eq_getElem h]
set_option maxHeartbeats 4000000 in
theorem r52_good (st ct cy cl oc : Int) (a : Option Addr) (n c : Nat) (fr : List Int) (la : Int) (w : World) (hs : SlI w .i64 a n fr) (hn : n ≤ 4611686018427387904) :
    Calls Try.prog 8 #[.agg #[.int .i64 st, .int .i64 ct, .int .i64 cy, .int .i64 cl, .int .i64 oc, .slice a n c, .int .i64 la]] w fun e w' => e = .returned (.bool (rgood st cy cl oc la n fr)) ∧ Below w.heap.size w w' := by
  have Hs := Lib.hid hs; clear hs
  go_enter Try.func8, Try.ntmps8
  go_wp2_with fail
  go_loopw [3] (fun i wr => ∃ k : Nat, k ≤ n ∧ i = .int .i64 k ∧ fr.all rv = (fr.drop k).all rv ∧ Blk wr w.heap.size 24 #[.int .i64 st, .int .i64 ct, .int .i64 cy, .int .i64 cl, .int .i64 oc, .slice a n c, .int .i64 la] ∧ Below w.heap.size w wr) (fun i _ => n - (intOf i).toNat)
  case atStart => exact ⟨0, Nat.zero_le _, rfl, by simp, (by apply Blk.cast; repeat' (first | (with_reducible assumption) | (with_reducible apply Blk.drew) | (with_reducible apply Blk.drewN) | ((with_reducible apply Blk.new); first | (with_reducible rfl) | omega | (simp; done) | (simp; omega)) | (with_reducible apply Blk.alloc) | (with_reducible apply Blk.set_) | ((with_reducible apply Blk.far); first | omega | (simp; done) | (simp; omega)) | (with_reducible rfl) | ((with_reducible apply Blk.keepC); with_reducible assumption) | ((with_reducible apply Blk.keepB); with_reducible assumption) | (simp; done))), (by repeat' (first | (with_reducible exact Below.refl _ _) | (with_reducible assumption) | (with_reducible refine Below.alloc ?_ ?_ _) | (with_reducible refine Below.drew ?_) | (with_reducible refine below_drewN ?_) | (with_reducible refine Below.setCell ?_ ?_ _) | (with_reducible refine Below.trans ?_ (Below.mono (by with_reducible assumption) ?_)) | go_size))⟩
  case round =>
    obtain ⟨k, hk, rfl, hf, hbk, hB⟩ := hrel
    have Hf := Lib.hid hf; clear hf
    have f1 := hbk.cellA; have f2 := hbk.freeA
    by_cases hlt : k < n
    · obtain ⟨b, off, rfl, hb, hc⟩ := Hs.out.2 (by omega)
      have hck : ∀ W, Below wr.heap.size wr W → W.cell? ⟨b, off + k, none⟩ = some (.int .i64 (fr[k]?.getD 0)) := fun W hW => (hW.cell (p := ⟨b, off + k, none⟩) (show b < wr.heap.size by have := hB.size; omega)).trans ((hB.cell (p := ⟨b, off + k, none⟩) hb).trans (hc k hlt))
      clear hc
      have Hd := Lib.hid (rall_step fr k (by rw [Hs.out.1]; exact hlt))
      generalize hx : fr[k]?.getD 0 = x at hck
      have Hx := Lib.hid hx; clear hx
      cases hp : rin x (-1099511627776) 1099511627776
      · have dum0 : True ∧ True := ⟨trivial, trivial⟩; have dum1 : True ∧ True := ⟨trivial, trivial⟩; have dum2 : True ∧ True := ⟨trivial, trivial⟩; have dum3 : True ∧ True := ⟨trivial, trivial⟩
        go_wp2_with (go_at_call 18; refine (r52_in _ _ _ _).mono ?_; rintro e w' ⟨rfl, rfl⟩)
        go_ret
        exact ⟨ret_b (by rw [rgood, Hf.out, Hd.out, Hx.out, rv, hp]; rfl), (by repeat' (first | (with_reducible exact Below.refl _ _) | (with_reducible assumption) | (with_reducible refine Below.alloc ?_ ?_ _) | (with_reducible refine Below.drew ?_) | (with_reducible refine below_drewN ?_) | (with_reducible refine Below.setCell ?_ ?_ _) | (with_reducible refine Below.trans ?_ (Below.mono (by with_reducible assumption) ?_)) | go_size))⟩
      · have dum0 : True ∧ True := ⟨trivial, trivial⟩; have dum1 : True ∧ True := ⟨trivial, trivial⟩; have dum2 : True ∧ True := ⟨trivial, trivial⟩; have dum3 : True ∧ True := ⟨trivial, trivial⟩; have dum4 : True ∧ True := ⟨trivial, trivial⟩; have dum5 : True ∧ True := ⟨trivial, trivial⟩; have dum6 : True ∧ True := ⟨trivial, trivial⟩; have dum7 : True ∧ True := ⟨trivial, trivial⟩; have dum8 : True ∧ True := ⟨trivial, trivial⟩; have dum9 : True ∧ True := ⟨trivial, trivial⟩
        go_wp2_with (go_at_call 18; refine (r52_in _ _ _ _).mono ?_; rintro e w' ⟨rfl, rfl⟩)
        go_roundw
        case rel => exact ⟨k + 1, by omega, by go_num, by rw [Hf.out, Hd.out, Hx.out, rv, hp]; rfl, hbk, (by repeat' (first | (with_reducible exact Below.refl _ _) | (with_reducible assumption) | (with_reducible refine Below.alloc ?_ ?_ _) | (with_reducible refine Below.drew ?_) | (with_reducible refine below_drewN ?_) | (with_reducible refine Below.setCell ?_ ?_ _) | (with_reducible refine Below.trans ?_ (Below.mono (by with_reducible assumption) ?_)) | go_size))⟩
        case measure => simp [intOf]; omega
    · have he : fr.all rv = true := by rw [Hf.out, List.drop_eq_nil_of_le (by rw [Hs.out.1]; omega)]; rfl
      have He := Lib.hid he; clear he
      have dum0 : True ∧ True := ⟨trivial, trivial⟩; have dum1 : True ∧ True := ⟨trivial, trivial⟩; have dum2 : True ∧ True := ⟨trivial, trivial⟩; have dum3 : True ∧ True := ⟨trivial, trivial⟩; have dum4 : True ∧ True := ⟨trivial, trivial⟩; have dum5 : True ∧ True := ⟨trivial, trivial⟩; have dum6 : True ∧ True := ⟨trivial, trivial⟩; have dum7 : True ∧ True := ⟨trivial, trivial⟩; have dum8 : True ∧ True := ⟨trivial, trivial⟩; have dum9 : True ∧ True := ⟨trivial, trivial⟩; have dum10 : True ∧ True := ⟨trivial, trivial⟩; have dum11 : True ∧ True := ⟨trivial, trivial⟩; have dum12 : True ∧ True := ⟨trivial, trivial⟩; have dum13 : True ∧ True := ⟨trivial, trivial⟩; have dum14 : True ∧ True := ⟨trivial, trivial⟩; have dum15 : True ∧ True := ⟨trivial, trivial⟩
      go_wp2_with (go_at_call 18; refine (r52_in _ _ _ _).mono ?_; rintro e w' ⟨rfl, rfl⟩)
      all_goals go_ret
      all_goals exact ⟨ret_b (by rw [rgood, He.out]; first | (simp [*]; done) | (simp [*]; omega) | (simp_all; done) | (simp_all; omega)), (by repeat' (first | (with_reducible exact Below.refl _ _) | (with_reducible assumption) | (with_reducible refine Below.alloc ?_ ?_ _) | (with_reducible refine Below.drew ?_) | (with_reducible refine below_drewN ?_) | (with_reducible refine Below.setCell ?_ ?_ _) | (with_reducible refine Below.trans ?_ (Below.mono (by with_reducible assumption) ?_)) | go_size))⟩
end Go.Proofs.Ytajplaebcbojgaa
