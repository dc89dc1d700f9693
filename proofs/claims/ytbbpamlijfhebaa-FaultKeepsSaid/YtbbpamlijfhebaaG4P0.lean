/- Helpers: functions of the program as Lean functions, and what they compute. No condition. -/
import Derived.Test.YtbbpamlijfhebaaProg
import Derived.WalkKit
import Derived.Maps.OwnSet
import Derived.Maps.Views
import Derived.Maps.OwnOps
import Derived.Test.YtbbpamlijfhebaaE4P2
set_option maxRecDepth 10000
set_option linter.unusedVariables false
set_option linter.unusedSimpArgs false
set_option linter.unusedSimpArgs false
set_option linter.unusedVariables false
namespace Go.Ev
open Go Go.Proofs Go.RowKit Go.Maps
set_option maxRecDepth 100000
set_option maxHeartbeats 4000000
theorem cd_law3 : Keyed Try.prog 3 := int_keyed Try.underlying3
theorem cd_zero4 (w : World) : (zeroValue 4).run Try.prog w = .ok (.bool false) w := by kernel_rfl
/-- The map holds what was seen. -/
def Seen (D : DataW Unit) (l : List Int) : Prop := ∀ x : Int, D.atKey (.int .i64 x) (.lit (.bool false)) = .lit (.bool (l.contains x))
theorem Seen.put {D : DataW Unit} {l : List Int} (h : Seen D l) (hD : IsMap D) (x : Int) : Seen (D.put (.int .i64 x) (.lit (.bool true))) (l ++ [x]) := by
  intro y
  by_cases e : y = x
  · subst e
    rw [atKey_put_same hD (by simp [WideAt.IsKeyLit])]
    simp
  · rw [atKey_put_other (by intro h; cases h; exact e rfl), h y]
    congr 2
    simp [e]
theorem codes_walk (b off n cap : Nat) (w : World) (cs : List Int) (c1 c2 c3 c4 c5 : Nat → Int) (c6 : Nat → Bool) (c7 : Nat → Int) (hb : b < w.heap.size) (hn : n ≤ maxLen) (hl : cs.length = n) (hwf : ∀ k, (Lit.int .i64 (cs.getD k 0)).wf = true)
   (h0 : ∀ j, j < n → w.cell? ⟨b, off + j * 8, none⟩ = some (.int .i64 (cs.getD j 0)))
   (h1 : ∀ j, j < n → w.cell? ⟨b, off + j * 8 + 1, none⟩ = some (.int .i64 (c1 j)))
   (h2 : ∀ j, j < n → w.cell? ⟨b, off + j * 8 + 2, none⟩ = some (.int .i64 (c2 j)))
   (h3 : ∀ j, j < n → w.cell? ⟨b, off + j * 8 + 3, none⟩ = some (.int .i64 (c3 j)))
   (h4 : ∀ j, j < n → w.cell? ⟨b, off + j * 8 + 4, none⟩ = some (.int .i64 (c4 j)))
   (h5 : ∀ j, j < n → w.cell? ⟨b, off + j * 8 + 5, none⟩ = some (.int .i64 (c5 j)))
   (h6 : ∀ j, j < n → w.cell? ⟨b, off + j * 8 + 6, none⟩ = some (.bool (c6 j)))
   (h7 : ∀ j, j < n → w.cell? ⟨b, off + j * 8 + 7, none⟩ = some (.int .i64 (c7 j)))
   : Calls Try.prog 29 #[.slice (some ⟨b, off, none⟩) n cap] w fun e w' => e = .returned (.bool (Sp.dst cs)) ∧ Below w.heap.size w w' := by
  have hn64 : n ≤ 9223372036854775807 := by simpa [maxLen] using hn
  have hmm := @run_makeMap Try.prog
  go_enter Try.func29, Try.ntmps29
  go_wp2
  go_loopw [9] (fun i wr => ∃ (k : Nat) (D : DataW Unit), (k ≤ n ∧ i = .int .i64 k ∧ (cs.take k).Nodup ∧ Seen D (cs.take k)) ∧ wr.ownsMap Try.prog 3 (plainElem Try.prog 4) w.heap.size k D ∧ Below w.heap.size w wr)
    (fun i _ => n - (intOf i).toNat)
  case atStart => exact ⟨0, .map [], ⟨Nat.zero_le _, rfl, by simp, fun x => rfl⟩, World.ownsMap_made _ _ _ _, (Below.refl _ _).alloc (Nat.le_refl _) _⟩
  case round =>
    obtain ⟨k, D, ⟨hk, rfl, hnd, hseen⟩, hown, hnx⟩ := hrel
    have hc0 : k < n → wr.cell? ⟨b, off + k * 8, none⟩ = some (.int .i64 (cs.getD k 0)) := fun h => (hnx.cell hb).trans (h0 k h)
    have hc1 : k < n → wr.cell? ⟨b, off + k * 8 + 1, none⟩ = some (.int .i64 (c1 k)) := fun h => (hnx.cell hb).trans (h1 k h)
    have hc2 : k < n → wr.cell? ⟨b, off + k * 8 + 2, none⟩ = some (.int .i64 (c2 k)) := fun h => (hnx.cell hb).trans (h2 k h)
    have hc3 : k < n → wr.cell? ⟨b, off + k * 8 + 3, none⟩ = some (.int .i64 (c3 k)) := fun h => (hnx.cell hb).trans (h3 k h)
    have hc4 : k < n → wr.cell? ⟨b, off + k * 8 + 4, none⟩ = some (.int .i64 (c4 k)) := fun h => (hnx.cell hb).trans (h4 k h)
    have hc5 : k < n → wr.cell? ⟨b, off + k * 8 + 5, none⟩ = some (.int .i64 (c5 k)) := fun h => (hnx.cell hb).trans (h5 k h)
    have hc6 : k < n → wr.cell? ⟨b, off + k * 8 + 6, none⟩ = some (.bool (c6 k)) := fun h => (hnx.cell hb).trans (h6 k h)
    have hc7 : k < n → wr.cell? ⟨b, off + k * 8 + 7, none⟩ = some (.int .i64 (c7 k)) := fun h => (hnx.cell hb).trans (h7 k h)
    have hkey : keyOf Try.prog 3 (.int .i64 (cs.getD k 0)) = some (.int .i64 (cs.getD k 0)) := keyOf_int_mk Try.underlying3 (hwf k)
    have hlook : ∀ W : World, W.ownsMap Try.prog 3 (plainElem Try.prog 4) w.heap.size k D → (Instr.lookup 71 (.map (some w.heap.size)) (.int .i64 (cs.getD k 0)) false).run Try.prog W = .ok (.bool ((cs.take k).contains (cs.getD k 0))) W := by
      intro W hW
      obtain ⟨v, ps, hrun, hv⟩ := hW.lookup cd_law3 Try.underlying71 (cd_zero4 _) (plainElem_bool Try.underlying4 false) hkey
      rw [hseen] at hv
      have e : v = .bool ((cs.take k).contains (cs.getD k 0)) := by
        unfold plainElem at hv
        rw [Try.underlying4] at hv
        cases v <;> simp at hv
        rw [hv.1]
        simp
      rw [hrun, e]
    generalize hx : cs.getD k 0 = x at hc0 hkey hlook
    have hown2 := hown.alloc (.cells #[.int .i64 x, .int .i64 (c1 k), .int .i64 (c2 k), .int .i64 (c3 k), .int .i64 (c4 k), .int .i64 (c5 k), .bool (c6 k), .int .i64 (c7 k)] 23)
    have hlk := hlook _ hown2
    clear hlook
    by_cases hkn : k < n
    · cases hbb : (cs.take k).contains x
      · rw [hbb] at hlk
        go_wp2_with (first
          | (at_mapUpdate; refine wpList_mapUpdate_own _ rfl _ _ _ 71 rfl 3 4 cd_law3 Try.underlying71 _ w.heap.size k _ rfl hown2 (by omega) _ _ _ rfl rfl hkey _ [] (plainElem_bool Try.underlying4 true) ?_; intro w1 hown1 hgrow1)
          | go_in)
        go_roundw
        case rel =>
          refine ⟨k + 1, _, ⟨by omega, by go_num, ?_, ?_⟩, hown1, ?_⟩
          · exact Sp.nodup_take (by omega) hnd (by rw [hx]; exact hbb)
          · have := hseen.put hown.isMap x
            rw [List.take_succ_eq_append_getElem (by omega)]
            have e : cs[k]'(by omega) = x := by rw [← hx]; simp [List.getD_eq_getElem?_getD, show k < cs.length by omega]
            rw [e]
            exact this
          · exact (hnx.alloc (by simpa using hnx.size) _).grown hgrow1 (by simpa using Nat.le_succ_of_le hnx.size) (fun j hj => by cases hj; exact Nat.le_refl _)
        case measure => simp [intOf]; omega
      · rw [hbb] at hlk
        go_wp2
        go_ret
        refine ⟨?_, hnx.alloc (by simpa using hnx.size) _⟩
        rw [Sp.dst_false (Sp.not_nodup (k := k) (by omega) (by rw [hx]; exact hbb))]
        rfl
    · have : k = n := by omega
      subst this
      go_wp2
      go_ret
      refine ⟨?_, hnx⟩
      rw [List.take_of_length_le (by omega)] at hnd
      rw [(Sp.dst_nodup cs).2 hnd]
      rfl
theorem codes_none (a : Option Addr) (cap : Nat) (w : World) : Calls Try.prog 29 #[.slice a 0 cap] w fun e w' => e = .returned (.bool true) ∧ Below w.heap.size w w' := by
  have hmm := @run_makeMap Try.prog
  go_enter Try.func29, Try.ntmps29
  go_wp2
  refine wp_loop_rounds 1 ?_
  rw [rounds_succ]
  go_wp2
  go_ret
  exact ⟨rfl, (Below.refl _ _).alloc (Nat.le_refl _) _⟩
/-- The summary. -/
theorem cfg_cells {w : World} {I : Nat → Prop} {x : CfgTy.den} {cs : List Value} (h : RepD w I CfgTy x cs) : cs = [.int .i64 x.1, .int .i64 x.2.1, .int .i64 x.2.2.1, .int .i64 x.2.2.2.1, .int .i64 x.2.2.2.2.1, .int .i64 x.2.2.2.2.2.1, .bool x.2.2.2.2.2.2.1, .int .i64 x.2.2.2.2.2.2.2.1] ∧ IntKind.wrap .i64 x.1 = x.1 := by
  obtain ⟨a0, r0, rfl, ⟨rfl, hw⟩, a1, r1, rfl, ⟨rfl, _⟩, a2, r2, rfl, ⟨rfl, _⟩, a3, r3, rfl, ⟨rfl, _⟩, a4, r4, rfl, ⟨rfl, _⟩, a5, r5, rfl, ⟨rfl, _⟩, a6, r6, rfl, rfl, a7, r7, rfl, ⟨rfl, _⟩, rfl⟩ := h
  exact ⟨rfl, hw⟩
theorem sok_29 : SummOK Try.prog 29 codesS := by
  unfold codesS shN fN
  refine summ_of_callsN (rs := [.bool]) rfl (by kernel_rfl) ?_ ?_
  · intro cs' r h
    split at h
    · simp at h; subst h
      rfl
    · cases h
  · intro w I look cs cs' l vs himm hp h hvs
    obtain ⟨x, rfl⟩ := purify_ofH hp
    rw [toH_ofH] at h
    simp only [Option.some.injEq, Prod.mk.injEq, true_and] at h
    subst h
    obtain ⟨xs, _⟩ := x
    match vs, hvs with
    | [v], ⟨hv, _⟩ =>
      obtain ⟨a, c, ev, q1, q2, q3⟩ := VRep_slice.1 hv
      simp at ev
      subst ev
      have fin : ∀ (w' : World), VRep (pureE w' I) (tupOf (ofH [.bool] (Sp.dst ((show List CfgTy.den from xs).map fun c => c.1), ()))) (.bool (Sp.dst ((show List CfgTy.den from xs).map fun c => c.1))) := by
        intro w'
        exact (VRep_one rfl (by simp [tupOf, ofH, ofP])).2 rfl
      by_cases h0 : 0 < List.length xs
      · obtain ⟨b, off, rows, rfl, hI, hcell, hrows⟩ := q3 h0
        have hrow : ∀ i, i < List.length xs → ∃ l r, rows = l ++ [.int .i64 (xs.getD i CfgTy.dflt).1, .int .i64 (xs.getD i CfgTy.dflt).2.1, .int .i64 (xs.getD i CfgTy.dflt).2.2.1, .int .i64 (xs.getD i CfgTy.dflt).2.2.2.1, .int .i64 (xs.getD i CfgTy.dflt).2.2.2.2.1, .int .i64 (xs.getD i CfgTy.dflt).2.2.2.2.2.1, .bool (xs.getD i CfgTy.dflt).2.2.2.2.2.2.1, .int .i64 (xs.getD i CfgTy.dflt).2.2.2.2.2.2.2.1] ++ r ∧ l.length = i * 8 ∧ IntKind.wrap .i64 (xs.getD i CfgTy.dflt).1 = (xs.getD i CfgTy.dflt).1 := by
          intro i hi
          obtain ⟨c, hc, l, r, e, hl⟩ := Rows.at_ (fun x c => RepD.len CfgTy x c) CfgTy.dflt xs rows hrows i hi
          obtain ⟨rfl, hw⟩ := cfg_cells hc
          exact ⟨l, r, e, hl, hw⟩
        have hcl : ∀ (i q : Nat) (u : Value), i < List.length xs → q < 8 → [.int .i64 (xs.getD i CfgTy.dflt).1, .int .i64 (xs.getD i CfgTy.dflt).2.1, .int .i64 (xs.getD i CfgTy.dflt).2.2.1, .int .i64 (xs.getD i CfgTy.dflt).2.2.2.1, .int .i64 (xs.getD i CfgTy.dflt).2.2.2.2.1, .int .i64 (xs.getD i CfgTy.dflt).2.2.2.2.2.1, .bool (xs.getD i CfgTy.dflt).2.2.2.2.2.2.1, .int .i64 (xs.getD i CfgTy.dflt).2.2.2.2.2.2.2.1][q]? = some u → w.cell? ⟨b, off + (i * 8 + q), none⟩ = some u := by
          intro i q u hi hq hu
          obtain ⟨l, r, e, hl, _⟩ := hrow i hi
          refine hcell (i * 8 + q) u ?_
          rw [e, List.append_assoc, List.getElem?_append_right (by omega), hl, Nat.add_sub_cancel_left, List.getElem?_append_left (by simpa using hq)]
          exact hu
        have hget : ∀ j, j < List.length xs → ((show List CfgTy.den from xs).map fun c => c.1).getD j 0 = (xs.getD j CfgTy.dflt).1 := by
          intro j hj
          have hj' : j < (show List CfgTy.den from xs).length := hj
          simp [List.getD_eq_getElem?_getD, hj']
        have hwf : ∀ k, (Lit.int .i64 (((show List CfgTy.den from xs).map fun c => c.1).getD k 0)).wf = true := by
          intro k
          by_cases hk : k < List.length xs
          · rw [hget k hk]
            obtain ⟨_, _, _, _, hw⟩ := hrow k hk
            exact wf_wrap hw
          · rw [List.getD_eq_getElem?_getD, List.getElem?_eq_none (by simpa using hk)]
            decide
        refine Calls.mono (codes_walk b off (List.length xs) c w ((show List CfgTy.den from xs).map fun c => c.1) (fun j => (xs.getD j CfgTy.dflt).2.1) (fun j => (xs.getD j CfgTy.dflt).2.2.1) (fun j => (xs.getD j CfgTy.dflt).2.2.2.1) (fun j => (xs.getD j CfgTy.dflt).2.2.2.2.1) (fun j => (xs.getD j CfgTy.dflt).2.2.2.2.2.1) (fun j => (xs.getD j CfgTy.dflt).2.2.2.2.2.2.1) (fun j => (xs.getD j CfgTy.dflt).2.2.2.2.2.2.2.1) (himm b hI) (Nat.le_trans q1 q2) (by simp) hwf
          (fun j hj => by rw [hget j hj]; exact hcl j 0 _ hj (by omega) rfl)
          (fun j hj => hcl j 1 _ hj (by omega) rfl) (fun j hj => hcl j 2 _ hj (by omega) rfl) (fun j hj => hcl j 3 _ hj (by omega) rfl) (fun j hj => hcl j 4 _ hj (by omega) rfl) (fun j hj => hcl j 5 _ hj (by omega) rfl) (fun j hj => hcl j 6 _ hj (by omega) rfl) (fun j hj => hcl j 7 _ hj (by omega) rfl)) ?_
        rintro e w' ⟨rfl, hbel⟩
        exact ⟨_, rfl, hbel, fin w'⟩
      · have h0 : List.length xs = 0 := by omega
        have hx := List.eq_nil_of_length_eq_zero h0
        rw [h0]
        refine Calls.mono (codes_none a c w) ?_
        rintro e w' ⟨rfl, hbel⟩
        refine ⟨_, rfl, hbel, ?_⟩
        have := fin w'
        rw [hx] at this ⊢
        exact this
end Go.Ev
namespace Go.Ev
open Go
abbrev Zd0 := (Ty.dflt (.pair (.int .i64) (.pair (.int .i64) (.pair (.int .i64) (.pair (.int .i64) (.pair (.int .i64) (.pair (.int .i64) (.pair .bool (.pair (.int .i64) .unit)))))))))
abbrev Zd1 := (Ty.dflt (.pair (.int .i64) (.pair (.int .i64) (.pair (.int .i64) (.pair (.int .i64) (.pair (.int .i64) (.pair (.slice (.int .i64)) (.pair (.int .i64) .unit))))))))
abbrev Zd2 := (Ty.dflt (.pair (.int .i8) (.pair .bool .unit)))
abbrev Zd3 := (Ty.dflt (.pair (.slice (.pair (.int .i64) (.pair (.int .i64) (.pair (.int .i64) (.pair (.int .i64) (.pair (.int .i64) (.pair (.int .i64) (.pair .bool (.pair (.int .i64) .unit))))))))) (.pair (.slice (.pair (.int .i64) (.pair (.int .i64) (.pair (.int .i64) (.pair (.int .i64) (.pair (.int .i64) (.pair (.slice (.int .i64)) (.pair (.int .i64) .unit)))))))) (.pair (.int .i64) (.pair .bool .unit)))))
abbrev Zi0 : Ty := (.pair (.int .i64) (.pair (.int .i64) (.pair (.int .i64) (.pair (.int .i64) (.pair (.int .i64) (.pair (.int .i64) (.pair .bool (.pair (.int .i64) .unit))))))))
abbrev Zi1 : Ty := (.pair (.int .i64) (.pair (.int .i64) (.pair (.int .i64) (.pair (.int .i64) (.pair (.int .i64) (.pair (.slice (.int .i64)) (.pair (.int .i64) .unit)))))))
abbrev Zi2 : Ty := (.pair (.slice (.pair (.int .i64) (.pair (.int .i64) (.pair (.int .i64) (.pair (.int .i64) (.pair (.int .i64) (.pair (.int .i64) (.pair .bool (.pair (.int .i64) .unit))))))))) (.pair (.slice (.pair (.int .i64) (.pair (.int .i64) (.pair (.int .i64) (.pair (.int .i64) (.pair (.int .i64) (.pair (.slice (.int .i64)) (.pair (.int .i64) .unit)))))))) (.pair (.int .i64) (.pair .bool .unit))))
abbrev Zi3 : Ty := (.pair (.int .i64) (.pair .bool .unit))
def jl (n : Nat) : List CV := List.replicate n .junk
abbrev op0 (d : Nat) (op : IOp) (args : List Opd) : IOper := ⟨some d, op, args, none, 0, []⟩
def ir4_b0 : IC := (.seq (.region false 0 [ op0 26 (.bin .lss) [.tmp 25, .tmp 24]]) (.seq (.cond (.tmp 26) (.skip) (.cut [] (.exit 0))) (.seq (.block 1 (.seq (.region false 1 [ op0 27 (.idxSl 4) [.tmp 23, .tmp 25], op0 28 (.load true 4) [.tmp 27], ⟨some 6, .alloc 29 (.pair (.nil 23 Zi0) (.pair (.nil 46 Zi1) (.pure Zi3 (0, (false, ()))))), [], none, 0, []⟩, ⟨none, .store 4, [.tmp 6, .tmp 28], none, 0, []⟩]) (.seq (.region false 2 [ op0 29 (.load true 4) [.tmp 6], op0 30 (.callS 15) [.tmp 29], op0 31 .not [.tmp 30], op0 32 .mov [.tmp 31], ⟨some 33, .load true 4, [.tmp 6], some (32, false), 0, []⟩, ⟨some 34, .callS 18, [.tmp 33], some (32, false), 0, []⟩, ⟨some 35, .not, [.tmp 34], some (32, false), 0, []⟩, op0 36 .pick [.tmp 32, .cst (.bool true), .tmp 35], op0 37 .mov [.tmp 36], ⟨some 38, .fieldAddr 0 0, [.tmp 6], some (37, false), 0, []⟩, ⟨some 39, .load false 1, [.tmp 38], some (37, false), 0, []⟩, ⟨some 40, .len, [.tmp 39], some (37, false), 0, []⟩, ⟨some 41, .fieldAddr 0 0, [.tmp 2], some (37, false), 0, []⟩, ⟨some 42, .load false 1, [.tmp 41], some (37, false), 0, []⟩, ⟨some 43, .len, [.tmp 42], some (37, false), 0, []⟩, ⟨some 44, .bin .neq, [.tmp 40, .tmp 43], some (37, false), 0, []⟩, op0 45 .pick [.tmp 37, .cst (.bool true), .tmp 44], op0 46 .mov [.tmp 45], ⟨some 47, .fieldAddr 1 1, [.tmp 6], some (46, false), 0, []⟩, ⟨some 48, .load false 1, [.tmp 47], some (46, false), 0, []⟩, ⟨some 49, .len, [.tmp 48], some (46, false), 0, []⟩, ⟨some 50, .fieldAddr 1 1, [.tmp 2], some (46, false), 0, []⟩, ⟨some 51, .load false 1, [.tmp 50], some (46, false), 0, []⟩, ⟨some 52, .len, [.tmp 51], some (46, false), 0, []⟩, ⟨some 53, .bin .neq, [.tmp 49, .tmp 52], some (46, false), 0, []⟩, op0 54 .pick [.tmp 46, .cst (.bool true), .tmp 53], op0 55 .mov [.tmp 54], ⟨some 56, .fieldAddr 2 2, [.tmp 6], some (55, false), 0, []⟩, ⟨some 57, .load false 1, [.tmp 56], some (55, false), 0, []⟩, ⟨some 58, .fieldAddr 2 2, [.tmp 2], some (55, false), 0, []⟩, ⟨some 59, .load false 1, [.tmp 58], some (55, false), 0, []⟩, ⟨some 60, .bin .lss, [.tmp 57, .tmp 59], some (55, false), 0, []⟩, op0 61 .pick [.tmp 55, .cst (.bool true), .tmp 60]]) (.cond (.tmp 61) (.seq (.region false 0 [ op0 4 .mov [.cst (.bool false)]]) (.cut [4] (.ret))) (.skip))))) (.region false 0 [ op0 62 (.bin .add) [.tmp 25, .cst (.int .i64 1)], op0 25 .mov [.tmp 62]]))))
def ir4_v0 : List Nat := [2, 23, 24, 25]
def ir4_t {R : Type} (o0 : St → (Ex → St → Option R) → Option R) : LT R := (.node .nil (.node .nil (.node .nil (.node (.node .nil (.node (.orc o0) .nil)) .nil))))
def ir4 : IFn := { ntmps := 63, results := [.inl 4], body := (.seq (.region false 1 [ op0 2 (.box 29) [.tmp 0], op0 4 .mov [.cst (.bool false)]]) (.seq (.seq (.region false 1 [ op0 7 (.callS 8) [], op0 8 .not [.tmp 7]]) (.cond (.tmp 8) (.seq (.region false 0 [ op0 4 .mov [.cst (.bool false)]]) (.cut [4] (.ret))) (.skip))) (.seq (.seq (.region false 2 [ op0 9 (.load true 4) [.tmp 2], op0 10 (.callS 16) [.tmp 9], op0 11 .mov [.tmp 10], ⟨some 12, .mov, [.tmp 1], some (11, false), 0, []⟩, ⟨some 13, .len, [.tmp 12], some (11, false), 0, []⟩, ⟨some 14, .bin .gtr, [.tmp 13, .cst (.int .i64 100)], some (11, false), 0, []⟩, op0 15 .pick [.tmp 11, .cst (.bool true), .tmp 14], op0 16 .mov [.tmp 15], ⟨some 17, .load true 4, [.tmp 2], some (16, false), 0, []⟩, ⟨some 18, .callS 15, [.tmp 17], some (16, false), 0, []⟩, ⟨some 19, .not, [.tmp 18], some (16, false), 0, []⟩, op0 20 .pick [.tmp 16, .cst (.bool true), .tmp 19]]) (.cond (.tmp 20) (.seq (.region false 0 [ op0 4 .mov [.cst (.bool true)]]) (.cut [4] (.ret))) (.skip))) (.seq (.seq (.region false 1 [ op0 21 (.load true 4) [.tmp 2], op0 22 .mov [.tmp 1], op0 23 (.callS 17) [.tmp 21, .tmp 22], op0 24 .len [.tmp 23], op0 25 .mov [.cst (.int .i64 0)]]) (.block 0 (.loop ir4_v0 ir4_b0))) (.seq (.region false 0 [ op0 4 .mov [.cst (.bool true)]]) (.cut [4] (.ret))))))) }
theorem ir4_tok {R : Type} {summ : Nat → Option Summ} {fu : Nat} {call : Nat → List CV → List Blk → (CV → List Blk → Option R) → Option R} {o0 : St → (Ex → St → Option R) → Option R} (h0 : ∀ T k r, o0 T k = some r → evLoopN (evCode summ fu call ir4_b0) (St.norm ir4_v0) fu T k = some r) : LTok summ fu call (ir4_t o0) ir4.body := ⟨trivial, ⟨trivial, ⟨trivial, ⟨⟨trivial, h0⟩, trivial⟩⟩⟩⟩


def ir8 : IFn := { ntmps := 80, results := [.inl 0], body := (.seq (.region false 0 [ op0 0 .mov [.cst (.bool false)]]) (.seq (.region false 4 [ op0 12 (.callS 23) [], op0 13 (.buildSl 23 Zi0 1) [.tmp 12], op0 14 (.callS 11) [.tmp 13], op0 11 .mov [.tmp 14], op0 15 (.extract 0) [.tmp 11], op0 16 (.extract 1) [.tmp 11], ⟨some 1, .alloc 29 (.pair (.nil 23 Zi0) (.pair (.nil 46 Zi1) (.pure Zi3 (0, (false, ()))))), [], none, 0, []⟩, ⟨none, .store 4, [.tmp 1, .tmp 15], none, 0, []⟩, op0 2 .mov [.tmp 16]]) (.seq (.region false 3 [ op0 18 (.load true 4) [.tmp 1], op0 19 (.buildSl 4 .bool 2) [.cst (.bool true), .cst (.bool true)], op0 20 (.callS 21) [.tmp 18, .cst (.int .i64 0), .tmp 19], op0 17 .mov [.tmp 20], op0 21 (.extract 0) [.tmp 17], op0 22 (.extract 1) [.tmp 17], ⟨some 3, .alloc 29 (.pair (.nil 23 Zi0) (.pair (.nil 46 Zi1) (.pure Zi3 (0, (false, ()))))), [], none, 0, []⟩, ⟨none, .store 4, [.tmp 3, .tmp 21], none, 0, []⟩, op0 4 .mov [.tmp 22]]) (.seq (.region false 3 [ op0 24 (.load true 4) [.tmp 3], op0 25 (.buildSl 4 .bool 2) [.cst (.bool true), .cst (.bool true)], op0 26 (.callS 21) [.tmp 24, .cst (.int .i64 0), .tmp 25], op0 23 .mov [.tmp 26], op0 27 (.extract 0) [.tmp 23], op0 28 (.extract 1) [.tmp 23], ⟨some 5, .alloc 29 (.pair (.nil 23 Zi0) (.pair (.nil 46 Zi1) (.pure Zi3 (0, (false, ()))))), [], none, 0, []⟩, ⟨none, .store 4, [.tmp 5, .tmp 27], none, 0, []⟩, op0 6 .mov [.tmp 28]]) (.seq (.region false 3 [ op0 30 (.load true 4) [.tmp 5], op0 31 (.buildSl 4 .bool 1) [.cst (.bool false)], op0 32 (.callS 21) [.tmp 30, .cst (.int .i64 0), .tmp 31], op0 29 .mov [.tmp 32], op0 33 (.extract 0) [.tmp 29], op0 34 (.extract 1) [.tmp 29], ⟨some 7, .alloc 29 (.pair (.nil 23 Zi0) (.pair (.nil 46 Zi1) (.pure Zi3 (0, (false, ()))))), [], none, 0, []⟩, ⟨none, .store 4, [.tmp 7, .tmp 33], none, 0, []⟩, op0 8 .mov [.tmp 34]]) (.seq (.region false 3 [ op0 36 (.load true 4) [.tmp 7], op0 37 (.buildSl 4 .bool 1) [.cst (.bool false)], op0 38 (.callS 21) [.tmp 36, .cst (.int .i64 0), .tmp 37], op0 35 .mov [.tmp 38], op0 39 (.extract 0) [.tmp 35], op0 40 (.extract 1) [.tmp 35], ⟨some 9, .alloc 29 (.pair (.nil 23 Zi0) (.pair (.nil 46 Zi1) (.pure Zi3 (0, (false, ()))))), [], none, 0, []⟩, ⟨none, .store 4, [.tmp 9, .tmp 39], none, 0, []⟩, op0 10 .mov [.tmp 40]]) (.seq (.region false 5 [ op0 41 .mov [.tmp 2], op0 42 (.bin .eql) [.tmp 41, .cst (.int .i64 0)], op0 43 .mov [.tmp 42], ⟨some 44, .mov, [.tmp 4], some (43, true), 0, []⟩, op0 45 .pick [.tmp 43, .tmp 44, .cst (.bool false)], op0 46 .mov [.tmp 45], ⟨some 47, .mov, [.tmp 6], some (46, true), 0, []⟩, op0 48 .pick [.tmp 46, .tmp 47, .cst (.bool false)], op0 49 .mov [.tmp 48], ⟨some 50, .mov, [.tmp 8], some (49, true), 0, []⟩, op0 51 .pick [.tmp 49, .tmp 50, .cst (.bool false)], op0 52 .mov [.tmp 51], ⟨some 53, .mov, [.tmp 10], some (52, true), 0, []⟩, op0 54 .pick [.tmp 52, .tmp 53, .cst (.bool false)], op0 55 .mov [.tmp 54], ⟨some 56, .load true 4, [.tmp 3], some (55, true), 0, []⟩, ⟨some 57, .callS 24, [.tmp 56], some (55, true), 0, []⟩, ⟨some 58, .bin .eql, [.tmp 57, .cst (.int .i64 11)], some (55, true), 0, []⟩, op0 59 .pick [.tmp 55, .tmp 58, .cst (.bool false)], op0 60 .mov [.tmp 59], ⟨some 61, .load true 4, [.tmp 5], some (60, true), 0, []⟩, ⟨some 62, .callS 22, [.tmp 61], some (60, true), 0, []⟩, op0 63 .pick [.tmp 60, .tmp 62, .cst (.bool false)], op0 64 .mov [.tmp 63], ⟨some 65, .load true 4, [.tmp 7], some (64, true), 0, []⟩, ⟨some 66, .callS 22, [.tmp 65], some (64, true), 0, []⟩, ⟨some 67, .not, [.tmp 66], some (64, true), 0, []⟩, op0 68 .pick [.tmp 64, .tmp 67, .cst (.bool false)], op0 69 .mov [.tmp 68], ⟨some 70, .load true 4, [.tmp 7], some (69, true), 0, []⟩, ⟨some 71, .callS 24, [.tmp 70], some (69, true), 0, []⟩, ⟨some 72, .bin .and, [.tmp 71, .cst (.int .i64 4)], some (69, true), 0, []⟩, ⟨some 73, .bin .neq, [.tmp 72, .cst (.int .i64 0)], some (69, true), 0, []⟩, op0 74 .pick [.tmp 69, .tmp 73, .cst (.bool false)], op0 75 .mov [.tmp 74], ⟨some 76, .load true 4, [.tmp 9], some (75, true), 0, []⟩, ⟨some 77, .callS 24, [.tmp 76], some (75, true), 0, []⟩, ⟨some 78, .bin .eql, [.tmp 77, .cst (.int .i64 8)], some (75, true), 0, []⟩, op0 79 .pick [.tmp 75, .tmp 78, .cst (.bool false)], op0 0 .mov [.tmp 79]]) (.cut [0] (.ret))))))))) }


def ir9 : IFn := { ntmps := 38, results := [.inl 2], body := (.seq (.region false 1 [ op0 1 (.box 23) [.tmp 0], op0 2 .mov [.cst (.bool false)]]) (.seq (.region false 7 [ op0 3 (.fieldAddr 0 0) [.tmp 1], op0 4 (.load false 1) [.tmp 3], op0 5 (.callS 25) [.tmp 4, .cst (.int .i64 1), .cst (.int .i64 16777215)], op0 6 .mov [.tmp 5], ⟨some 7, .fieldAddr 1 1, [.tmp 1], some (6, true), 0, []⟩, ⟨some 8, .load false 1, [.tmp 7], some (6, true), 0, []⟩, ⟨some 9, .callS 25, [.tmp 8, .cst (.int .i64 1), .cst (.int .i64 100)], some (6, true), 0, []⟩, op0 10 .pick [.tmp 6, .tmp 9, .cst (.bool false)], op0 11 .mov [.tmp 10], ⟨some 12, .fieldAddr 2 2, [.tmp 1], some (11, true), 0, []⟩, ⟨some 13, .load false 1, [.tmp 12], some (11, true), 0, []⟩, ⟨some 14, .callS 25, [.tmp 13, .cst (.int .i64 1), .cst (.int .i64 100)], some (11, true), 0, []⟩, op0 15 .pick [.tmp 11, .tmp 14, .cst (.bool false)], op0 16 .mov [.tmp 15], ⟨some 17, .fieldAddr 3 3, [.tmp 1], some (16, true), 0, []⟩, ⟨some 18, .load false 1, [.tmp 17], some (16, true), 0, []⟩, ⟨some 19, .callS 25, [.tmp 18, .cst (.int .i64 1), .cst (.int .i64 100)], some (16, true), 0, []⟩, op0 20 .pick [.tmp 16, .tmp 19, .cst (.bool false)], op0 21 .mov [.tmp 20], ⟨some 22, .fieldAddr 4 4, [.tmp 1], some (21, true), 0, []⟩, ⟨some 23, .load false 1, [.tmp 22], some (21, true), 0, []⟩, ⟨some 24, .fieldAddr 3 3, [.tmp 1], some (21, true), 0, []⟩, ⟨some 25, .load false 1, [.tmp 24], some (21, true), 0, []⟩, ⟨some 26, .callS 25, [.tmp 23, .tmp 25, .cst (.int .i64 255)], some (21, true), 0, []⟩, op0 27 .pick [.tmp 21, .tmp 26, .cst (.bool false)], op0 28 .mov [.tmp 27], ⟨some 29, .fieldAddr 5 5, [.tmp 1], some (28, true), 0, []⟩, ⟨some 30, .load false 1, [.tmp 29], some (28, true), 0, []⟩, ⟨some 31, .callS 25, [.tmp 30, .cst (.int .i64 0), .cst (.int .i64 255)], some (28, true), 0, []⟩, op0 32 .pick [.tmp 28, .tmp 31, .cst (.bool false)], op0 33 .mov [.tmp 32], ⟨some 34, .fieldAddr 7 7, [.tmp 1], some (33, true), 0, []⟩, ⟨some 35, .load false 1, [.tmp 34], some (33, true), 0, []⟩, ⟨some 36, .callS 25, [.tmp 35, .cst (.int .i64 0), .cst (.int .i64 8)], some (33, true), 0, []⟩, op0 37 .pick [.tmp 33, .tmp 36, .cst (.bool false)], op0 2 .mov [.tmp 37]]) (.cut [2] (.ret)))) }


def ir10 : IFn := { ntmps := 38, results := [.inl 2], body := (.seq (.region false 1 [ op0 1 (.box 23) [.tmp 0], op0 2 .mov [.cst (.bool false)]]) (.seq (.region false 7 [ op0 3 (.fieldAddr 0 0) [.tmp 1], op0 4 (.load false 1) [.tmp 3], op0 5 (.callS 26) [.tmp 4, .cst (.int .i64 1), .cst (.int .i64 16777215)], op0 6 .mov [.tmp 5], ⟨some 7, .fieldAddr 1 1, [.tmp 1], some (6, true), 0, []⟩, ⟨some 8, .load false 1, [.tmp 7], some (6, true), 0, []⟩, ⟨some 9, .callS 26, [.tmp 8, .cst (.int .i64 1), .cst (.int .i64 100)], some (6, true), 0, []⟩, op0 10 .pick [.tmp 6, .tmp 9, .cst (.bool false)], op0 11 .mov [.tmp 10], ⟨some 12, .fieldAddr 2 2, [.tmp 1], some (11, true), 0, []⟩, ⟨some 13, .load false 1, [.tmp 12], some (11, true), 0, []⟩, ⟨some 14, .callS 26, [.tmp 13, .cst (.int .i64 1), .cst (.int .i64 100)], some (11, true), 0, []⟩, op0 15 .pick [.tmp 11, .tmp 14, .cst (.bool false)], op0 16 .mov [.tmp 15], ⟨some 17, .fieldAddr 3 3, [.tmp 1], some (16, true), 0, []⟩, ⟨some 18, .load false 1, [.tmp 17], some (16, true), 0, []⟩, ⟨some 19, .callS 26, [.tmp 18, .cst (.int .i64 1), .cst (.int .i64 100)], some (16, true), 0, []⟩, op0 20 .pick [.tmp 16, .tmp 19, .cst (.bool false)], op0 21 .mov [.tmp 20], ⟨some 22, .fieldAddr 4 4, [.tmp 1], some (21, true), 0, []⟩, ⟨some 23, .load false 1, [.tmp 22], some (21, true), 0, []⟩, ⟨some 24, .fieldAddr 3 3, [.tmp 1], some (21, true), 0, []⟩, ⟨some 25, .load false 1, [.tmp 24], some (21, true), 0, []⟩, ⟨some 26, .callS 26, [.tmp 23, .tmp 25, .cst (.int .i64 255)], some (21, true), 0, []⟩, op0 27 .pick [.tmp 21, .tmp 26, .cst (.bool false)], op0 28 .mov [.tmp 27], ⟨some 29, .fieldAddr 5 5, [.tmp 1], some (28, true), 0, []⟩, ⟨some 30, .load false 1, [.tmp 29], some (28, true), 0, []⟩, ⟨some 31, .callS 26, [.tmp 30, .cst (.int .i64 0), .cst (.int .i64 255)], some (28, true), 0, []⟩, op0 32 .pick [.tmp 28, .tmp 31, .cst (.bool false)], op0 33 .mov [.tmp 32], ⟨some 34, .fieldAddr 7 7, [.tmp 1], some (33, true), 0, []⟩, ⟨some 35, .load false 1, [.tmp 34], some (33, true), 0, []⟩, ⟨some 36, .callS 26, [.tmp 35, .cst (.int .i64 0), .cst (.int .i64 8)], some (33, true), 0, []⟩, op0 37 .pick [.tmp 33, .tmp 36, .cst (.bool false)], op0 2 .mov [.tmp 37]]) (.cut [2] (.ret)))) }


def ir11 : IFn := { ntmps := 24, results := [.inr (2, true, 4), .inl 3], body := (.seq (.region false 1 [ ⟨some 2, .alloc 29 (.pair (.nil 23 Zi0) (.pair (.nil 46 Zi1) (.pure Zi3 (0, (false, ()))))), [], none, 0, []⟩, op0 3 .mov [.cst (.int .i64 0)]]) (.seq (.block 0 (.seq (.region false 0 [ op0 5 .mov [.tmp 0], op0 6 .len [.tmp 5], op0 7 (.bin .gtr) [.tmp 6, .cst (.int .i64 64)], op0 4 .mov [.tmp 7]]) (.cond (.tmp 4) (.seq (.region false 0 [ ⟨some 8, .build [((.nil 23 Zi0), 1), ((.nil 46 Zi1), 1), ((.int .i64 0), 1), ((.bool false), 1)] [], [], none, 0, []⟩, ⟨none, .store 4, [.tmp 2, .tmp 8], none, 0, []⟩, op0 3 .mov [.cst (.int .i64 5)]]) (.cut [2, 3] (.ret))) (.seq (.region false 0 [ op0 10 .mov [.tmp 0], op0 11 (.call 27) [.tmp 10, .cst (.clo 28 (.pure .unit ()))], op0 9 .mov [.tmp 11]]) (.cond (.tmp 9) (.seq (.region false 0 [ ⟨some 12, .build [((.nil 23 Zi0), 1), ((.nil 46 Zi1), 1), ((.int .i64 0), 1), ((.bool false), 1)] [], [], none, 0, []⟩, ⟨none, .store 4, [.tmp 2, .tmp 12], none, 0, []⟩, op0 3 .mov [.cst (.int .i64 1)]]) (.cut [2, 3] (.ret))) (.seq (.region false 1 [ op0 14 .mov [.tmp 0], op0 15 (.callS 29) [.tmp 14], op0 16 .not [.tmp 15], op0 13 .mov [.tmp 16]]) (.cond (.tmp 13) (.seq (.region false 0 [ ⟨some 17, .build [((.nil 23 Zi0), 1), ((.nil 46 Zi1), 1), ((.int .i64 0), 1), ((.bool false), 1)] [], [], none, 0, []⟩, ⟨none, .store 4, [.tmp 2, .tmp 17], none, 0, []⟩, op0 3 .mov [.cst (.int .i64 8)]]) (.cut [2, 3] (.ret))) (.skip)))))))) (.seq (.region true 2 [ op0 18 .mov [.tmp 0], ⟨some 19, .callS 30, [.tmp 18], none, 0, [0]⟩, ⟨some 20, .mov, [.tmp 0], none, 1, []⟩, ⟨some 21, .len, [.tmp 20], none, 1, [2]⟩, ⟨some 22, .mkSlice 46 Zi1 72, [.tmp 21, .tmp 21], none, 1, [3, 2]⟩, ⟨some 23, .build [((.nil 23 Zi0), 1), ((.nil 46 Zi1), 1), ((.int .i64 0), 1), ((.bool false), 1)] [0, 1], [.tmp 19, .tmp 22], none, 2, [1, 0, 4, 3, 2]⟩, ⟨none, .store 4, [.tmp 2, .tmp 23], none, 2, [5, 1, 0, 4, 3, 2]⟩, ⟨some 3, .mov, [.cst (.int .i64 0)], none, 2, [6, 5, 1, 0, 4, 3, 2]⟩]) (.cut [2, 3] (.ret))))) }


def ir12_b0 : IC := (.seq (.seq (.region false 0 [ op0 9 .mov [.tmp 3], op0 10 .mov [.tmp 0], op0 11 .len [.tmp 10], op0 12 (.bin .lss) [.tmp 9, .tmp 11]]) (.cond (.tmp 12) (.skip) (.cut [0] (.exit 0)))) (.seq (.block 1 (.seq (.region false 1 [ op0 15 .mov [.tmp 0], op0 16 .mov [.tmp 3], op0 17 (.idxSl 8) [.tmp 15, .tmp 16], op0 18 (.load true 8) [.tmp 17], op0 19 (.callS 10) [.tmp 18], op0 20 .not [.tmp 19]]) (.cond (.tmp 20) (.seq (.region false 0 [ op0 2 .mov [.cst (.int .i64 1)]]) (.cut [2] (.ret))) (.skip)))) (.region false 0 [ op0 13 .mov [.tmp 3], op0 14 (.bin .add) [.tmp 13, .cst (.int .i64 1)], op0 3 .mov [.tmp 14]])))
def ir12_v0 : List Nat := [0, 3]
def ir12_b2 : IC := (.seq (.seq (.region false 0 [ op0 27 .mov [.tmp 5], op0 28 .mov [.tmp 4], op0 29 (.bin .lss) [.tmp 27, .tmp 28]]) (.cond (.tmp 29) (.skip) (.cut [0, 4] (.exit 4)))) (.seq (.block 5 (.seq (.region true 0 [ op0 32 .mov [.tmp 0], op0 33 .mov [.tmp 5], ⟨some 34, .idxSl 8, [.tmp 32, .tmp 33], none, 0, [0, 1]⟩, ⟨some 35, .fieldAddr 0 0, [.tmp 34], none, 0, [2, 0, 1]⟩, ⟨some 36, .load false 1, [.tmp 35], none, 0, [3, 2, 0, 1]⟩, op0 37 .mov [.tmp 0], op0 38 .mov [.tmp 4], ⟨some 39, .idxSl 8, [.tmp 37, .tmp 38], none, 0, [5, 6]⟩, ⟨some 40, .fieldAddr 0 0, [.tmp 39], none, 0, [7, 5, 6]⟩, ⟨some 41, .load false 1, [.tmp 40], none, 0, [8, 7, 5, 6]⟩, ⟨some 42, .bin .eql, [.tmp 36, .tmp 41], none, 0, [4, 3, 2, 0, 1, 9, 8, 7, 5, 6]⟩]) (.cond (.tmp 42) (.seq (.region false 0 [ op0 2 .mov [.cst (.int .i64 8)]]) (.cut [2] (.ret))) (.skip)))) (.region false 0 [ op0 30 .mov [.tmp 5], op0 31 (.bin .add) [.tmp 30, .cst (.int .i64 1)], op0 5 .mov [.tmp 31]])))
def ir12_v2 : List Nat := [0, 4, 5]
def ir12_b1 : IC := (.seq (.seq (.region false 0 [ op0 21 .mov [.tmp 4], op0 22 .mov [.tmp 0], op0 23 .len [.tmp 22], op0 24 (.bin .lss) [.tmp 21, .tmp 23]]) (.cond (.tmp 24) (.skip) (.cut [] (.exit 2)))) (.seq (.block 3 (.seq (.region false 0 [ op0 5 .mov [.cst (.int .i64 0)]]) (.block 4 (.loop ir12_v2 ir12_b2)))) (.region false 0 [ op0 25 .mov [.tmp 4], op0 26 (.bin .add) [.tmp 25, .cst (.int .i64 1)], op0 4 .mov [.tmp 26]])))
def ir12_v1 : List Nat := [0, 4]
def ir12_bt1 {R : Type} (o2 : St → (Ex → St → Option R) → Option R) : LT R := (.node .nil (.node (.node (.node .nil (.node (.orc o2) .nil)) .nil) .nil))
def ir12_t {R : Type} (o0 o1 : St → (Ex → St → Option R) → Option R) : LT R := (.node .nil (.node .nil (.node (.node .nil (.node (.orc o0) .nil)) (.node (.node .nil (.node (.orc o1) .nil)) .nil))))
def ir12 : IFn := { ntmps := 43, results := [.inl 2], body := (.seq (.region false 0 [ op0 2 .mov [.cst (.int .i64 0)]]) (.seq (.seq (.region false 0 [ op0 6 .mov [.tmp 0], op0 7 .len [.tmp 6], op0 8 (.bin .gtr) [.tmp 7, .cst (.int .i64 64)]]) (.cond (.tmp 8) (.seq (.region false 0 [ op0 2 .mov [.cst (.int .i64 5)]]) (.cut [2] (.ret))) (.skip))) (.seq (.seq (.region false 0 [ op0 3 .mov [.cst (.int .i64 0)]]) (.block 0 (.loop ir12_v0 ir12_b0))) (.seq (.seq (.region false 0 [ op0 4 .mov [.cst (.int .i64 0)]]) (.block 2 (.loop ir12_v1 ir12_b1))) (.seq (.region false 0 [ op0 2 .mov [.cst (.int .i64 0)]]) (.cut [2] (.ret))))))) }
theorem ir12_bt1ok {R : Type} {summ : Nat → Option Summ} {fu : Nat} {call : Nat → List CV → List Blk → (CV → List Blk → Option R) → Option R} {o2 : St → (Ex → St → Option R) → Option R} (h2 : ∀ T k r, o2 T k = some r → evLoopN (evCode summ fu call ir12_b2) (St.norm ir12_v2) fu T k = some r) : LTok summ fu call (ir12_bt1 o2) ir12_b1 := ⟨trivial, ⟨⟨trivial, h2⟩, trivial⟩⟩
theorem ir12_tok {R : Type} {summ : Nat → Option Summ} {fu : Nat} {call : Nat → List CV → List Blk → (CV → List Blk → Option R) → Option R} {o0 o1 : St → (Ex → St → Option R) → Option R} (h0 : ∀ T k r, o0 T k = some r → evLoopN (evCode summ fu call ir12_b0) (St.norm ir12_v0) fu T k = some r) (h1 : ∀ T k r, o1 T k = some r → evLoopN (evCode summ fu call ir12_b1) (St.norm ir12_v1) fu T k = some r) : LTok summ fu call (ir12_t o0 o1) ir12.body := ⟨trivial, ⟨trivial, ⟨⟨trivial, h0⟩, ⟨⟨trivial, h1⟩, trivial⟩⟩⟩⟩


def ir13 : IFn := { ntmps := 6, results := [.inl 2], body := (.seq (.region false 1 [ op0 1 (.box 29) [.tmp 0], op0 2 .mov [.cst (.bool false)]]) (.seq (.region false 1 [ op0 3 (.load true 4) [.tmp 1], ⟨some 4, .build [((.nil 23 Zi0), 1), ((.nil 46 Zi1), 1), ((.int .i64 0), 1), ((.bool false), 1)] [], [], none, 0, []⟩, op0 5 (.callS 14) [.tmp 3, .tmp 4], op0 2 .mov [.tmp 5]]) (.cut [2] (.ret)))) }


def ir14_b0 : IC := (.seq (.seq (.region false 0 [ op0 37 .mov [.tmp 5], op0 38 (.fieldAddr 0 0) [.tmp 2], op0 39 (.load false 1) [.tmp 38], op0 40 .len [.tmp 39], op0 41 (.bin .lss) [.tmp 37, .tmp 40]]) (.cond (.tmp 41) (.skip) (.cut [2, 3] (.exit 0)))) (.seq (.block 1 (.seq (.region true 0 [ op0 44 (.fieldAddr 0 0) [.tmp 2], ⟨some 45, .load false 1, [.tmp 44], none, 0, [0]⟩, op0 46 .mov [.tmp 5], ⟨some 47, .idxSl 8, [.tmp 45, .tmp 46], none, 0, [1, 0, 2]⟩, ⟨some 48, .load true 8, [.tmp 47], none, 0, [3, 1, 0, 2]⟩, op0 49 (.fieldAddr 0 0) [.tmp 3], ⟨some 50, .load false 1, [.tmp 49], none, 0, [5]⟩, op0 51 .mov [.tmp 5], ⟨some 52, .idxSl 8, [.tmp 50, .tmp 51], none, 0, [6, 5, 7]⟩, ⟨some 53, .load true 8, [.tmp 52], none, 0, [8, 6, 5, 7]⟩, ⟨some 54, .eqb true Zi0, [.tmp 48, .tmp 53], none, 0, [4, 3, 1, 0, 2, 9, 8, 6, 5, 7]⟩]) (.cond (.tmp 54) (.seq (.region false 0 [ op0 4 .mov [.cst (.bool false)]]) (.cut [4] (.ret))) (.skip)))) (.region false 0 [ op0 42 .mov [.tmp 5], op0 43 (.bin .add) [.tmp 42, .cst (.int .i64 1)], op0 5 .mov [.tmp 43]])))
def ir14_v0 : List Nat := [2, 3, 5]
def ir14_b1 : IC := (.seq (.seq (.region false 0 [ op0 55 .mov [.tmp 6], op0 56 (.fieldAddr 1 1) [.tmp 2], op0 57 (.load false 1) [.tmp 56], op0 58 .len [.tmp 57], op0 59 (.bin .lss) [.tmp 55, .tmp 58]]) (.cond (.tmp 59) (.skip) (.cut [] (.exit 2)))) (.seq (.block 3 (.seq (.region true 1 [ op0 62 (.fieldAddr 1 1) [.tmp 2], ⟨some 63, .load false 1, [.tmp 62], none, 0, [0]⟩, op0 64 .mov [.tmp 6], ⟨some 65, .idxSl 7, [.tmp 63, .tmp 64], none, 0, [1, 0, 2]⟩, ⟨some 66, .load true 7, [.tmp 65], none, 0, [3, 1, 0, 2]⟩, op0 67 (.fieldAddr 1 1) [.tmp 3], ⟨some 68, .load false 1, [.tmp 67], none, 0, [5]⟩, op0 69 .mov [.tmp 6], ⟨some 70, .idxSl 7, [.tmp 68, .tmp 69], none, 0, [6, 5, 7]⟩, ⟨some 71, .load true 7, [.tmp 70], none, 0, [8, 6, 5, 7]⟩, ⟨some 72, .callS 31, [.tmp 66, .tmp 71], none, 0, [4, 3, 1, 0, 2, 9, 8, 6, 5, 7]⟩, ⟨some 73, .not, [.tmp 72], none, 1, [10, 4, 3, 1, 0, 2, 9, 8, 6, 5, 7]⟩]) (.cond (.tmp 73) (.seq (.region false 0 [ op0 4 .mov [.cst (.bool false)]]) (.cut [4] (.ret))) (.skip)))) (.region false 0 [ op0 60 .mov [.tmp 6], op0 61 (.bin .add) [.tmp 60, .cst (.int .i64 1)], op0 6 .mov [.tmp 61]])))
def ir14_v1 : List Nat := [2, 3, 6]
def ir14_t {R : Type} (o0 o1 : St → (Ex → St → Option R) → Option R) : LT R := (.node .nil (.node .nil (.node (.node .nil (.node (.orc o0) .nil)) (.node (.node .nil (.node (.orc o1) .nil)) .nil))))
def ir14 : IFn := { ntmps := 74, results := [.inl 4], body := (.seq (.region false 2 [ op0 2 (.box 29) [.tmp 0], op0 3 (.box 29) [.tmp 1], op0 4 .mov [.cst (.bool false)]]) (.seq (.seq (.region false 0 [ op0 7 (.fieldAddr 0 0) [.tmp 2], op0 8 (.load false 1) [.tmp 7], op0 9 .len [.tmp 8], op0 10 (.fieldAddr 0 0) [.tmp 3], op0 11 (.load false 1) [.tmp 10], op0 12 .len [.tmp 11], op0 13 (.bin .neq) [.tmp 9, .tmp 12], op0 14 .mov [.tmp 13], ⟨some 15, .fieldAddr 1 1, [.tmp 2], some (14, false), 0, []⟩, ⟨some 16, .load false 1, [.tmp 15], some (14, false), 0, []⟩, ⟨some 17, .len, [.tmp 16], some (14, false), 0, []⟩, ⟨some 18, .fieldAddr 1 1, [.tmp 3], some (14, false), 0, []⟩, ⟨some 19, .load false 1, [.tmp 18], some (14, false), 0, []⟩, ⟨some 20, .len, [.tmp 19], some (14, false), 0, []⟩, ⟨some 21, .bin .neq, [.tmp 17, .tmp 20], some (14, false), 0, []⟩, op0 22 .pick [.tmp 14, .cst (.bool true), .tmp 21], op0 23 .mov [.tmp 22], ⟨some 24, .fieldAddr 2 2, [.tmp 2], some (23, false), 0, []⟩, ⟨some 25, .load false 1, [.tmp 24], some (23, false), 0, []⟩, ⟨some 26, .fieldAddr 2 2, [.tmp 3], some (23, false), 0, []⟩, ⟨some 27, .load false 1, [.tmp 26], some (23, false), 0, []⟩, ⟨some 28, .bin .neq, [.tmp 25, .tmp 27], some (23, false), 0, []⟩, op0 29 .pick [.tmp 23, .cst (.bool true), .tmp 28], op0 30 .mov [.tmp 29], ⟨some 31, .fieldAddr 3 3, [.tmp 2], some (30, false), 0, []⟩, ⟨some 32, .load false 1, [.tmp 31], some (30, false), 0, []⟩, ⟨some 33, .fieldAddr 3 3, [.tmp 3], some (30, false), 0, []⟩, ⟨some 34, .load false 1, [.tmp 33], some (30, false), 0, []⟩, ⟨some 35, .eqb true .bool, [.tmp 32, .tmp 34], some (30, false), 0, []⟩, op0 36 .pick [.tmp 30, .cst (.bool true), .tmp 35]]) (.cond (.tmp 36) (.seq (.region false 0 [ op0 4 .mov [.cst (.bool false)]]) (.cut [4] (.ret))) (.skip))) (.seq (.seq (.region false 0 [ op0 5 .mov [.cst (.int .i64 0)]]) (.block 0 (.loop ir14_v0 ir14_b0))) (.seq (.seq (.region false 0 [ op0 6 .mov [.cst (.int .i64 0)]]) (.block 2 (.loop ir14_v1 ir14_b1))) (.seq (.region false 0 [ op0 4 .mov [.cst (.bool true)]]) (.cut [4] (.ret))))))) }
def ir15_b1 : IC := (.seq (.region false 0 [ op0 48 (.bin .lss) [.tmp 47, .tmp 46]]) (.seq (.cond (.tmp 48) (.skip) (.cut [] (.exit 0))) (.seq (.block 1 (.seq (.region false 1 [ op0 49 .mov [.tmp 47], op0 50 (.idxSl 7) [.tmp 45, .tmp 47], op0 51 (.load true 7) [.tmp 50], ⟨some 4, .alloc 46 (.pair (.int .i64 0) (.pair (.int .i64 0) (.pair (.int .i64 0) (.pair (.int .i64 0) (.pair (.int .i64 0) (.pair (.nil 3 (.int .i64)) (.pure (.pair (.int .i64) .unit) (0, ())))))))), [], none, 0, []⟩, op0 3 .mov [.tmp 49], ⟨none, .store 7, [.tmp 4, .tmp 51], none, 0, []⟩]) (.seq (.region true 1 [ op0 52 (.fieldAddr 0 0) [.tmp 1], ⟨some 53, .load false 1, [.tmp 52], none, 0, [0]⟩, op0 54 .mov [.tmp 3], ⟨some 55, .idxSl 8, [.tmp 53, .tmp 54], none, 0, [1, 0, 2]⟩, ⟨some 56, .load true 8, [.tmp 55], none, 0, [3, 1, 0, 2]⟩, op0 57 (.load true 7) [.tmp 4], op0 58 (.fieldAddr 2 2) [.tmp 1], ⟨some 59, .load false 1, [.tmp 58], none, 0, [6]⟩, ⟨some 60, .callS 32, [.tmp 56, .tmp 57, .tmp 59], none, 0, [4, 3, 1, 0, 2, 5, 7, 6]⟩, ⟨some 61, .not, [.tmp 60], none, 1, [8, 4, 3, 1, 0, 2, 5, 7, 6]⟩]) (.cond (.tmp 61) (.seq (.region false 0 [ op0 2 .mov [.cst (.bool false)]]) (.cut [2] (.ret))) (.skip))))) (.region false 0 [ op0 62 (.bin .add) [.tmp 47, .cst (.int .i64 1)], op0 47 .mov [.tmp 62]]))))
def ir15_v1 : List Nat := [1, 45, 46, 47]
def ir15_b0 : IC := (.seq (.seq (.region false 0 [ op0 44 (.fieldAddr 1 1) [.tmp 1], op0 45 (.load false 1) [.tmp 44], op0 46 .len [.tmp 45], op0 47 .mov [.cst (.int .i64 0)]]) (.block 0 (.loop ir15_v1 ir15_b1))) (.seq (.region false 0 [ op0 2 .mov [.cst (.bool true)]]) (.cut [2] (.ret))))
def ir15_v0 : List Nat := [1]
def ir15_bt0 {R : Type} (o1 : St → (Ex → St → Option R) → Option R) : LT R := (.node (.node .nil (.node (.orc o1) .nil)) .nil)
def ir15_t {R : Type} (o0 : St → (Ex → St → Option R) → Option R) : LT R := (.node .nil (.node .nil (.orc o0)))
def ir15 : IFn := { ntmps := 63, results := [.inl 2], body := (.seq (.region false 1 [ op0 1 (.box 29) [.tmp 0], op0 2 .mov [.cst (.bool false)]]) (.seq (.seq (.region false 2 [ op0 5 (.fieldAddr 0 0) [.tmp 1], op0 6 (.load false 1) [.tmp 5], op0 7 .len [.tmp 6], op0 8 (.bin .gtr) [.tmp 7, .cst (.int .i64 64)], op0 9 .mov [.tmp 8], ⟨some 10, .fieldAddr 0 0, [.tmp 1], some (9, false), 0, []⟩, ⟨some 11, .load false 1, [.tmp 10], some (9, false), 0, []⟩, ⟨some 12, .call 27, [.tmp 11, .cst (.clo 28 (.pure .unit ()))], some (9, false), 0, []⟩, op0 13 .pick [.tmp 9, .cst (.bool true), .tmp 12], op0 14 .mov [.tmp 13], ⟨some 15, .fieldAddr 0 0, [.tmp 1], some (14, false), 0, []⟩, ⟨some 16, .load false 1, [.tmp 15], some (14, false), 0, []⟩, ⟨some 17, .callS 29, [.tmp 16], some (14, false), 0, []⟩, ⟨some 18, .not, [.tmp 17], some (14, false), 0, []⟩, op0 19 .pick [.tmp 14, .cst (.bool true), .tmp 18], op0 20 .mov [.tmp 19], ⟨some 21, .fieldAddr 1 1, [.tmp 1], some (20, false), 0, []⟩, ⟨some 22, .load false 1, [.tmp 21], some (20, false), 0, []⟩, ⟨some 23, .len, [.tmp 22], some (20, false), 0, []⟩, ⟨some 24, .fieldAddr 0 0, [.tmp 1], some (20, false), 0, []⟩, ⟨some 25, .load false 1, [.tmp 24], some (20, false), 0, []⟩, ⟨some 26, .len, [.tmp 25], some (20, false), 0, []⟩, ⟨some 27, .bin .neq, [.tmp 23, .tmp 26], some (20, false), 0, []⟩, op0 28 .pick [.tmp 20, .cst (.bool true), .tmp 27], op0 29 .mov [.tmp 28], ⟨some 30, .fieldAddr 2 2, [.tmp 1], some (29, false), 0, []⟩, ⟨some 31, .load false 1, [.tmp 30], some (29, false), 0, []⟩, ⟨some 32, .callS 25, [.tmp 31, .cst (.int .i64 0), .cst (.int .i64 1073741824)], some (29, false), 0, []⟩, ⟨some 33, .not, [.tmp 32], some (29, false), 0, []⟩, op0 34 .pick [.tmp 29, .cst (.bool true), .tmp 33], op0 35 .mov [.tmp 34], ⟨some 36, .fieldAddr 3 3, [.tmp 1], some (35, false), 0, []⟩, ⟨some 37, .load false 1, [.tmp 36], some (35, false), 0, []⟩, ⟨some 38, .mov, [.tmp 37], some (35, false), 0, []⟩, ⟨some 39, .fieldAddr 2 2, [.tmp 1], some (38, true), 0, []⟩, ⟨some 40, .load false 1, [.tmp 39], some (38, true), 0, []⟩, ⟨some 41, .bin .lss, [.tmp 40, .cst (.int .i64 1)], some (38, true), 0, []⟩, ⟨some 42, .pick, [.tmp 38, .tmp 41, .cst (.bool false)], some (35, false), 0, []⟩, op0 43 .pick [.tmp 35, .cst (.bool true), .tmp 42]]) (.cond (.tmp 43) (.seq (.region false 0 [ op0 2 .mov [.cst (.bool false)]]) (.cut [2] (.ret))) (.skip))) (.cut ir15_v0 ir15_b0))) }
theorem ir15_bt0ok {R : Type} {summ : Nat → Option Summ} {fu : Nat} {call : Nat → List CV → List Blk → (CV → List Blk → Option R) → Option R} {o1 : St → (Ex → St → Option R) → Option R} (h1 : ∀ T k r, o1 T k = some r → evLoopN (evCode summ fu call ir15_b1) (St.norm ir15_v1) fu T k = some r) : LTok summ fu call (ir15_bt0 o1) ir15_b0 := ⟨⟨trivial, h1⟩, trivial⟩
theorem ir15_tok {R : Type} {summ : Nat → Option Summ} {fu : Nat} {call : Nat → List CV → List Blk → (CV → List Blk → Option R) → Option R} {o0 : St → (Ex → St → Option R) → Option R} (h0 : ∀ T k r, o0 T k = some r → evCode summ fu call ir15_b0 T k = some r) : LTok summ fu call (ir15_t o0) ir15.body := ⟨trivial, ⟨trivial, h0⟩⟩


def ir16_b1 : IC := (.seq (.region false 0 [ op0 25 (.bin .lss) [.tmp 24, .tmp 23]]) (.seq (.cond (.tmp 25) (.skip) (.cut [] (.exit 0))) (.seq (.block 1 (.seq (.region false 1 [ op0 26 (.idxSl 7) [.tmp 22, .tmp 24], op0 27 (.load true 7) [.tmp 26], ⟨some 4, .alloc 46 (.pair (.int .i64 0) (.pair (.int .i64 0) (.pair (.int .i64 0) (.pair (.int .i64 0) (.pair (.int .i64 0) (.pair (.nil 3 (.int .i64)) (.pure (.pair (.int .i64) .unit) (0, ())))))))), [], none, 0, []⟩, ⟨none, .store 7, [.tmp 4, .tmp 27], none, 0, []⟩]) (.seq (.region false 0 [ op0 28 (.fieldAddr 5 5) [.tmp 4], op0 29 (.load false 1) [.tmp 28], op0 30 .len [.tmp 29], op0 31 (.bin .gtr) [.tmp 30, .cst (.int .i64 20)]]) (.cond (.tmp 31) (.seq (.region false 0 [ op0 2 .mov [.cst (.bool true)]]) (.cut [2] (.ret))) (.skip))))) (.region false 0 [ op0 32 (.bin .add) [.tmp 24, .cst (.int .i64 1)], op0 24 .mov [.tmp 32]]))))
def ir16_v1 : List Nat := [22, 23, 24]
def ir16_b0 : IC := (.seq (.seq (.region false 0 [ op0 21 (.fieldAddr 1 1) [.tmp 1], op0 22 (.load false 1) [.tmp 21], op0 23 .len [.tmp 22], op0 24 .mov [.cst (.int .i64 0)]]) (.block 0 (.loop ir16_v1 ir16_b1))) (.seq (.region false 0 [ op0 2 .mov [.cst (.bool false)]]) (.cut [2] (.ret))))
def ir16_v0 : List Nat := [1]
def ir16_bt0 {R : Type} (o1 : St → (Ex → St → Option R) → Option R) : LT R := (.node (.node .nil (.node (.orc o1) .nil)) .nil)
def ir16_t {R : Type} (o0 : St → (Ex → St → Option R) → Option R) : LT R := (.node .nil (.node .nil (.orc o0)))
def ir16 : IFn := { ntmps := 33, results := [.inl 2], body := (.seq (.region false 1 [ op0 1 (.box 29) [.tmp 0], op0 2 .mov [.cst (.bool false)]]) (.seq (.seq (.region false 0 [ op0 5 (.fieldAddr 0 0) [.tmp 1], op0 6 (.load false 1) [.tmp 5], op0 7 .len [.tmp 6], op0 8 (.bin .gtr) [.tmp 7, .cst (.int .i64 12)], op0 9 .mov [.tmp 8], ⟨some 10, .fieldAddr 0 0, [.tmp 1], some (9, true), 0, []⟩, ⟨some 11, .load false 1, [.tmp 10], some (9, true), 0, []⟩, ⟨some 12, .len, [.tmp 11], some (9, true), 0, []⟩, ⟨some 13, .bin .leq, [.tmp 12, .cst (.int .i64 64)], some (9, true), 0, []⟩, op0 14 .pick [.tmp 9, .tmp 13, .cst (.bool false)], op0 15 .mov [.tmp 14], ⟨some 16, .fieldAddr 1 1, [.tmp 1], some (15, false), 0, []⟩, ⟨some 17, .load false 1, [.tmp 16], some (15, false), 0, []⟩, ⟨some 18, .len, [.tmp 17], some (15, false), 0, []⟩, ⟨some 19, .bin .gtr, [.tmp 18, .cst (.int .i64 80)], some (15, false), 0, []⟩, op0 20 .pick [.tmp 15, .cst (.bool true), .tmp 19]]) (.cond (.tmp 20) (.seq (.region false 0 [ op0 2 .mov [.cst (.bool true)]]) (.cut [2] (.ret))) (.skip))) (.cut ir16_v0 ir16_b0))) }
theorem ir16_bt0ok {R : Type} {summ : Nat → Option Summ} {fu : Nat} {call : Nat → List CV → List Blk → (CV → List Blk → Option R) → Option R} {o1 : St → (Ex → St → Option R) → Option R} (h1 : ∀ T k r, o1 T k = some r → evLoopN (evCode summ fu call ir16_b1) (St.norm ir16_v1) fu T k = some r) : LTok summ fu call (ir16_bt0 o1) ir16_b0 := ⟨⟨trivial, h1⟩, trivial⟩
theorem ir16_tok {R : Type} {summ : Nat → Option Summ} {fu : Nat} {call : Nat → List CV → List Blk → (CV → List Blk → Option R) → Option R} {o0 : St → (Ex → St → Option R) → Option R} (h0 : ∀ T k r, o0 T k = some r → evCode summ fu call ir16_b0 T k = some r) : LTok summ fu call (ir16_t o0) ir16.body := ⟨trivial, ⟨trivial, h0⟩⟩


def ir17_b1 : IC := (.seq (.region false 0 [ op0 55 (.fieldAddr 3 3) [.tmp 2], op0 56 (.load false 1) [.tmp 55], op0 54 .mov [.tmp 56]]) (.cond (.tmp 54) (.region false 1 [ op0 58 (.load true 4) [.tmp 2], op0 59 (.callS 33) [.tmp 58], op0 57 .mov [.tmp 59], op0 60 (.extract 0) [.tmp 57], op0 61 (.extract 1) [.tmp 57], ⟨none, .store 4, [.tmp 8, .tmp 60], none, 0, []⟩, op0 9 .mov [.tmp 61]]) (.region false 1 [ op0 23 (.load true 4) [.tmp 2], op0 24 (.callS 19) [.tmp 23], op0 22 .mov [.tmp 24], op0 25 (.extract 0) [.tmp 22], op0 26 (.extract 1) [.tmp 22], ⟨none, .store 4, [.tmp 8, .tmp 25], none, 0, []⟩, op0 9 .mov [.tmp 26]])))
def ir17_v1 : List Nat := [2, 5, 8, 13, 14, 15]
def ir17_b0 : IC := (.seq (.region false 0 [ op0 16 (.bin .lss) [.tmp 15, .tmp 14]]) (.seq (.cond (.tmp 16) (.skip) (.cut [5] (.exit 0))) (.seq (.block 1 (.seq (.region false 1 [ op0 17 (.idxSl 2) [.tmp 13, .tmp 15], op0 18 (.load true 2) [.tmp 17], ⟨some 7, .alloc 62 (.pure (.pair (.int .i8) (.pair .bool .unit)) (0, (false, ()))), [], none, 0, []⟩, ⟨none, .store 2, [.tmp 7, .tmp 18], none, 0, []⟩]) (.seq (.region false 1 [ ⟨some 8, .alloc 29 (.pair (.nil 23 Zi0) (.pair (.nil 46 Zi1) (.pure Zi3 (0, (false, ()))))), [], none, 0, []⟩]) (.seq (.region false 0 [ op0 9 .mov [.cst (.int .i64 0)]]) (.seq (.region false 0 [ op0 19 (.fieldAddr 0 0) [.tmp 7], op0 20 (.load false 1) [.tmp 19], op0 21 (.conv .i64) [.tmp 20], op0 10 .mov [.tmp 21]]) (.seq (.block 2 (.seq (.region false 0 [ op0 28 .mov [.tmp 10], op0 29 (.bin .geq) [.tmp 28, .cst (.int .i64 0)], op0 30 .mov [.tmp 29], ⟨some 31, .mov, [.tmp 10], some (30, true), 0, []⟩, ⟨some 32, .fieldAddr 0 0, [.tmp 2], some (30, true), 0, []⟩, ⟨some 33, .load false 1, [.tmp 32], some (30, true), 0, []⟩, ⟨some 34, .len, [.tmp 33], some (30, true), 0, []⟩, ⟨some 35, .bin .lss, [.tmp 31, .tmp 34], some (30, true), 0, []⟩, op0 36 .pick [.tmp 30, .tmp 35, .cst (.bool false)], op0 27 .mov [.tmp 36]]) (.cond (.tmp 27) (.region true 2 [ op0 38 (.load true 4) [.tmp 2], op0 39 .mov [.tmp 10], op0 40 (.fieldAddr 1 1) [.tmp 7], ⟨some 41, .load false 1, [.tmp 40], none, 0, [2]⟩, op0 42 (.fieldAddr 0 0) [.tmp 2], ⟨some 43, .load false 1, [.tmp 42], none, 0, [4]⟩, op0 44 .mov [.tmp 10], ⟨some 45, .idxSl 8, [.tmp 43, .tmp 44], none, 0, [5, 4, 6]⟩, ⟨some 46, .fieldAddr 7 7, [.tmp 45], none, 0, [7, 5, 4, 6]⟩, ⟨some 47, .load false 1, [.tmp 46], none, 0, [8, 7, 5, 4, 6]⟩, ⟨some 48, .min, [.tmp 47, .cst (.int .i64 8)], none, 0, [9, 8, 7, 5, 4, 6]⟩, ⟨some 49, .max, [.cst (.int .i64 0), .tmp 48], none, 0, [10, 9, 8, 7, 5, 4, 6]⟩, ⟨some 50, .mkSlice 3 (.int .i64) 8, [.tmp 49, .tmp 49], none, 0, [11, 10, 9, 8, 7, 5, 4, 6]⟩, ⟨some 51, .callS 20, [.tmp 38, .tmp 39, .tmp 41, .tmp 50], none, 1, [0, 1, 3, 2, 12, 11, 10, 9, 8, 7, 5, 4, 6]⟩, ⟨some 37, .mov, [.tmp 51], none, 2, [13, 0, 1, 3, 2, 12, 11, 10, 9, 8, 7, 5, 4, 6]⟩, ⟨some 52, .extract 0, [.tmp 37], none, 2, [14, 13, 0, 1, 3, 2, 12, 11, 10, 9, 8, 7, 5, 4, 6]⟩, ⟨some 53, .extract 1, [.tmp 37], none, 2, [14, 13, 0, 1, 3, 2, 12, 11, 10, 9, 8, 7, 5, 4, 6]⟩, ⟨none, .store 4, [.tmp 8, .tmp 52], none, 2, [15, 14, 13, 0, 1, 3, 2, 12, 11, 10, 9, 8, 7, 5, 4, 6]⟩, ⟨some 9, .mov, [.tmp 53], none, 2, [16, 14, 13, 0, 1, 3, 2, 12, 11, 10, 9, 8, 7, 5, 4, 6, 17, 15]⟩]) (.cut ir17_v1 ir17_b1)))) (.seq (.region false 0 [ op0 62 .mov [.tmp 9], op0 63 (.bin .eql) [.tmp 62, .cst (.int .i64 0)]]) (.cond (.tmp 63) (.seq (.region false 0 [ op0 64 (.load true 4) [.tmp 8], ⟨none, .store 4, [.tmp 2, .tmp 64], none, 0, []⟩]) (.region false 2 [ op0 65 .mov [.tmp 5], op0 66 (.load true 4) [.tmp 2], op0 67 (.buildSl 29 Zi2 1) [.tmp 66], op0 68 (.append 29 Zi2 64) [.tmp 65, .tmp 67], op0 5 .mov [.tmp 68]])) (.skip))))))))) (.region false 0 [ op0 69 (.bin .add) [.tmp 15, .cst (.int .i64 1)], op0 15 .mov [.tmp 69]]))))
def ir17_v0 : List Nat := [2, 5, 13, 14, 15]
def ir17_bt0 {R : Type} (o1 : St → (Ex → St → Option R) → Option R) : LT R := (.node .nil (.node .nil (.node (.node (.node .nil (.node .nil (.node .nil (.node .nil (.node (.node (.node .nil (.node .nil (.orc o1))) .nil) .nil))))) .nil) .nil)))
def ir17_t {R : Type} (o0 : St → (Ex → St → Option R) → Option R) : LT R := (.node .nil (.node .nil (.node (.node .nil (.node (.orc o0) .nil)) .nil)))
def ir17 : IFn := { ntmps := 71, results := [.inl 4], body := (.seq (.region false 1 [ op0 2 (.box 29) [.tmp 0], op0 4 .mov [.cst (.nil 29 Zi2)]]) (.seq (.region false 1 [ op0 11 (.load true 4) [.tmp 2], op0 12 (.buildSl 29 Zi2 1) [.tmp 11], op0 5 .mov [.tmp 12]]) (.seq (.seq (.region false 0 [ op0 13 .mov [.tmp 1], op0 14 .len [.tmp 13], op0 15 .mov [.cst (.int .i64 0)]]) (.block 0 (.loop ir17_v0 ir17_b0))) (.seq (.region false 0 [ op0 70 .mov [.tmp 5], op0 4 .mov [.tmp 70]]) (.cut [4] (.ret)))))) }
theorem ir17_bt0ok {R : Type} {summ : Nat → Option Summ} {fu : Nat} {call : Nat → List CV → List Blk → (CV → List Blk → Option R) → Option R} {o1 : St → (Ex → St → Option R) → Option R} (h1 : ∀ T k r, o1 T k = some r → evCode summ fu call ir17_b1 T k = some r) : LTok summ fu call (ir17_bt0 o1) ir17_b0 := ⟨trivial, ⟨trivial, ⟨⟨trivial, ⟨trivial, ⟨trivial, ⟨trivial, ⟨⟨trivial, ⟨trivial, h1⟩⟩, trivial⟩⟩⟩⟩⟩, trivial⟩⟩⟩
theorem ir17_tok {R : Type} {summ : Nat → Option Summ} {fu : Nat} {call : Nat → List CV → List Blk → (CV → List Blk → Option R) → Option R} {o0 : St → (Ex → St → Option R) → Option R} (h0 : ∀ T k r, o0 T k = some r → evLoopN (evCode summ fu call ir17_b0) (St.norm ir17_v0) fu T k = some r) : LTok summ fu call (ir17_t o0) ir17.body := ⟨trivial, ⟨trivial, ⟨⟨trivial, h0⟩, trivial⟩⟩⟩


def ir18_b1 : IC := (.seq (.seq (.region false 0 [ op0 32 .mov [.tmp 3], op0 33 (.fieldAddr 1 1) [.tmp 1], op0 34 (.load false 1) [.tmp 33], op0 35 .len [.tmp 34], op0 36 (.bin .lss) [.tmp 32, .tmp 35]]) (.cond (.tmp 36) (.skip) (.cut [] (.exit 0)))) (.seq (.block 1 (.seq (.region true 1 [ op0 39 (.fieldAddr 0 0) [.tmp 1], ⟨some 40, .load false 1, [.tmp 39], none, 0, [0]⟩, op0 41 .mov [.tmp 3], ⟨some 42, .idxSl 8, [.tmp 40, .tmp 41], none, 0, [1, 0, 2]⟩, ⟨some 43, .load true 8, [.tmp 42], none, 0, [3, 1, 0, 2]⟩, op0 44 (.fieldAddr 1 1) [.tmp 1], ⟨some 45, .load false 1, [.tmp 44], none, 0, [5]⟩, op0 46 .mov [.tmp 3], ⟨some 47, .idxSl 7, [.tmp 45, .tmp 46], none, 0, [6, 5, 7]⟩, ⟨some 48, .load true 7, [.tmp 47], none, 0, [8, 6, 5, 7]⟩, op0 49 (.fieldAddr 2 2) [.tmp 1], ⟨some 50, .load false 1, [.tmp 49], none, 0, [10]⟩, ⟨some 51, .callS 34, [.tmp 43, .tmp 48, .tmp 50], none, 0, [4, 3, 1, 0, 2, 9, 8, 6, 5, 7, 11, 10]⟩, ⟨some 52, .not, [.tmp 51], none, 1, [12, 4, 3, 1, 0, 2, 9, 8, 6, 5, 7, 11, 10]⟩]) (.cond (.tmp 52) (.seq (.region false 0 [ op0 2 .mov [.cst (.bool false)]]) (.cut [2] (.ret))) (.skip)))) (.region false 0 [ op0 37 .mov [.tmp 3], op0 38 (.bin .add) [.tmp 37, .cst (.int .i64 1)], op0 3 .mov [.tmp 38]])))
def ir18_v1 : List Nat := [1, 3]
def ir18_b0 : IC := (.seq (.seq (.region false 0 [ op0 3 .mov [.cst (.int .i64 0)]]) (.block 0 (.loop ir18_v1 ir18_b1))) (.seq (.region false 0 [ op0 2 .mov [.cst (.bool true)]]) (.cut [2] (.ret))))
def ir18_v0 : List Nat := [1]
def ir18_bt0 {R : Type} (o1 : St → (Ex → St → Option R) → Option R) : LT R := (.node (.node .nil (.node (.orc o1) .nil)) .nil)
def ir18_t {R : Type} (o0 : St → (Ex → St → Option R) → Option R) : LT R := (.node .nil (.node .nil (.orc o0)))
def ir18 : IFn := { ntmps := 53, results := [.inl 2], body := (.seq (.region false 1 [ op0 1 (.box 29) [.tmp 0], op0 2 .mov [.cst (.bool false)]]) (.seq (.seq (.region false 2 [ op0 4 (.fieldAddr 0 0) [.tmp 1], op0 5 (.load false 1) [.tmp 4], op0 6 (.callS 12) [.tmp 5], op0 7 (.bin .neq) [.tmp 6, .cst (.int .i64 0)], op0 8 .mov [.tmp 7], ⟨some 9, .fieldAddr 1 1, [.tmp 1], some (8, false), 0, []⟩, ⟨some 10, .load false 1, [.tmp 9], some (8, false), 0, []⟩, ⟨some 11, .len, [.tmp 10], some (8, false), 0, []⟩, ⟨some 12, .fieldAddr 0 0, [.tmp 1], some (8, false), 0, []⟩, ⟨some 13, .load false 1, [.tmp 12], some (8, false), 0, []⟩, ⟨some 14, .len, [.tmp 13], some (8, false), 0, []⟩, ⟨some 15, .bin .neq, [.tmp 11, .tmp 14], some (8, false), 0, []⟩, op0 16 .pick [.tmp 8, .cst (.bool true), .tmp 15], op0 17 .mov [.tmp 16], ⟨some 18, .fieldAddr 2 2, [.tmp 1], some (17, false), 0, []⟩, ⟨some 19, .load false 1, [.tmp 18], some (17, false), 0, []⟩, ⟨some 20, .callS 26, [.tmp 19, .cst (.int .i64 0), .cst (.int .i64 1073741824)], some (17, false), 0, []⟩, ⟨some 21, .not, [.tmp 20], some (17, false), 0, []⟩, op0 22 .pick [.tmp 17, .cst (.bool true), .tmp 21], op0 23 .mov [.tmp 22], ⟨some 24, .fieldAddr 3 3, [.tmp 1], some (23, false), 0, []⟩, ⟨some 25, .load false 1, [.tmp 24], some (23, false), 0, []⟩, ⟨some 26, .mov, [.tmp 25], some (23, false), 0, []⟩, ⟨some 27, .fieldAddr 2 2, [.tmp 1], some (26, true), 0, []⟩, ⟨some 28, .load false 1, [.tmp 27], some (26, true), 0, []⟩, ⟨some 29, .bin .lss, [.tmp 28, .cst (.int .i64 1)], some (26, true), 0, []⟩, ⟨some 30, .pick, [.tmp 26, .tmp 29, .cst (.bool false)], some (23, false), 0, []⟩, op0 31 .pick [.tmp 23, .cst (.bool true), .tmp 30]]) (.cond (.tmp 31) (.seq (.region false 0 [ op0 2 .mov [.cst (.bool false)]]) (.cut [2] (.ret))) (.skip))) (.cut ir18_v0 ir18_b0))) }
theorem ir18_bt0ok {R : Type} {summ : Nat → Option Summ} {fu : Nat} {call : Nat → List CV → List Blk → (CV → List Blk → Option R) → Option R} {o1 : St → (Ex → St → Option R) → Option R} (h1 : ∀ T k r, o1 T k = some r → evLoopN (evCode summ fu call ir18_b1) (St.norm ir18_v1) fu T k = some r) : LTok summ fu call (ir18_bt0 o1) ir18_b0 := ⟨⟨trivial, h1⟩, trivial⟩
theorem ir18_tok {R : Type} {summ : Nat → Option Summ} {fu : Nat} {call : Nat → List CV → List Blk → (CV → List Blk → Option R) → Option R} {o0 : St → (Ex → St → Option R) → Option R} (h0 : ∀ T k r, o0 T k = some r → evCode summ fu call ir18_b0 T k = some r) : LTok summ fu call (ir18_t o0) ir18.body := ⟨trivial, ⟨trivial, h0⟩⟩


def ir19_b0 : IC := (.seq (.region false 0 [ op0 31 (.bin .lss) [.tmp 30, .tmp 29]]) (.seq (.cond (.tmp 31) (.skip) (.cut [1, 2] (.exit 1))) (.seq (.block 2 (.seq (.region false 0 [ op0 32 .mov [.tmp 30], op0 4 .mov [.tmp 32]]) (.seq (.region false 0 [ op0 33 (.fieldAddr 1 1) [.tmp 1], op0 34 (.load false 1) [.tmp 33], op0 35 .mov [.tmp 4], op0 36 (.idxSl 7) [.tmp 34, .tmp 35], op0 5 .mov [.tmp 36]]) (.seq (.region false 0 [ op0 37 .mov [.tmp 5], op0 38 .nilck [.tmp 37], op0 39 (.fieldAddr 1 1) [.tmp 38], ⟨none, .store 1, [.tmp 39, .cst (.int .i64 0)], none, 0, []⟩]) (.region false 0 [ op0 40 .mov [.tmp 5], op0 41 .nilck [.tmp 40], op0 42 (.fieldAddr 0 0) [.tmp 41], op0 43 (.load false 1) [.tmp 42], op0 44 (.bin .andNot) [.tmp 43, .cst (.int .i64 9)], op0 45 .nilck [.tmp 40], op0 46 (.fieldAddr 0 0) [.tmp 45], ⟨none, .store 1, [.tmp 46, .tmp 44], none, 0, []⟩]))))) (.region false 0 [ op0 47 (.bin .add) [.tmp 30, .cst (.int .i64 1)], op0 30 .mov [.tmp 47]]))))
def ir19_v0 : List Nat := [1, 2, 29, 30]
def ir19_t {R : Type} (o0 : St → (Ex → St → Option R) → Option R) : LT R := (.node .nil (.node .nil (.node .nil (.node .nil (.node .nil (.node (.node .nil (.node (.orc o0) .nil)) .nil))))))
def ir19 : IFn := { ntmps := 49, results := [.inr (2, true, 4), .inl 3], body := (.seq (.region false 2 [ op0 1 (.box 29) [.tmp 0], ⟨some 2, .alloc 29 (.pair (.nil 23 Zi0) (.pair (.nil 46 Zi1) (.pure Zi3 (0, (false, ()))))), [], none, 0, []⟩, op0 3 .mov [.cst (.int .i64 0)]]) (.seq (.block 0 (.seq (.region false 1 [ op0 7 (.load true 4) [.tmp 1], op0 8 (.callS 15) [.tmp 7], op0 9 .not [.tmp 8], op0 6 .mov [.tmp 9]]) (.cond (.tmp 6) (.seq (.region false 0 [ ⟨some 10, .build [((.nil 23 Zi0), 1), ((.nil 46 Zi1), 1), ((.int .i64 0), 1), ((.bool false), 1)] [], [], none, 0, []⟩, ⟨none, .store 4, [.tmp 2, .tmp 10], none, 0, []⟩, op0 3 .mov [.cst (.int .i64 1)]]) (.cut [2, 3] (.ret))) (.seq (.region false 0 [ op0 12 (.fieldAddr 3 3) [.tmp 1], op0 13 (.load false 1) [.tmp 12], op0 11 .mov [.tmp 13]]) (.cond (.tmp 11) (.seq (.region false 0 [ ⟨some 14, .build [((.nil 23 Zi0), 1), ((.nil 46 Zi1), 1), ((.int .i64 0), 1), ((.bool false), 1)] [], [], none, 0, []⟩, ⟨none, .store 4, [.tmp 2, .tmp 14], none, 0, []⟩, op0 3 .mov [.cst (.int .i64 6)]]) (.cut [2, 3] (.ret))) (.seq (.region false 0 [ op0 16 (.fieldAddr 2 2) [.tmp 1], op0 17 (.load false 1) [.tmp 16], op0 18 (.bin .eql) [.tmp 17, .cst (.int .i64 1073741824)], op0 15 .mov [.tmp 18]]) (.cond (.tmp 15) (.seq (.region false 0 [ ⟨some 19, .build [((.nil 23 Zi0), 1), ((.nil 46 Zi1), 1), ((.int .i64 0), 1), ((.bool false), 1)] [], [], none, 0, []⟩, ⟨none, .store 4, [.tmp 2, .tmp 19], none, 0, []⟩, op0 3 .mov [.cst (.int .i64 9)]]) (.cut [2, 3] (.ret))) (.skip)))))))) (.seq (.region false 0 [ op0 20 (.load true 4) [.tmp 1], op0 21 (.call 35) [.tmp 20], ⟨none, .store 4, [.tmp 1, .tmp 21], none, 0, []⟩]) (.seq (.region false 0 [ op0 22 (.fieldAddr 2 2) [.tmp 1], op0 23 (.load false 1) [.tmp 22], op0 24 (.bin .add) [.tmp 23, .cst (.int .i64 1)], op0 25 (.fieldAddr 2 2) [.tmp 1], ⟨none, .store 1, [.tmp 25, .tmp 24], none, 0, []⟩]) (.seq (.region false 0 [ op0 26 (.fieldAddr 3 3) [.tmp 1], ⟨none, .store 1, [.tmp 26, .cst (.bool true)], none, 0, []⟩]) (.seq (.seq (.region false 0 [ op0 27 (.fieldAddr 1 1) [.tmp 1], op0 28 (.load false 1) [.tmp 27], op0 29 .len [.tmp 28], op0 30 .mov [.cst (.int .i64 0)]]) (.block 1 (.loop ir19_v0 ir19_b0))) (.seq (.region false 0 [ op0 48 (.load true 4) [.tmp 1], ⟨none, .store 4, [.tmp 2, .tmp 48], none, 0, []⟩, op0 3 .mov [.cst (.int .i64 0)]]) (.cut [2, 3] (.ret))))))))) }
theorem ir19_tok {R : Type} {summ : Nat → Option Summ} {fu : Nat} {call : Nat → List CV → List Blk → (CV → List Blk → Option R) → Option R} {o0 : St → (Ex → St → Option R) → Option R} (h0 : ∀ T k r, o0 T k = some r → evLoopN (evCode summ fu call ir19_b0) (St.norm ir19_v0) fu T k = some r) : LTok summ fu call (ir19_t o0) ir19.body := ⟨trivial, ⟨trivial, ⟨trivial, ⟨trivial, ⟨trivial, ⟨⟨trivial, h0⟩, trivial⟩⟩⟩⟩⟩⟩


def ir20_b0 : IC := (.cond (.tmp 17) (.seq (.region false 0 [ ⟨some 27, .build [((.nil 23 Zi0), 1), ((.nil 46 Zi1), 1), ((.int .i64 0), 1), ((.bool false), 1)] [], [], none, 0, []⟩, ⟨none, .store 4, [.tmp 8, .tmp 27], none, 0, []⟩, op0 9 .mov [.cst (.int .i64 2)]]) (.cut [8, 9] (.ret))) (.seq (.region false 0 [ op0 29 (.fieldAddr 3 3) [.tmp 4], op0 30 (.load false 1) [.tmp 29], op0 31 .not [.tmp 30], op0 28 .mov [.tmp 31]]) (.cond (.tmp 28) (.seq (.region false 0 [ ⟨some 32, .build [((.nil 23 Zi0), 1), ((.nil 46 Zi1), 1), ((.int .i64 0), 1), ((.bool false), 1)] [], [], none, 0, []⟩, ⟨none, .store 4, [.tmp 8, .tmp 32], none, 0, []⟩, op0 9 .mov [.cst (.int .i64 6)]]) (.cut [8, 9] (.ret))) (.seq (.region false 1 [ op0 34 (.fieldAddr 0 0) [.tmp 4], op0 35 (.load false 1) [.tmp 34], op0 36 .mov [.tmp 1], op0 37 (.idxSl 8) [.tmp 35, .tmp 36], op0 38 (.load true 8) [.tmp 37], op0 39 .mov [.tmp 3], op0 40 (.callS 36) [.tmp 38, .tmp 39], op0 41 .not [.tmp 40], op0 33 .mov [.tmp 41]]) (.cond (.tmp 33) (.seq (.region false 0 [ ⟨some 42, .build [((.nil 23 Zi0), 1), ((.nil 46 Zi1), 1), ((.int .i64 0), 1), ((.bool false), 1)] [], [], none, 0, []⟩, ⟨none, .store 4, [.tmp 8, .tmp 42], none, 0, []⟩, op0 9 .mov [.cst (.int .i64 1)]]) (.cut [8, 9] (.ret))) (.skip))))))
def ir20_v0 : List Nat := [1, 2, 3, 4, 8, 17]
def ir20_b4 : IC := (.region false 0 [ op0 106 .mov [.tmp 10], op0 107 .nilck [.tmp 106], op0 108 (.fieldAddr 0 0) [.tmp 107], op0 109 (.load false 1) [.tmp 108], op0 110 (.bin .andNot) [.tmp 109, .cst (.int .i64 1)], op0 111 .nilck [.tmp 106], op0 112 (.fieldAddr 0 0) [.tmp 111], ⟨none, .store 1, [.tmp 112, .tmp 110], none, 0, []⟩])
def ir20_v4 : List Nat := [4, 8, 10]
def ir20_b3 : IC := (.seq (.seq (.region false 0 [ op0 80 .mov [.tmp 10], op0 81 .nilck [.tmp 80], op0 82 (.fieldAddr 1 1) [.tmp 81], op0 83 (.load false 1) [.tmp 82]]) (.block 1 (.seq (.region false 0 [ op0 85 (.fieldAddr 1 1) [.tmp 11], op0 86 (.load false 1) [.tmp 85], op0 87 (.bin .eql) [.tmp 83, .tmp 86], op0 84 .mov [.tmp 87]]) (.cond (.tmp 84) (.region false 0 [ op0 88 .mov [.tmp 10], op0 89 (.load true 8) [.tmp 11], op0 90 (.fieldAddr 2 2) [.tmp 4], op0 91 (.load false 1) [.tmp 90], op0 92 .mov [.tmp 3], op0 93 (.call 37) [.tmp 88, .tmp 89, .tmp 91, .tmp 92]]) (.seq (.region false 0 [ op0 95 (.fieldAddr 2 2) [.tmp 11], op0 96 (.load false 1) [.tmp 95], op0 97 .neg [.tmp 96], op0 98 (.bin .eql) [.tmp 83, .tmp 97], op0 94 .mov [.tmp 98]]) (.cond (.tmp 94) (.seq (.region false 0 [ op0 99 .mov [.tmp 10], op0 100 .nilck [.tmp 99], op0 101 (.fieldAddr 0 0) [.tmp 100], op0 102 (.load false 1) [.tmp 101], op0 103 (.bin .or) [.tmp 102, .cst (.int .i64 8)], op0 104 .nilck [.tmp 99], op0 105 (.fieldAddr 0 0) [.tmp 104], ⟨none, .store 1, [.tmp 105, .tmp 103], none, 0, []⟩]) (.cut ir20_v4 ir20_b4)) (.skip))))))) (.seq (.region false 0 [ op0 113 (.load true 4) [.tmp 4], ⟨none, .store 4, [.tmp 8, .tmp 113], none, 0, []⟩, op0 9 .mov [.cst (.int .i64 0)]]) (.cut [8, 9] (.ret))))
def ir20_v3 : List Nat := [3, 4, 8, 10, 11]
def ir20_bt3 {R : Type} (o4 : St → (Ex → St → Option R) → Option R) : LT R := (.node (.node .nil (.node (.node .nil (.node .nil (.node .nil (.node (.node .nil (.orc o4)) .nil)))) .nil)) .nil)
def ir20_b2 : IC := (.seq (.region true 1 [ op0 45 (.fieldAddr 1 1) [.tmp 4], ⟨some 46, .load false 1, [.tmp 45], none, 0, [0]⟩, op0 47 .mov [.tmp 1], ⟨some 48, .idxSl 7, [.tmp 46, .tmp 47], none, 0, [1, 0, 2]⟩, op0 49 (.fieldAddr 0 0) [.tmp 4], ⟨some 50, .load false 1, [.tmp 49], none, 0, [4]⟩, op0 51 .mov [.tmp 1], ⟨some 52, .idxSl 8, [.tmp 50, .tmp 51], none, 0, [5, 4, 6]⟩, ⟨some 53, .load true 8, [.tmp 52], none, 0, [7, 5, 4, 6]⟩, ⟨some 11, .alloc 23 (.pure Zi0 (0, (0, (0, (0, (0, (0, (false, (0, ()))))))))), [], none, 0, []⟩, ⟨some 10, .mov, [.tmp 48], none, 1, [3, 1, 0, 2, 9]⟩, ⟨none, .store 8, [.tmp 11, .tmp 53], none, 1, [9, 8, 7, 5, 4, 6, 10, 3, 1, 0, 2]⟩]) (.seq (.seq (.region false 0 [ op0 54 .mov [.tmp 2]]) (.cond (.tmp 54) (.region true 0 [ op0 55 .mov [.tmp 10], op0 56 (.fieldAddr 1 1) [.tmp 11], ⟨some 57, .load false 1, [.tmp 56], none, 0, [1]⟩, op0 58 .mov [.tmp 10], ⟨some 59, .nilck, [.tmp 58], none, 0, [3]⟩, ⟨some 60, .fieldAddr 1 1, [.tmp 59], none, 0, [4, 3]⟩, ⟨some 61, .load false 1, [.tmp 60], none, 0, [5, 4, 3]⟩, ⟨some 62, .max, [.tmp 61, .cst (.int .i64 0)], none, 0, [6, 5, 4, 3]⟩, ⟨some 63, .bin .add, [.tmp 62, .cst (.int .i64 1)], none, 0, [7, 6, 5, 4, 3]⟩, ⟨some 64, .min, [.tmp 57, .tmp 63], none, 0, [2, 1, 8, 7, 6, 5, 4, 3]⟩, ⟨some 65, .nilck, [.tmp 55], none, 0, [0, 1, 2, 3, 4, 5, 6, 7, 8, 9]⟩, ⟨some 66, .fieldAddr 1 1, [.tmp 65], none, 0, [10, 0, 1, 2, 3, 4, 5, 6, 7, 8, 9]⟩, ⟨none, .store 1, [.tmp 66, .tmp 64], none, 0, [11, 10, 0, 1, 2, 3, 4, 5, 6, 7, 8, 9]⟩]) (.region true 0 [ op0 67 .mov [.tmp 10], op0 68 (.fieldAddr 2 2) [.tmp 11], ⟨some 69, .load false 1, [.tmp 68], none, 0, [1]⟩, ⟨some 70, .neg, [.tmp 69], none, 0, [2, 1]⟩, op0 71 .mov [.tmp 10], ⟨some 72, .nilck, [.tmp 71], none, 0, [4]⟩, ⟨some 73, .fieldAddr 1 1, [.tmp 72], none, 0, [5, 4]⟩, ⟨some 74, .load false 1, [.tmp 73], none, 0, [6, 5, 4]⟩, ⟨some 75, .min, [.tmp 74, .cst (.int .i64 0)], none, 0, [7, 6, 5, 4]⟩, ⟨some 76, .bin .sub, [.tmp 75, .cst (.int .i64 1)], none, 0, [8, 7, 6, 5, 4]⟩, ⟨some 77, .max, [.tmp 70, .tmp 76], none, 0, [3, 2, 1, 9, 8, 7, 6, 5, 4]⟩, ⟨some 78, .nilck, [.tmp 67], none, 0, [0, 1, 2, 3, 4, 5, 6, 7, 8, 9, 10]⟩, ⟨some 79, .fieldAddr 1 1, [.tmp 78], none, 0, [11, 0, 1, 2, 3, 4, 5, 6, 7, 8, 9, 10]⟩, ⟨none, .store 1, [.tmp 79, .tmp 77], none, 0, [12, 11, 0, 1, 2, 3, 4, 5, 6, 7, 8, 9, 10]⟩]))) (.cut ir20_v3 ir20_b3)))
def ir20_v2 : List Nat := [1, 2, 3, 4, 8]
def ir20_bt2 {R : Type} (o3 : St → (Ex → St → Option R) → Option R) : LT R := (.node .nil (.node .nil (.orc o3)))
def ir20_b1 : IC := (.seq (.region false 0 [ op0 43 (.load true 4) [.tmp 4], op0 44 (.call 35) [.tmp 43], ⟨none, .store 4, [.tmp 4, .tmp 44], none, 0, []⟩]) (.cut ir20_v2 ir20_b2))
def ir20_v1 : List Nat := [1, 2, 3, 4, 8]
def ir20_bt1 {R : Type} (o2 : St → (Ex → St → Option R) → Option R) : LT R := (.node .nil (.orc o2))
def ir20_t {R : Type} (o0 o1 : St → (Ex → St → Option R) → Option R) : LT R := (.node .nil (.node (.node (.node .nil (.node .nil (.node .nil (.orc o0)))) .nil) (.orc o1)))
def ir20 : IFn := { ntmps := 114, results := [.inr (8, true, 4), .inl 9], body := (.seq (.region false 2 [ op0 4 (.box 29) [.tmp 0], ⟨some 8, .alloc 29 (.pair (.nil 23 Zi0) (.pair (.nil 46 Zi1) (.pure Zi3 (0, (false, ()))))), [], none, 0, []⟩, op0 9 .mov [.cst (.int .i64 0)]]) (.seq (.block 0 (.seq (.region false 1 [ op0 13 (.load true 4) [.tmp 4], op0 14 (.callS 15) [.tmp 13], op0 15 .not [.tmp 14], op0 12 .mov [.tmp 15]]) (.cond (.tmp 12) (.seq (.region false 0 [ ⟨some 16, .build [((.nil 23 Zi0), 1), ((.nil 46 Zi1), 1), ((.int .i64 0), 1), ((.bool false), 1)] [], [], none, 0, []⟩, ⟨none, .store 4, [.tmp 8, .tmp 16], none, 0, []⟩, op0 9 .mov [.cst (.int .i64 1)]]) (.cut [8, 9] (.ret))) (.seq (.region false 0 [ op0 18 .mov [.tmp 1], op0 19 (.bin .lss) [.tmp 18, .cst (.int .i64 0)], op0 20 .mov [.tmp 19], ⟨some 21, .mov, [.tmp 1], some (20, false), 0, []⟩, ⟨some 22, .fieldAddr 1 1, [.tmp 4], some (20, false), 0, []⟩, ⟨some 23, .load false 1, [.tmp 22], some (20, false), 0, []⟩, ⟨some 24, .len, [.tmp 23], some (20, false), 0, []⟩, ⟨some 25, .bin .geq, [.tmp 21, .tmp 24], some (20, false), 0, []⟩, op0 26 .pick [.tmp 20, .cst (.bool true), .tmp 25], op0 17 .mov [.tmp 26]]) (.cut ir20_v0 ir20_b0))))) (.cut ir20_v1 ir20_b1))) }
theorem ir20_bt3ok {R : Type} {summ : Nat → Option Summ} {fu : Nat} {call : Nat → List CV → List Blk → (CV → List Blk → Option R) → Option R} {o4 : St → (Ex → St → Option R) → Option R} (h4 : ∀ T k r, o4 T k = some r → evCode summ fu call ir20_b4 T k = some r) : LTok summ fu call (ir20_bt3 o4) ir20_b3 := ⟨⟨trivial, ⟨trivial, ⟨trivial, ⟨trivial, ⟨⟨trivial, h4⟩, trivial⟩⟩⟩⟩⟩, trivial⟩
theorem ir20_bt2ok {R : Type} {summ : Nat → Option Summ} {fu : Nat} {call : Nat → List CV → List Blk → (CV → List Blk → Option R) → Option R} {o3 : St → (Ex → St → Option R) → Option R} (h3 : ∀ T k r, o3 T k = some r → evCode summ fu call ir20_b3 T k = some r) : LTok summ fu call (ir20_bt2 o3) ir20_b2 := ⟨trivial, ⟨trivial, h3⟩⟩
theorem ir20_bt1ok {R : Type} {summ : Nat → Option Summ} {fu : Nat} {call : Nat → List CV → List Blk → (CV → List Blk → Option R) → Option R} {o2 : St → (Ex → St → Option R) → Option R} (h2 : ∀ T k r, o2 T k = some r → evCode summ fu call ir20_b2 T k = some r) : LTok summ fu call (ir20_bt1 o2) ir20_b1 := ⟨trivial, h2⟩
theorem ir20_tok {R : Type} {summ : Nat → Option Summ} {fu : Nat} {call : Nat → List CV → List Blk → (CV → List Blk → Option R) → Option R} {o0 o1 : St → (Ex → St → Option R) → Option R} (h0 : ∀ T k r, o0 T k = some r → evCode summ fu call ir20_b0 T k = some r) (h1 : ∀ T k r, o1 T k = some r → evCode summ fu call ir20_b1 T k = some r) : LTok summ fu call (ir20_t o0 o1) ir20.body := ⟨trivial, ⟨⟨trivial, ⟨trivial, ⟨trivial, h0⟩⟩⟩, h1⟩⟩


def ir21_b0 : IC := (.seq (.region false 0 [ op0 29 (.bin .lss) [.tmp 28, .tmp 27]]) (.seq (.cond (.tmp 29) (.skip) (.cut [1, 3, 6] (.exit 0))) (.seq (.block 1 (.seq (.region false 0 [ op0 30 (.idxSl 1) [.tmp 26, .tmp 28], op0 31 (.load false 1) [.tmp 30], op0 10 .mov [.tmp 31]]) (.seq (.seq (.region false 0 [ op0 32 .mov [.tmp 1], op0 33 (.fieldAddr 0 0) [.tmp 3], op0 34 (.load false 1) [.tmp 33], op0 35 .len [.tmp 34], op0 36 (.bin .geq) [.tmp 32, .tmp 35]]) (.cond (.tmp 36) (.seq (.region false 0 [ op0 37 (.load true 4) [.tmp 3], ⟨none, .store 4, [.tmp 6, .tmp 37], none, 0, []⟩, op0 7 .mov [.cst (.bool false)]]) (.cut [6, 7] (.ret))) (.skip))) (.seq (.region true 2 [ op0 39 (.load true 4) [.tmp 3], op0 40 .mov [.tmp 1], op0 41 .mov [.tmp 10], op0 42 (.fieldAddr 0 0) [.tmp 3], ⟨some 43, .load false 1, [.tmp 42], none, 0, [3]⟩, op0 44 .mov [.tmp 1], ⟨some 45, .idxSl 8, [.tmp 43, .tmp 44], none, 0, [4, 3, 5]⟩, ⟨some 46, .fieldAddr 7 7, [.tmp 45], none, 0, [6, 4, 3, 5]⟩, ⟨some 47, .load false 1, [.tmp 46], none, 0, [7, 6, 4, 3, 5]⟩, ⟨some 48, .min, [.tmp 47, .cst (.int .i64 8)], none, 0, [8, 7, 6, 4, 3, 5]⟩, ⟨some 49, .max, [.cst (.int .i64 0), .tmp 48], none, 0, [9, 8, 7, 6, 4, 3, 5]⟩, ⟨some 50, .mkSlice 3 (.int .i64) 8, [.tmp 49, .tmp 49], none, 0, [10, 9, 8, 7, 6, 4, 3, 5]⟩, ⟨some 51, .callS 20, [.tmp 39, .tmp 40, .tmp 41, .tmp 50], none, 1, [0, 1, 2, 11, 10, 9, 8, 7, 6, 4, 3, 5]⟩, ⟨some 38, .mov, [.tmp 51], none, 2, [12, 0, 1, 2, 11, 10, 9, 8, 7, 6, 4, 3, 5]⟩, ⟨some 52, .extract 0, [.tmp 38], none, 2, [13, 12, 0, 1, 2, 11, 10, 9, 8, 7, 6, 4, 3, 5]⟩, ⟨some 53, .extract 1, [.tmp 38], none, 2, [13, 12, 0, 1, 2, 11, 10, 9, 8, 7, 6, 4, 3, 5]⟩, ⟨none, .store 4, [.tmp 3, .tmp 52], none, 2, [14, 13, 12, 0, 1, 2, 11, 10, 9, 8, 7, 6, 4, 3, 5]⟩, ⟨some 8, .mov, [.tmp 53], none, 2, [15, 13, 12, 0, 1, 2, 11, 10, 9, 8, 7, 6, 4, 3, 5, 16, 14]⟩]) (.seq (.region false 0 [ op0 54 .mov [.tmp 8], op0 55 (.bin .neq) [.tmp 54, .cst (.int .i64 0)]]) (.cond (.tmp 55) (.seq (.region false 0 [ op0 56 (.load true 4) [.tmp 3], ⟨none, .store 4, [.tmp 6, .tmp 56], none, 0, []⟩, op0 7 .mov [.cst (.bool false)]]) (.cut [6, 7] (.ret))) (.skip))))))) (.region false 0 [ op0 57 (.bin .add) [.tmp 28, .cst (.int .i64 1)], op0 28 .mov [.tmp 57]]))))
def ir21_v0 : List Nat := [1, 3, 6, 26, 27, 28]
def ir21_t {R : Type} (o0 : St → (Ex → St → Option R) → Option R) : LT R := (.node .nil (.node .nil (.node .nil (.node (.node .nil (.node (.orc o0) .nil)) .nil))))
def ir21 : IFn := { ntmps := 73, results := [.inr (6, true, 4), .inl 7], body := (.seq (.region false 2 [ op0 3 (.box 29) [.tmp 0], ⟨some 6, .alloc 29 (.pair (.nil 23 Zi0) (.pair (.nil 46 Zi1) (.pure Zi3 (0, (false, ()))))), [], none, 0, []⟩, op0 7 .mov [.cst (.bool false)]]) (.seq (.region false 1 [ op0 12 (.load true 4) [.tmp 3], op0 13 (.callS 19) [.tmp 12], op0 11 .mov [.tmp 13], op0 14 (.extract 0) [.tmp 11], op0 15 (.extract 1) [.tmp 11], ⟨none, .store 4, [.tmp 3, .tmp 14], none, 0, []⟩, op0 8 .mov [.tmp 15]]) (.seq (.seq (.region false 0 [ op0 16 .mov [.tmp 8], op0 17 (.bin .neq) [.tmp 16, .cst (.int .i64 0)], op0 18 .mov [.tmp 17], ⟨some 19, .mov, [.tmp 1], some (18, false), 0, []⟩, ⟨some 20, .fieldAddr 0 0, [.tmp 3], some (18, false), 0, []⟩, ⟨some 21, .load false 1, [.tmp 20], some (18, false), 0, []⟩, ⟨some 22, .len, [.tmp 21], some (18, false), 0, []⟩, ⟨some 23, .bin .geq, [.tmp 19, .tmp 22], some (18, false), 0, []⟩, op0 24 .pick [.tmp 18, .cst (.bool true), .tmp 23]]) (.cond (.tmp 24) (.seq (.region false 0 [ op0 25 (.load true 4) [.tmp 3], ⟨none, .store 4, [.tmp 6, .tmp 25], none, 0, []⟩, op0 7 .mov [.cst (.bool false)]]) (.cut [6, 7] (.ret))) (.skip))) (.seq (.seq (.region false 0 [ op0 26 .mov [.tmp 2], op0 27 .len [.tmp 26], op0 28 .mov [.cst (.int .i64 0)]]) (.block 0 (.loop ir21_v0 ir21_b0))) (.seq (.region false 1 [ op0 59 (.load true 4) [.tmp 3], op0 60 (.callS 33) [.tmp 59], op0 58 .mov [.tmp 60], op0 61 (.extract 0) [.tmp 58], op0 62 (.extract 1) [.tmp 58], ⟨none, .store 4, [.tmp 3, .tmp 61], none, 0, []⟩, op0 8 .mov [.tmp 62]]) (.seq (.region true 0 [ op0 63 (.load true 4) [.tmp 3], op0 64 .mov [.tmp 8], ⟨some 65, .bin .eql, [.tmp 64, .cst (.int .i64 0)], none, 0, [1]⟩, ⟨some 66, .mov, [.tmp 65], none, 0, [2, 1]⟩, ⟨some 67, .mov, [.tmp 1], some (66, true), 0, [3, 2, 1]⟩, ⟨some 68, .fieldAddr 1 1, [.tmp 3], some (66, true), 0, [3, 2, 1]⟩, ⟨some 69, .load false 1, [.tmp 68], some (66, true), 0, [5, 3, 2, 1]⟩, ⟨some 70, .len, [.tmp 69], some (66, true), 0, [6, 5, 3, 2, 1]⟩, ⟨some 71, .bin .lss, [.tmp 67, .tmp 70], some (66, true), 0, [4, 3, 2, 1, 7, 6, 5]⟩, ⟨some 72, .pick, [.tmp 66, .tmp 71, .cst (.bool false)], none, 0, [3, 2, 1, 8, 4, 7, 6, 5]⟩, ⟨none, .store 4, [.tmp 6, .tmp 63], none, 0, [0, 3, 2, 1]⟩, ⟨some 7, .mov, [.tmp 72], none, 0, [9, 3, 2, 1, 8, 4, 7, 6, 5, 10, 0]⟩]) (.cut [6, 7] (.ret)))))))) }
theorem ir21_tok {R : Type} {summ : Nat → Option Summ} {fu : Nat} {call : Nat → List CV → List Blk → (CV → List Blk → Option R) → Option R} {o0 : St → (Ex → St → Option R) → Option R} (h0 : ∀ T k r, o0 T k = some r → evLoopN (evCode summ fu call ir21_b0) (St.norm ir21_v0) fu T k = some r) : LTok summ fu call (ir21_t o0) ir21.body := ⟨trivial, ⟨trivial, ⟨trivial, ⟨⟨trivial, h0⟩, trivial⟩⟩⟩⟩


def ir22 : IFn := { ntmps := 10, results := [.inl 2], body := (.seq (.region false 1 [ op0 1 (.box 29) [.tmp 0], op0 2 .mov [.cst (.bool false)]]) (.seq (.region false 1 [ op0 3 (.load true 4) [.tmp 1], op0 4 (.callS 15) [.tmp 3], op0 5 .mov [.tmp 4], ⟨some 6, .fieldAddr 1 1, [.tmp 1], some (5, true), 0, []⟩, ⟨some 7, .load false 1, [.tmp 6], some (5, true), 0, []⟩, ⟨some 8, .call 38, [.tmp 7, .cst (.clo 39 (.pure .unit ()))], some (5, true), 0, []⟩, op0 9 .pick [.tmp 5, .tmp 8, .cst (.bool false)], op0 2 .mov [.tmp 9]]) (.cut [2] (.ret)))) }


def ir23 : IFn := { ntmps := 2, results := [.inr (0, true, 8)], body := (.seq (.region false 1 [ ⟨some 0, .alloc 23 (.pure Zi0 (0, (0, (0, (0, (0, (0, (false, (0, ()))))))))), [], none, 0, []⟩]) (.seq (.region false 0 [ ⟨some 1, .build [((.int .i64 0), 1), ((.int .i64 0), 1), ((.int .i64 0), 1), ((.int .i64 0), 1), ((.int .i64 0), 1), ((.int .i64 0), 1), ((.bool false), 1), ((.int .i64 0), 1)] [0, 1, 2, 3, 4, 6], [.cst (.int .i64 1), .cst (.int .i64 2), .cst (.int .i64 1), .cst (.int .i64 1), .cst (.int .i64 2), .cst (.bool true)], none, 0, []⟩, ⟨none, .store 8, [.tmp 0, .tmp 1], none, 0, []⟩]) (.cut [0] (.ret)))) }


def ir24 : IFn := { ntmps := 12, results := [.inl 2], body := (.seq (.region false 1 [ op0 1 (.box 29) [.tmp 0], op0 2 .mov [.cst (.int .i64 0)]]) (.seq (.seq (.region false 0 [ op0 3 (.fieldAddr 1 1) [.tmp 1], op0 4 (.load false 1) [.tmp 3], op0 5 .len [.tmp 4], op0 6 (.bin .neq) [.tmp 5, .cst (.int .i64 1)]]) (.cond (.tmp 6) (.seq (.region false 0 [ op0 2 .mov [.cst (.int .i64 (-1))]]) (.cut [2] (.ret))) (.skip))) (.seq (.region false 0 [ op0 7 (.fieldAddr 1 1) [.tmp 1], op0 8 (.load false 1) [.tmp 7], op0 9 (.idxSl 7) [.tmp 8, .cst (.int .i64 0)], op0 10 (.fieldAddr 0 0) [.tmp 9], op0 11 (.load false 1) [.tmp 10], op0 2 .mov [.tmp 11]]) (.cut [2] (.ret))))) }


def ir25 : IFn := { ntmps := 15, results := [.inl 6], body := (.seq (.region false 0 [ op0 6 .mov [.cst (.bool false)]]) (.seq (.region false 0 [ op0 7 .mov [.tmp 0], op0 8 .mov [.tmp 1], op0 9 (.bin .geq) [.tmp 7, .tmp 8], op0 10 .mov [.tmp 9], ⟨some 11, .mov, [.tmp 0], some (10, true), 0, []⟩, ⟨some 12, .mov, [.tmp 2], some (10, true), 0, []⟩, ⟨some 13, .bin .leq, [.tmp 11, .tmp 12], some (10, true), 0, []⟩, op0 14 .pick [.tmp 10, .tmp 13, .cst (.bool false)], op0 6 .mov [.tmp 14]]) (.cut [6] (.ret)))) }


def ir26 : IFn := { ntmps := 15, results := [.inl 6], body := (.seq (.region false 0 [ op0 6 .mov [.cst (.bool false)]]) (.seq (.region false 0 [ op0 7 .mov [.tmp 0], op0 8 .mov [.tmp 1], op0 9 (.bin .geq) [.tmp 7, .tmp 8], op0 10 .mov [.tmp 9], ⟨some 11, .mov, [.tmp 0], some (10, true), 0, []⟩, ⟨some 12, .mov, [.tmp 2], some (10, true), 0, []⟩, ⟨some 13, .bin .leq, [.tmp 11, .tmp 12], some (10, true), 0, []⟩, op0 14 .pick [.tmp 10, .tmp 13, .cst (.bool false)], op0 6 .mov [.tmp 14]]) (.cut [6] (.ret)))) }


def ir27 : IFn := { ntmps := 9, results := [.inl 4], body := (.seq (.region false 0 [ op0 4 .mov [.cst (.bool false)]]) (.seq (.region false 0 [ op0 5 .mov [.tmp 0], op0 6 .mov [.tmp 1], op0 7 (.call 41) [.tmp 5, .tmp 6], op0 8 (.bin .geq) [.tmp 7, .cst (.int .i64 0)], op0 4 .mov [.tmp 8]]) (.cut [4] (.ret)))) }


def ir28 : IFn := { ntmps := 6, results := [.inl 2], body := (.seq (.region false 1 [ op0 1 (.box 23) [.tmp 0], op0 2 .mov [.cst (.bool false)]]) (.seq (.region false 1 [ op0 3 (.load true 8) [.tmp 1], op0 4 (.callS 9) [.tmp 3], op0 5 .not [.tmp 4], op0 2 .mov [.tmp 5]]) (.cut [2] (.ret)))) }


def ir31 : IFn := { ntmps := 52, results := [.inl 4], body := (.seq (.region false 2 [ op0 2 (.box 46) [.tmp 0], op0 3 (.box 46) [.tmp 1], op0 4 .mov [.cst (.bool false)]]) (.seq (.region false 1 [ op0 5 (.fieldAddr 0 0) [.tmp 2], op0 6 (.load false 1) [.tmp 5], op0 7 (.fieldAddr 0 0) [.tmp 3], op0 8 (.load false 1) [.tmp 7], op0 9 (.bin .eql) [.tmp 6, .tmp 8], op0 10 .mov [.tmp 9], ⟨some 11, .fieldAddr 1 1, [.tmp 2], some (10, true), 0, []⟩, ⟨some 12, .load false 1, [.tmp 11], some (10, true), 0, []⟩, ⟨some 13, .fieldAddr 1 1, [.tmp 3], some (10, true), 0, []⟩, ⟨some 14, .load false 1, [.tmp 13], some (10, true), 0, []⟩, ⟨some 15, .bin .eql, [.tmp 12, .tmp 14], some (10, true), 0, []⟩, op0 16 .pick [.tmp 10, .tmp 15, .cst (.bool false)], op0 17 .mov [.tmp 16], ⟨some 18, .fieldAddr 2 2, [.tmp 2], some (17, true), 0, []⟩, ⟨some 19, .load false 1, [.tmp 18], some (17, true), 0, []⟩, ⟨some 20, .fieldAddr 2 2, [.tmp 3], some (17, true), 0, []⟩, ⟨some 21, .load false 1, [.tmp 20], some (17, true), 0, []⟩, ⟨some 22, .bin .eql, [.tmp 19, .tmp 21], some (17, true), 0, []⟩, op0 23 .pick [.tmp 17, .tmp 22, .cst (.bool false)], op0 24 .mov [.tmp 23], ⟨some 25, .fieldAddr 3 3, [.tmp 2], some (24, true), 0, []⟩, ⟨some 26, .load false 1, [.tmp 25], some (24, true), 0, []⟩, ⟨some 27, .fieldAddr 3 3, [.tmp 3], some (24, true), 0, []⟩, ⟨some 28, .load false 1, [.tmp 27], some (24, true), 0, []⟩, ⟨some 29, .bin .eql, [.tmp 26, .tmp 28], some (24, true), 0, []⟩, op0 30 .pick [.tmp 24, .tmp 29, .cst (.bool false)], op0 31 .mov [.tmp 30], ⟨some 32, .fieldAddr 4 4, [.tmp 2], some (31, true), 0, []⟩, ⟨some 33, .load false 1, [.tmp 32], some (31, true), 0, []⟩, ⟨some 34, .fieldAddr 4 4, [.tmp 3], some (31, true), 0, []⟩, ⟨some 35, .load false 1, [.tmp 34], some (31, true), 0, []⟩, ⟨some 36, .bin .eql, [.tmp 33, .tmp 35], some (31, true), 0, []⟩, op0 37 .pick [.tmp 31, .tmp 36, .cst (.bool false)], op0 38 .mov [.tmp 37], ⟨some 39, .fieldAddr 6 6, [.tmp 2], some (38, true), 0, []⟩, ⟨some 40, .load false 1, [.tmp 39], some (38, true), 0, []⟩, ⟨some 41, .fieldAddr 6 6, [.tmp 3], some (38, true), 0, []⟩, ⟨some 42, .load false 1, [.tmp 41], some (38, true), 0, []⟩, ⟨some 43, .bin .eql, [.tmp 40, .tmp 42], some (38, true), 0, []⟩, op0 44 .pick [.tmp 38, .tmp 43, .cst (.bool false)], op0 45 .mov [.tmp 44], ⟨some 46, .fieldAddr 5 5, [.tmp 2], some (45, true), 0, []⟩, ⟨some 47, .load false 1, [.tmp 46], some (45, true), 0, []⟩, ⟨some 48, .fieldAddr 5 5, [.tmp 3], some (45, true), 0, []⟩, ⟨some 49, .load false 1, [.tmp 48], some (45, true), 0, []⟩, ⟨some 50, .callS 42, [.tmp 47, .tmp 49], some (45, true), 0, []⟩, op0 51 .pick [.tmp 45, .tmp 50, .cst (.bool false)], op0 4 .mov [.tmp 51]]) (.cut [4] (.ret)))) }


def ir32_b3 : IC := (.seq (.region false 1 [ op0 106 (.load true 7) [.tmp 4], op0 107 (.callS 43) [.tmp 106], op0 105 .mov [.tmp 107]]) (.cond (.tmp 105) (.seq (.region false 0 [ op0 108 (.fieldAddr 4 4) [.tmp 4], op0 109 (.load false 1) [.tmp 108], op0 110 (.bin .geq) [.tmp 109, .cst (.int .i64 1)], op0 111 .mov [.tmp 110], ⟨some 112, .fieldAddr 2 2, [.tmp 4], some (111, true), 0, []⟩, ⟨some 113, .load false 1, [.tmp 112], some (111, true), 0, []⟩, ⟨some 114, .bin .geq, [.tmp 113, .cst (.int .i64 1)], some (111, true), 0, []⟩, op0 115 .pick [.tmp 111, .tmp 114, .cst (.bool false)], op0 116 .mov [.tmp 115], ⟨some 117, .fieldAddr 6 6, [.tmp 4], some (116, true), 0, []⟩, ⟨some 118, .load false 1, [.tmp 117], some (116, true), 0, []⟩, ⟨some 119, .bin .geq, [.tmp 118, .cst (.int .i64 1)], some (116, true), 0, []⟩, op0 120 .pick [.tmp 116, .tmp 119, .cst (.bool false)], op0 121 .mov [.tmp 120], ⟨some 122, .fieldAddr 5 5, [.tmp 4], some (121, true), 0, []⟩, ⟨some 123, .load false 1, [.tmp 122], some (121, true), 0, []⟩, ⟨some 124, .len, [.tmp 123], some (121, true), 0, []⟩, ⟨some 125, .fieldAddr 7 7, [.tmp 3], some (121, true), 0, []⟩, ⟨some 126, .load false 1, [.tmp 125], some (121, true), 0, []⟩, ⟨some 127, .bin .eql, [.tmp 124, .tmp 126], some (121, true), 0, []⟩, op0 128 .pick [.tmp 121, .tmp 127, .cst (.bool false)], op0 6 .mov [.tmp 128]]) (.cut [6] (.ret))) (.skip)))
def ir32_v3 : List Nat := [3, 4]
def ir32_b2 : IC := (.seq (.region false 1 [ op0 98 (.load true 7) [.tmp 4], op0 99 (.callS 40) [.tmp 98, .cst (.int .i64 2)], op0 100 .mov [.tmp 99], ⟨some 101, .fieldAddr 3 3, [.tmp 4], some (100, true), 0, []⟩, ⟨some 102, .load false 1, [.tmp 101], some (100, true), 0, []⟩, ⟨some 103, .bin .neq, [.tmp 102, .cst (.int .i64 0)], some (100, true), 0, []⟩, op0 104 .pick [.tmp 100, .tmp 103, .cst (.bool false)], op0 97 .mov [.tmp 104]]) (.cond (.tmp 97) (.seq (.region false 0 [ op0 6 .mov [.cst (.bool false)]]) (.cut [6] (.ret))) (.cut ir32_v3 ir32_b3)))
def ir32_v2 : List Nat := [3, 4]
def ir32_bt2 {R : Type} (o3 : St → (Ex → St → Option R) → Option R) : LT R := (.node .nil (.node .nil (.orc o3)))
def ir32_b1 : IC := (.seq (.region true 1 [ op0 78 (.load true 7) [.tmp 4], ⟨some 79, .callS 40, [.tmp 78, .cst (.int .i64 4)], none, 0, [0]⟩, ⟨some 80, .fieldAddr 2 2, [.tmp 4], none, 1, []⟩, ⟨some 81, .load false 1, [.tmp 80], none, 1, [2]⟩, ⟨some 82, .bin .eql, [.tmp 81, .cst (.int .i64 2)], none, 1, [3, 2]⟩, ⟨some 83, .eqb true .bool, [.tmp 79, .tmp 82], none, 1, [1, 0, 4, 3, 2]⟩, ⟨some 77, .mov, [.tmp 83], none, 1, [5, 1, 0, 4, 3, 2]⟩]) (.cond (.tmp 77) (.seq (.region false 0 [ op0 6 .mov [.cst (.bool false)]]) (.cut [6] (.ret))) (.seq (.region false 2 [ op0 85 (.load true 7) [.tmp 4], op0 86 (.callS 40) [.tmp 85, .cst (.int .i64 16)], op0 87 .mov [.tmp 86], ⟨some 88, .load true 7, [.tmp 4], some (87, true), 0, []⟩, ⟨some 89, .callS 40, [.tmp 88, .cst (.int .i64 4)], some (87, true), 0, []⟩, ⟨some 90, .not, [.tmp 89], some (87, true), 0, []⟩, ⟨some 91, .mov, [.tmp 90], some (87, true), 0, []⟩, ⟨some 92, .fieldAddr 6 6, [.tmp 3], some (91, false), 0, []⟩, ⟨some 93, .load false 1, [.tmp 92], some (91, false), 0, []⟩, ⟨some 94, .not, [.tmp 93], some (91, false), 0, []⟩, ⟨some 95, .pick, [.tmp 91, .cst (.bool true), .tmp 94], some (87, true), 0, []⟩, op0 96 .pick [.tmp 87, .tmp 95, .cst (.bool false)], op0 84 .mov [.tmp 96]]) (.cond (.tmp 84) (.seq (.region false 0 [ op0 6 .mov [.cst (.bool false)]]) (.cut [6] (.ret))) (.cut ir32_v2 ir32_b2)))))
def ir32_v1 : List Nat := [3, 4]
def ir32_bt1 {R : Type} (o2 : St → (Ex → St → Option R) → Option R) : LT R := (.node .nil (.node .nil (.node .nil (.node .nil (.orc o2)))))
def ir32_b0 : IC := (.seq (.block 0 (.seq (.region false 2 [ op0 64 (.load true 7) [.tmp 4], op0 65 (.callS 40) [.tmp 64, .cst (.int .i64 1)], op0 66 .mov [.tmp 65], ⟨some 67, .load true 7, [.tmp 4], some (66, true), 0, []⟩, ⟨some 68, .callS 40, [.tmp 67, .cst (.int .i64 10)], some (66, true), 0, []⟩, ⟨some 69, .not, [.tmp 68], some (66, true), 0, []⟩, ⟨some 70, .mov, [.tmp 69], some (66, true), 0, []⟩, ⟨some 71, .fieldAddr 6 6, [.tmp 4], some (70, false), 0, []⟩, ⟨some 72, .load false 1, [.tmp 71], some (70, false), 0, []⟩, ⟨some 73, .mov, [.tmp 2], some (70, false), 0, []⟩, ⟨some 74, .bin .neq, [.tmp 72, .tmp 73], some (70, false), 0, []⟩, ⟨some 75, .pick, [.tmp 70, .cst (.bool true), .tmp 74], some (66, true), 0, []⟩, op0 76 .pick [.tmp 66, .tmp 75, .cst (.bool false)], op0 63 .mov [.tmp 76]]) (.cond (.tmp 63) (.seq (.region false 0 [ op0 6 .mov [.cst (.bool false)]]) (.cut [6] (.ret))) (.cut ir32_v1 ir32_b1)))) (.seq (.region false 0 [ op0 129 (.fieldAddr 2 2) [.tmp 4], op0 130 (.load false 1) [.tmp 129], op0 131 (.bin .eql) [.tmp 130, .cst (.int .i64 0)], op0 132 .mov [.tmp 131], ⟨some 133, .fieldAddr 3 3, [.tmp 4], some (132, true), 0, []⟩, ⟨some 134, .load false 1, [.tmp 133], some (132, true), 0, []⟩, ⟨some 135, .bin .eql, [.tmp 134, .cst (.int .i64 0)], some (132, true), 0, []⟩, op0 136 .pick [.tmp 132, .tmp 135, .cst (.bool false)], op0 137 .mov [.tmp 136], ⟨some 138, .fieldAddr 4 4, [.tmp 4], some (137, true), 0, []⟩, ⟨some 139, .load false 1, [.tmp 138], some (137, true), 0, []⟩, ⟨some 140, .bin .eql, [.tmp 139, .cst (.int .i64 0)], some (137, true), 0, []⟩, op0 141 .pick [.tmp 137, .tmp 140, .cst (.bool false)], op0 142 .mov [.tmp 141], ⟨some 143, .fieldAddr 6 6, [.tmp 4], some (142, true), 0, []⟩, ⟨some 144, .load false 1, [.tmp 143], some (142, true), 0, []⟩, ⟨some 145, .bin .eql, [.tmp 144, .cst (.int .i64 0)], some (142, true), 0, []⟩, op0 146 .pick [.tmp 142, .tmp 145, .cst (.bool false)], op0 147 .mov [.tmp 146], ⟨some 148, .fieldAddr 5 5, [.tmp 4], some (147, true), 0, []⟩, ⟨some 149, .load false 1, [.tmp 148], some (147, true), 0, []⟩, ⟨some 150, .len, [.tmp 149], some (147, true), 0, []⟩, ⟨some 151, .bin .eql, [.tmp 150, .cst (.int .i64 0)], some (147, true), 0, []⟩, op0 152 .pick [.tmp 147, .tmp 151, .cst (.bool false)], op0 6 .mov [.tmp 152]]) (.cut [6] (.ret))))
def ir32_v0 : List Nat := [2, 3, 4]
def ir32_bt0 {R : Type} (o1 : St → (Ex → St → Option R) → Option R) : LT R := (.node (.node (.node .nil (.node .nil (.orc o1))) .nil) .nil)
def ir32_t {R : Type} (o0 : St → (Ex → St → Option R) → Option R) : LT R := (.node .nil (.node .nil (.orc o0)))
def ir32 : IFn := { ntmps := 153, results := [.inl 6], body := (.seq (.region false 2 [ op0 3 (.box 23) [.tmp 0], op0 4 (.box 46) [.tmp 1], op0 6 .mov [.cst (.bool false)]]) (.seq (.seq (.region false 7 [ op0 7 (.fieldAddr 0 0) [.tmp 4], op0 8 (.load false 1) [.tmp 7], op0 9 (.callS 25) [.tmp 8, .cst (.int .i64 0), .cst (.int .i64 31)], op0 10 .not [.tmp 9], op0 11 .mov [.tmp 10], ⟨some 12, .fieldAddr 1 1, [.tmp 4], some (11, false), 0, []⟩, ⟨some 13, .load false 1, [.tmp 12], some (11, false), 0, []⟩, ⟨some 14, .fieldAddr 2 2, [.tmp 3], some (11, false), 0, []⟩, ⟨some 15, .load false 1, [.tmp 14], some (11, false), 0, []⟩, ⟨some 16, .neg, [.tmp 15], some (11, false), 0, []⟩, ⟨some 17, .fieldAddr 1 1, [.tmp 3], some (11, false), 0, []⟩, ⟨some 18, .load false 1, [.tmp 17], some (11, false), 0, []⟩, ⟨some 19, .callS 25, [.tmp 13, .tmp 16, .tmp 18], some (11, false), 0, []⟩, ⟨some 20, .not, [.tmp 19], some (11, false), 0, []⟩, op0 21 .pick [.tmp 11, .cst (.bool true), .tmp 20], op0 22 .mov [.tmp 21], ⟨some 23, .fieldAddr 2 2, [.tmp 4], some (22, false), 0, []⟩, ⟨some 24, .load false 1, [.tmp 23], some (22, false), 0, []⟩, ⟨some 25, .callS 25, [.tmp 24, .cst (.int .i64 0), .cst (.int .i64 2)], some (22, false), 0, []⟩, ⟨some 26, .not, [.tmp 25], some (22, false), 0, []⟩, op0 27 .pick [.tmp 22, .cst (.bool true), .tmp 26], op0 28 .mov [.tmp 27], ⟨some 29, .fieldAddr 3 3, [.tmp 4], some (28, false), 0, []⟩, ⟨some 30, .load false 1, [.tmp 29], some (28, false), 0, []⟩, ⟨some 31, .fieldAddr 4 4, [.tmp 3], some (28, false), 0, []⟩, ⟨some 32, .load false 1, [.tmp 31], some (28, false), 0, []⟩, ⟨some 33, .bin .sub, [.tmp 32, .cst (.int .i64 1)], some (28, false), 0, []⟩, ⟨some 34, .callS 25, [.tmp 30, .cst (.int .i64 0), .tmp 33], some (28, false), 0, []⟩, ⟨some 35, .not, [.tmp 34], some (28, false), 0, []⟩, op0 36 .pick [.tmp 28, .cst (.bool true), .tmp 35], op0 37 .mov [.tmp 36], ⟨some 38, .fieldAddr 4 4, [.tmp 4], some (37, false), 0, []⟩, ⟨some 39, .load false 1, [.tmp 38], some (37, false), 0, []⟩, ⟨some 40, .callS 25, [.tmp 39, .cst (.int .i64 0), .cst (.int .i64 255)], some (37, false), 0, []⟩, ⟨some 41, .not, [.tmp 40], some (37, false), 0, []⟩, op0 42 .pick [.tmp 37, .cst (.bool true), .tmp 41], op0 43 .mov [.tmp 42], ⟨some 44, .fieldAddr 6 6, [.tmp 4], some (43, false), 0, []⟩, ⟨some 45, .load false 1, [.tmp 44], some (43, false), 0, []⟩, ⟨some 46, .mov, [.tmp 2], some (43, false), 0, []⟩, ⟨some 47, .callS 25, [.tmp 45, .cst (.int .i64 0), .tmp 46], some (43, false), 0, []⟩, ⟨some 48, .not, [.tmp 47], some (43, false), 0, []⟩, op0 49 .pick [.tmp 43, .cst (.bool true), .tmp 48], op0 50 .mov [.tmp 49], ⟨some 51, .fieldAddr 5 5, [.tmp 4], some (50, false), 0, []⟩, ⟨some 52, .load false 1, [.tmp 51], some (50, false), 0, []⟩, ⟨some 53, .len, [.tmp 52], some (50, false), 0, []⟩, ⟨some 54, .bin .gtr, [.tmp 53, .cst (.int .i64 0)], some (50, false), 0, []⟩, ⟨some 55, .mov, [.tmp 54], some (50, false), 0, []⟩, ⟨some 56, .load true 8, [.tmp 3], some (55, true), 0, []⟩, ⟨some 57, .fieldAddr 5 5, [.tmp 4], some (55, true), 0, []⟩, ⟨some 58, .load false 1, [.tmp 57], some (55, true), 0, []⟩, ⟨some 59, .callS 36, [.tmp 56, .tmp 58], some (55, true), 0, []⟩, ⟨some 60, .not, [.tmp 59], some (55, true), 0, []⟩, ⟨some 61, .pick, [.tmp 55, .tmp 60, .cst (.bool false)], some (50, false), 0, []⟩, op0 62 .pick [.tmp 50, .cst (.bool true), .tmp 61]]) (.cond (.tmp 62) (.seq (.region false 0 [ op0 6 .mov [.cst (.bool false)]]) (.cut [6] (.ret))) (.skip))) (.cut ir32_v0 ir32_b0))) }
theorem ir32_bt2ok {R : Type} {summ : Nat → Option Summ} {fu : Nat} {call : Nat → List CV → List Blk → (CV → List Blk → Option R) → Option R} {o3 : St → (Ex → St → Option R) → Option R} (h3 : ∀ T k r, o3 T k = some r → evCode summ fu call ir32_b3 T k = some r) : LTok summ fu call (ir32_bt2 o3) ir32_b2 := ⟨trivial, ⟨trivial, h3⟩⟩
theorem ir32_bt1ok {R : Type} {summ : Nat → Option Summ} {fu : Nat} {call : Nat → List CV → List Blk → (CV → List Blk → Option R) → Option R} {o2 : St → (Ex → St → Option R) → Option R} (h2 : ∀ T k r, o2 T k = some r → evCode summ fu call ir32_b2 T k = some r) : LTok summ fu call (ir32_bt1 o2) ir32_b1 := ⟨trivial, ⟨trivial, ⟨trivial, ⟨trivial, h2⟩⟩⟩⟩
theorem ir32_bt0ok {R : Type} {summ : Nat → Option Summ} {fu : Nat} {call : Nat → List CV → List Blk → (CV → List Blk → Option R) → Option R} {o1 : St → (Ex → St → Option R) → Option R} (h1 : ∀ T k r, o1 T k = some r → evCode summ fu call ir32_b1 T k = some r) : LTok summ fu call (ir32_bt0 o1) ir32_b0 := ⟨⟨trivial, ⟨trivial, h1⟩⟩, trivial⟩
theorem ir32_tok {R : Type} {summ : Nat → Option Summ} {fu : Nat} {call : Nat → List CV → List Blk → (CV → List Blk → Option R) → Option R} {o0 : St → (Ex → St → Option R) → Option R} (h0 : ∀ T k r, o0 T k = some r → evCode summ fu call ir32_b0 T k = some r) : LTok summ fu call (ir32_t o0) ir32.body := ⟨trivial, ⟨trivial, h0⟩⟩


def ir33_b1 : IC := (.block 3 (.seq (.region true 0 [ op0 66 .mov [.tmp 6], ⟨some 67, .mov, [.tmp 66], none, 0, [0]⟩, ⟨some 68, .mov, [.tmp 5], some (67, false), 0, [1, 0]⟩, ⟨some 69, .nilck, [.tmp 68], some (67, false), 0, [2, 1, 0]⟩, ⟨some 70, .fieldAddr 3 3, [.tmp 69], some (67, false), 0, [3, 2, 1, 0]⟩, ⟨some 71, .load false 1, [.tmp 70], some (67, false), 0, [4, 3, 2, 1, 0]⟩, ⟨some 72, .fieldAddr 0 0, [.tmp 1], some (67, false), 0, [1, 0]⟩, ⟨some 73, .load false 1, [.tmp 72], some (67, false), 0, [6, 1, 0]⟩, ⟨some 74, .mov, [.tmp 4], some (67, false), 0, [1, 0]⟩, ⟨some 75, .idxSl 8, [.tmp 73, .tmp 74], some (67, false), 0, [7, 6, 1, 0, 8]⟩, ⟨some 76, .fieldAddr 4 4, [.tmp 75], some (67, false), 0, [9, 7, 6, 1, 0, 8]⟩, ⟨some 77, .load false 1, [.tmp 76], some (67, false), 0, [10, 9, 7, 6, 1, 0, 8]⟩, ⟨some 78, .bin .eql, [.tmp 71, .tmp 77], some (67, false), 0, [5, 4, 3, 2, 1, 0, 11, 10, 9, 7, 6, 8]⟩, ⟨some 79, .pick, [.tmp 67, .cst (.bool true), .tmp 78], none, 0, [1, 0, 12, 5, 4, 3, 2, 11, 10, 9, 7, 6, 8]⟩, ⟨some 65, .mov, [.tmp 79], none, 0, [13, 1, 0, 12, 5, 4, 3, 2, 11, 10, 9, 7, 6, 8]⟩]) (.cond (.tmp 65) (.region false 0 [ op0 80 .mov [.tmp 5], op0 81 .mov [.tmp 5], op0 82 .nilck [.tmp 81], op0 83 (.fieldAddr 1 1) [.tmp 82], op0 84 (.load false 1) [.tmp 83], ⟨some 85, .build [((.int .i64 0), 1), ((.int .i64 0), 1), ((.int .i64 0), 1), ((.int .i64 0), 1), ((.int .i64 0), 1), ((.nil 3 (.int .i64)), 1), ((.int .i64 0), 1)] [0, 1], [.cst (.int .i64 8), .tmp 84], none, 0, []⟩, op0 86 .nilck [.tmp 80], ⟨none, .store 7, [.tmp 86, .tmp 85], none, 0, []⟩]) (.seq (.region true 0 [ op0 88 .mov [.tmp 5], ⟨some 89, .nilck, [.tmp 88], none, 0, [0]⟩, ⟨some 90, .fieldAddr 3 3, [.tmp 89], none, 0, [1, 0]⟩, ⟨some 91, .load false 1, [.tmp 90], none, 0, [2, 1, 0]⟩, op0 92 (.fieldAddr 0 0) [.tmp 1], ⟨some 93, .load false 1, [.tmp 92], none, 0, [4]⟩, op0 94 .mov [.tmp 4], ⟨some 95, .idxSl 8, [.tmp 93, .tmp 94], none, 0, [5, 4, 6]⟩, ⟨some 96, .fieldAddr 3 3, [.tmp 95], none, 0, [7, 5, 4, 6]⟩, ⟨some 97, .load false 1, [.tmp 96], none, 0, [8, 7, 5, 4, 6]⟩, ⟨some 98, .bin .geq, [.tmp 91, .tmp 97], none, 0, [3, 2, 1, 0, 9, 8, 7, 5, 4, 6]⟩, ⟨some 87, .mov, [.tmp 98], none, 0, [10, 3, 2, 1, 0, 9, 8, 7, 5, 4, 6]⟩]) (.cond (.tmp 87) (.region false 0 [ op0 99 .mov [.tmp 5], op0 100 .nilck [.tmp 99], op0 101 (.fieldAddr 0 0) [.tmp 100], op0 102 (.load false 1) [.tmp 101], op0 103 (.bin .andNot) [.tmp 102, .cst (.int .i64 16)], op0 104 .nilck [.tmp 99], op0 105 (.fieldAddr 0 0) [.tmp 104], ⟨none, .store 1, [.tmp 105, .tmp 103], none, 0, []⟩]) (.skip))))))
def ir33_v1 : List Nat := [1, 2, 4, 5, 6, 22, 23]
def ir33_b0 : IC := (.seq (.region false 0 [ op0 24 (.bin .lss) [.tmp 23, .tmp 22]]) (.seq (.cond (.tmp 24) (.skip) (.cut [1, 2] (.exit 1))) (.seq (.block 2 (.seq (.region false 0 [ op0 25 .mov [.tmp 23], op0 4 .mov [.tmp 25]]) (.seq (.region false 0 [ op0 26 (.fieldAddr 1 1) [.tmp 1], op0 27 (.load false 1) [.tmp 26], op0 28 .mov [.tmp 4], op0 29 (.idxSl 7) [.tmp 27, .tmp 28], op0 5 .mov [.tmp 29]]) (.seq (.seq (.region true 1 [ op0 30 .mov [.tmp 5], ⟨some 31, .nilck, [.tmp 30], none, 0, [0]⟩, ⟨some 32, .load true 7, [.tmp 31], none, 0, [1, 0]⟩, ⟨some 33, .callS 40, [.tmp 32, .cst (.int .i64 8)], none, 0, [2, 1, 0]⟩, ⟨some 34, .not, [.tmp 33], none, 1, [3, 2, 1, 0]⟩, ⟨some 35, .mov, [.tmp 34], none, 1, [4, 3, 2, 1, 0]⟩, ⟨some 36, .mov, [.tmp 5], some (35, false), 1, [5, 4, 3, 2, 1, 0]⟩, ⟨some 37, .nilck, [.tmp 36], some (35, false), 1, [6, 5, 4, 3, 2, 1, 0]⟩, ⟨some 38, .fieldAddr 6 6, [.tmp 37], some (35, false), 1, [7, 6, 5, 4, 3, 2, 1, 0]⟩, ⟨some 39, .load false 1, [.tmp 38], some (35, false), 1, [8, 7, 6, 5, 4, 3, 2, 1, 0]⟩, ⟨some 40, .fieldAddr 2 2, [.tmp 1], some (35, false), 1, [5, 4, 3, 2, 1, 0]⟩, ⟨some 41, .load false 1, [.tmp 40], some (35, false), 1, [10, 5, 4, 3, 2, 1, 0]⟩, ⟨some 42, .bin .eql, [.tmp 39, .tmp 41], some (35, false), 1, [9, 8, 7, 6, 5, 4, 3, 2, 1, 0, 11, 10]⟩, ⟨some 43, .pick, [.tmp 35, .cst (.bool true), .tmp 42], none, 1, [5, 4, 3, 2, 1, 0, 12, 9, 8, 7, 6, 11, 10]⟩]) (.cond (.tmp 43) (.cut [1, 2, 22, 23] (.exit 2)) (.skip))) (.seq (.region false 0 [ op0 44 .mov [.tmp 5], op0 45 .nilck [.tmp 44], op0 46 (.fieldAddr 0 0) [.tmp 45], op0 47 (.load false 1) [.tmp 46], op0 48 (.bin .andNot) [.tmp 47, .cst (.int .i64 2)], op0 49 .nilck [.tmp 44], op0 50 (.fieldAddr 0 0) [.tmp 49], ⟨none, .store 1, [.tmp 50, .tmp 48], none, 0, []⟩]) (.seq (.region false 1 [ op0 51 .mov [.tmp 5], op0 52 .nilck [.tmp 51], op0 53 (.load true 7) [.tmp 52], op0 54 (.callS 40) [.tmp 53, .cst (.int .i64 4)], op0 55 .not [.tmp 54], op0 6 .mov [.tmp 55]]) (.seq (.seq (.region false 0 [ op0 56 .mov [.tmp 6], op0 57 .not [.tmp 56]]) (.cond (.tmp 57) (.region false 0 [ op0 58 .mov [.tmp 5], op0 59 .nilck [.tmp 58], op0 60 (.fieldAddr 3 3) [.tmp 59], op0 61 (.load false 1) [.tmp 60], op0 62 (.bin .add) [.tmp 61, .cst (.int .i64 1)], op0 63 .nilck [.tmp 58], op0 64 (.fieldAddr 3 3) [.tmp 63], ⟨none, .store 1, [.tmp 64, .tmp 62], none, 0, []⟩]) (.skip))) (.cut ir33_v1 ir33_b1)))))))) (.region false 0 [ op0 106 (.bin .add) [.tmp 23, .cst (.int .i64 1)], op0 23 .mov [.tmp 106]]))))
def ir33_v0 : List Nat := [1, 2, 22, 23]
def ir33_bt0 {R : Type} (o1 : St → (Ex → St → Option R) → Option R) : LT R := (.node .nil (.node .nil (.node (.node (.node .nil (.node .nil (.node .nil (.node .nil (.node .nil (.node .nil (.orc o1))))))) .nil) .nil)))
def ir33_t {R : Type} (o0 : St → (Ex → St → Option R) → Option R) : LT R := (.node .nil (.node .nil (.node .nil (.node .nil (.node (.node .nil (.node (.orc o0) .nil)) .nil)))))
def ir33 : IFn := { ntmps := 108, results := [.inr (2, true, 4), .inl 3], body := (.seq (.region false 2 [ op0 1 (.box 29) [.tmp 0], ⟨some 2, .alloc 29 (.pair (.nil 23 Zi0) (.pair (.nil 46 Zi1) (.pure Zi3 (0, (false, ()))))), [], none, 0, []⟩, op0 3 .mov [.cst (.int .i64 0)]]) (.seq (.block 0 (.seq (.region false 1 [ op0 8 (.load true 4) [.tmp 1], op0 9 (.callS 15) [.tmp 8], op0 10 .not [.tmp 9], op0 7 .mov [.tmp 10]]) (.cond (.tmp 7) (.seq (.region false 0 [ ⟨some 11, .build [((.nil 23 Zi0), 1), ((.nil 46 Zi1), 1), ((.int .i64 0), 1), ((.bool false), 1)] [], [], none, 0, []⟩, ⟨none, .store 4, [.tmp 2, .tmp 11], none, 0, []⟩, op0 3 .mov [.cst (.int .i64 1)]]) (.cut [2, 3] (.ret))) (.seq (.region false 0 [ op0 13 (.fieldAddr 3 3) [.tmp 1], op0 14 (.load false 1) [.tmp 13], op0 15 .not [.tmp 14], op0 12 .mov [.tmp 15]]) (.cond (.tmp 12) (.seq (.region false 0 [ ⟨some 16, .build [((.nil 23 Zi0), 1), ((.nil 46 Zi1), 1), ((.int .i64 0), 1), ((.bool false), 1)] [], [], none, 0, []⟩, ⟨none, .store 4, [.tmp 2, .tmp 16], none, 0, []⟩, op0 3 .mov [.cst (.int .i64 6)]]) (.cut [2, 3] (.ret))) (.skip)))))) (.seq (.region false 0 [ op0 17 (.load true 4) [.tmp 1], op0 18 (.call 35) [.tmp 17], ⟨none, .store 4, [.tmp 1, .tmp 18], none, 0, []⟩]) (.seq (.region false 0 [ op0 19 (.fieldAddr 3 3) [.tmp 1], ⟨none, .store 1, [.tmp 19, .cst (.bool false)], none, 0, []⟩]) (.seq (.seq (.region false 0 [ op0 20 (.fieldAddr 1 1) [.tmp 1], op0 21 (.load false 1) [.tmp 20], op0 22 .len [.tmp 21], op0 23 .mov [.cst (.int .i64 0)]]) (.block 1 (.loop ir33_v0 ir33_b0))) (.seq (.region false 0 [ op0 107 (.load true 4) [.tmp 1], ⟨none, .store 4, [.tmp 2, .tmp 107], none, 0, []⟩, op0 3 .mov [.cst (.int .i64 0)]]) (.cut [2, 3] (.ret)))))))) }
theorem ir33_bt0ok {R : Type} {summ : Nat → Option Summ} {fu : Nat} {call : Nat → List CV → List Blk → (CV → List Blk → Option R) → Option R} {o1 : St → (Ex → St → Option R) → Option R} (h1 : ∀ T k r, o1 T k = some r → evCode summ fu call ir33_b1 T k = some r) : LTok summ fu call (ir33_bt0 o1) ir33_b0 := ⟨trivial, ⟨trivial, ⟨⟨trivial, ⟨trivial, ⟨trivial, ⟨trivial, ⟨trivial, ⟨trivial, h1⟩⟩⟩⟩⟩⟩, trivial⟩⟩⟩
theorem ir33_tok {R : Type} {summ : Nat → Option Summ} {fu : Nat} {call : Nat → List CV → List Blk → (CV → List Blk → Option R) → Option R} {o0 : St → (Ex → St → Option R) → Option R} (h0 : ∀ T k r, o0 T k = some r → evLoopN (evCode summ fu call ir33_b0) (St.norm ir33_v0) fu T k = some r) : LTok summ fu call (ir33_t o0) ir33.body := ⟨trivial, ⟨trivial, ⟨trivial, ⟨trivial, ⟨⟨trivial, h0⟩, trivial⟩⟩⟩⟩⟩


def ir34_b3 : IC := (.seq (.seq (.region false 0 [ op0 120 .mov [.tmp 7]]) (.cond (.tmp 120) (.seq (.region false 0 [ op0 121 (.fieldAddr 4 4) [.tmp 4], op0 122 (.load false 1) [.tmp 121], op0 123 (.bin .geq) [.tmp 122, .cst (.int .i64 1)], op0 124 .mov [.tmp 123], ⟨some 125, .fieldAddr 2 2, [.tmp 4], some (124, true), 0, []⟩, ⟨some 126, .load false 1, [.tmp 125], some (124, true), 0, []⟩, ⟨some 127, .bin .geq, [.tmp 126, .cst (.int .i64 1)], some (124, true), 0, []⟩, op0 128 .pick [.tmp 124, .tmp 127, .cst (.bool false)], op0 129 .mov [.tmp 128], ⟨some 130, .fieldAddr 6 6, [.tmp 4], some (129, true), 0, []⟩, ⟨some 131, .load false 1, [.tmp 130], some (129, true), 0, []⟩, ⟨some 132, .bin .geq, [.tmp 131, .cst (.int .i64 1)], some (129, true), 0, []⟩, op0 133 .pick [.tmp 129, .tmp 132, .cst (.bool false)], op0 134 .mov [.tmp 133], ⟨some 135, .fieldAddr 5 5, [.tmp 4], some (134, true), 0, []⟩, ⟨some 136, .load false 1, [.tmp 135], some (134, true), 0, []⟩, ⟨some 137, .len, [.tmp 136], some (134, true), 0, []⟩, ⟨some 138, .fieldAddr 7 7, [.tmp 3], some (134, true), 0, []⟩, ⟨some 139, .load false 1, [.tmp 138], some (134, true), 0, []⟩, ⟨some 140, .bin .eql, [.tmp 137, .tmp 139], some (134, true), 0, []⟩, op0 141 .pick [.tmp 134, .tmp 140, .cst (.bool false)], op0 6 .mov [.tmp 141]]) (.cut [6] (.ret))) (.skip))) (.seq (.region false 0 [ op0 142 (.fieldAddr 2 2) [.tmp 4], op0 143 (.load false 1) [.tmp 142], op0 144 (.bin .eql) [.tmp 143, .cst (.int .i64 0)], op0 145 .mov [.tmp 144], ⟨some 146, .fieldAddr 3 3, [.tmp 4], some (145, true), 0, []⟩, ⟨some 147, .load false 1, [.tmp 146], some (145, true), 0, []⟩, ⟨some 148, .bin .eql, [.tmp 147, .cst (.int .i64 0)], some (145, true), 0, []⟩, op0 149 .pick [.tmp 145, .tmp 148, .cst (.bool false)], op0 150 .mov [.tmp 149], ⟨some 151, .fieldAddr 4 4, [.tmp 4], some (150, true), 0, []⟩, ⟨some 152, .load false 1, [.tmp 151], some (150, true), 0, []⟩, ⟨some 153, .bin .eql, [.tmp 152, .cst (.int .i64 0)], some (150, true), 0, []⟩, op0 154 .pick [.tmp 150, .tmp 153, .cst (.bool false)], op0 155 .mov [.tmp 154], ⟨some 156, .fieldAddr 6 6, [.tmp 4], some (155, true), 0, []⟩, ⟨some 157, .load false 1, [.tmp 156], some (155, true), 0, []⟩, ⟨some 158, .bin .eql, [.tmp 157, .cst (.int .i64 0)], some (155, true), 0, []⟩, op0 159 .pick [.tmp 155, .tmp 158, .cst (.bool false)], op0 160 .mov [.tmp 159], ⟨some 161, .fieldAddr 5 5, [.tmp 4], some (160, true), 0, []⟩, ⟨some 162, .load false 1, [.tmp 161], some (160, true), 0, []⟩, ⟨some 163, .len, [.tmp 162], some (160, true), 0, []⟩, ⟨some 164, .bin .eql, [.tmp 163, .cst (.int .i64 0)], some (160, true), 0, []⟩, op0 165 .pick [.tmp 160, .tmp 164, .cst (.bool false)], op0 6 .mov [.tmp 165]]) (.cut [6] (.ret))))
def ir34_v3 : List Nat := [3, 4, 7]
def ir34_b2 : IC := (.seq (.seq (.region false 1 [ op0 113 (.load true 7) [.tmp 4], op0 114 (.callS 45) [.tmp 113, .cst (.int .i64 2)], op0 115 .mov [.tmp 114], ⟨some 116, .fieldAddr 3 3, [.tmp 4], some (115, true), 0, []⟩, ⟨some 117, .load false 1, [.tmp 116], some (115, true), 0, []⟩, ⟨some 118, .bin .neq, [.tmp 117, .cst (.int .i64 0)], some (115, true), 0, []⟩, op0 119 .pick [.tmp 115, .tmp 118, .cst (.bool false)]]) (.cond (.tmp 119) (.seq (.region false 0 [ op0 6 .mov [.cst (.bool false)]]) (.cut [6] (.ret))) (.skip))) (.cut ir34_v3 ir34_b3))
def ir34_v2 : List Nat := [3, 4, 7]
def ir34_bt2 {R : Type} (o3 : St → (Ex → St → Option R) → Option R) : LT R := (.node .nil (.orc o3))
def ir34_b1 : IC := (.seq (.seq (.region true 3 [ op0 94 (.load true 7) [.tmp 4], ⟨some 95, .callS 45, [.tmp 94, .cst (.int .i64 4)], none, 0, [0]⟩, ⟨some 96, .fieldAddr 2 2, [.tmp 4], none, 1, []⟩, ⟨some 97, .load false 1, [.tmp 96], none, 1, [2]⟩, ⟨some 98, .bin .eql, [.tmp 97, .cst (.int .i64 2)], none, 1, [3, 2]⟩, ⟨some 99, .eqb true .bool, [.tmp 95, .tmp 98], none, 1, [1, 0, 4, 3, 2]⟩, ⟨some 100, .mov, [.tmp 99], none, 1, [5, 1, 0, 4, 3, 2]⟩, ⟨some 101, .load true 7, [.tmp 4], some (100, false), 1, [6, 5, 1, 0, 4, 3, 2]⟩, ⟨some 102, .callS 45, [.tmp 101, .cst (.int .i64 16)], some (100, false), 1, [7, 6, 5, 1, 0, 4, 3, 2]⟩, ⟨some 103, .mov, [.tmp 102], some (100, false), 2, [8, 7, 6, 5, 1, 0, 4, 3, 2]⟩, ⟨some 104, .load true 7, [.tmp 4], some (103, true), 2, [9, 8, 7, 6, 5, 1, 0, 4, 3, 2]⟩, ⟨some 105, .callS 45, [.tmp 104, .cst (.int .i64 4)], some (103, true), 2, [10, 9, 8, 7, 6, 5, 1, 0, 4, 3, 2]⟩, ⟨some 106, .mov, [.tmp 105], some (103, true), 3, [11, 10, 9, 8, 7, 6, 5, 1, 0, 4, 3, 2]⟩, ⟨some 107, .fieldAddr 6 6, [.tmp 3], some (106, true), 3, [12, 11, 10, 9, 8, 7, 6, 5, 1, 0, 4, 3, 2]⟩, ⟨some 108, .load false 1, [.tmp 107], some (106, true), 3, [13, 12, 11, 10, 9, 8, 7, 6, 5, 1, 0, 4, 3, 2]⟩, ⟨some 109, .pick, [.tmp 106, .tmp 108, .cst (.bool false)], some (103, true), 3, [12, 11, 10, 9, 8, 7, 6, 5, 1, 0, 4, 3, 2, 14, 13]⟩, ⟨some 110, .not, [.tmp 109], some (103, true), 3, [15, 12, 11, 10, 9, 8, 7, 6, 5, 1, 0, 4, 3, 2, 14, 13]⟩, ⟨some 111, .pick, [.tmp 103, .tmp 110, .cst (.bool false)], some (100, false), 3, [9, 8, 7, 6, 5, 1, 0, 4, 3, 2, 16, 15, 12, 11, 10, 14, 13]⟩, ⟨some 112, .pick, [.tmp 100, .cst (.bool true), .tmp 111], none, 3, [6, 5, 1, 0, 4, 3, 2, 17, 9, 8, 7, 16, 15, 12, 11, 10, 14, 13]⟩]) (.cond (.tmp 112) (.seq (.region false 0 [ op0 6 .mov [.cst (.bool false)]]) (.cut [6] (.ret))) (.skip))) (.cut ir34_v2 ir34_b2))
def ir34_v1 : List Nat := [3, 4, 7]
def ir34_bt1 {R : Type} (o2 : St → (Ex → St → Option R) → Option R) : LT R := (.node .nil (.orc o2))
def ir34_b0 : IC := (.seq (.seq (.region false 3 [ op0 77 (.load true 7) [.tmp 4], op0 78 (.callS 45) [.tmp 77, .cst (.int .i64 1)], op0 79 .mov [.tmp 78], ⟨some 80, .load true 7, [.tmp 4], some (79, true), 0, []⟩, ⟨some 81, .callS 45, [.tmp 80, .cst (.int .i64 2)], some (79, true), 0, []⟩, ⟨some 82, .mov, [.tmp 81], some (79, true), 0, []⟩, ⟨some 83, .load true 7, [.tmp 4], some (82, true), 0, []⟩, ⟨some 84, .callS 45, [.tmp 83, .cst (.int .i64 8)], some (82, true), 0, []⟩, ⟨some 85, .pick, [.tmp 82, .tmp 84, .cst (.bool false)], some (79, true), 0, []⟩, ⟨some 86, .mov, [.tmp 85], some (79, true), 0, []⟩, ⟨some 87, .fieldAddr 6 6, [.tmp 4], some (86, true), 0, []⟩, ⟨some 88, .load false 1, [.tmp 87], some (86, true), 0, []⟩, ⟨some 89, .mov, [.tmp 2], some (86, true), 0, []⟩, ⟨some 90, .bin .eql, [.tmp 88, .tmp 89], some (86, true), 0, []⟩, ⟨some 91, .pick, [.tmp 86, .tmp 90, .cst (.bool false)], some (79, true), 0, []⟩, ⟨some 92, .not, [.tmp 91], some (79, true), 0, []⟩, op0 93 .pick [.tmp 79, .tmp 92, .cst (.bool false)]]) (.cond (.tmp 93) (.seq (.region false 0 [ op0 6 .mov [.cst (.bool false)]]) (.cut [6] (.ret))) (.skip))) (.cut ir34_v1 ir34_b1))
def ir34_v0 : List Nat := [2, 3, 4, 7]
def ir34_bt0 {R : Type} (o1 : St → (Ex → St → Option R) → Option R) : LT R := (.node .nil (.orc o1))
def ir34_t {R : Type} (o0 : St → (Ex → St → Option R) → Option R) : LT R := (.node .nil (.node .nil (.node .nil (.orc o0))))
def ir34 : IFn := { ntmps := 166, results := [.inl 6], body := (.seq (.region false 2 [ op0 3 (.box 23) [.tmp 0], op0 4 (.box 46) [.tmp 1], op0 6 .mov [.cst (.bool false)]]) (.seq (.seq (.region false 7 [ op0 8 (.fieldAddr 0 0) [.tmp 4], op0 9 (.load false 1) [.tmp 8], op0 10 (.callS 26) [.tmp 9, .cst (.int .i64 0), .cst (.int .i64 31)], op0 11 .not [.tmp 10], op0 12 .mov [.tmp 11], ⟨some 13, .fieldAddr 1 1, [.tmp 4], some (12, false), 0, []⟩, ⟨some 14, .load false 1, [.tmp 13], some (12, false), 0, []⟩, ⟨some 15, .fieldAddr 2 2, [.tmp 3], some (12, false), 0, []⟩, ⟨some 16, .load false 1, [.tmp 15], some (12, false), 0, []⟩, ⟨some 17, .bin .sub, [.cst (.int .i64 0), .tmp 16], some (12, false), 0, []⟩, ⟨some 18, .fieldAddr 1 1, [.tmp 3], some (12, false), 0, []⟩, ⟨some 19, .load false 1, [.tmp 18], some (12, false), 0, []⟩, ⟨some 20, .callS 26, [.tmp 14, .tmp 17, .tmp 19], some (12, false), 0, []⟩, ⟨some 21, .not, [.tmp 20], some (12, false), 0, []⟩, op0 22 .pick [.tmp 12, .cst (.bool true), .tmp 21], op0 23 .mov [.tmp 22], ⟨some 24, .fieldAddr 2 2, [.tmp 4], some (23, false), 0, []⟩, ⟨some 25, .load false 1, [.tmp 24], some (23, false), 0, []⟩, ⟨some 26, .callS 26, [.tmp 25, .cst (.int .i64 0), .cst (.int .i64 2)], some (23, false), 0, []⟩, ⟨some 27, .not, [.tmp 26], some (23, false), 0, []⟩, op0 28 .pick [.tmp 23, .cst (.bool true), .tmp 27], op0 29 .mov [.tmp 28], ⟨some 30, .fieldAddr 3 3, [.tmp 4], some (29, false), 0, []⟩, ⟨some 31, .load false 1, [.tmp 30], some (29, false), 0, []⟩, ⟨some 32, .fieldAddr 4 4, [.tmp 3], some (29, false), 0, []⟩, ⟨some 33, .load false 1, [.tmp 32], some (29, false), 0, []⟩, ⟨some 34, .bin .sub, [.tmp 33, .cst (.int .i64 1)], some (29, false), 0, []⟩, ⟨some 35, .callS 26, [.tmp 31, .cst (.int .i64 0), .tmp 34], some (29, false), 0, []⟩, ⟨some 36, .not, [.tmp 35], some (29, false), 0, []⟩, op0 37 .pick [.tmp 29, .cst (.bool true), .tmp 36], op0 38 .mov [.tmp 37], ⟨some 39, .fieldAddr 4 4, [.tmp 4], some (38, false), 0, []⟩, ⟨some 40, .load false 1, [.tmp 39], some (38, false), 0, []⟩, ⟨some 41, .callS 26, [.tmp 40, .cst (.int .i64 0), .cst (.int .i64 255)], some (38, false), 0, []⟩, ⟨some 42, .not, [.tmp 41], some (38, false), 0, []⟩, op0 43 .pick [.tmp 38, .cst (.bool true), .tmp 42], op0 44 .mov [.tmp 43], ⟨some 45, .fieldAddr 6 6, [.tmp 4], some (44, false), 0, []⟩, ⟨some 46, .load false 1, [.tmp 45], some (44, false), 0, []⟩, ⟨some 47, .mov, [.tmp 2], some (44, false), 0, []⟩, ⟨some 48, .callS 26, [.tmp 46, .cst (.int .i64 0), .tmp 47], some (44, false), 0, []⟩, ⟨some 49, .not, [.tmp 48], some (44, false), 0, []⟩, op0 50 .pick [.tmp 44, .cst (.bool true), .tmp 49], op0 51 .mov [.tmp 50], ⟨some 52, .fieldAddr 5 5, [.tmp 4], some (51, false), 0, []⟩, ⟨some 53, .load false 1, [.tmp 52], some (51, false), 0, []⟩, ⟨some 54, .len, [.tmp 53], some (51, false), 0, []⟩, ⟨some 55, .bin .neq, [.tmp 54, .cst (.int .i64 0)], some (51, false), 0, []⟩, ⟨some 56, .mov, [.tmp 55], some (51, false), 0, []⟩, ⟨some 57, .fieldAddr 5 5, [.tmp 4], some (56, true), 0, []⟩, ⟨some 58, .load false 1, [.tmp 57], some (56, true), 0, []⟩, ⟨some 59, .len, [.tmp 58], some (56, true), 0, []⟩, ⟨some 60, .fieldAddr 7 7, [.tmp 3], some (56, true), 0, []⟩, ⟨some 61, .load false 1, [.tmp 60], some (56, true), 0, []⟩, ⟨some 62, .bin .neq, [.tmp 59, .tmp 61], some (56, true), 0, []⟩, ⟨some 63, .pick, [.tmp 56, .tmp 62, .cst (.bool false)], some (51, false), 0, []⟩, op0 64 .pick [.tmp 51, .cst (.bool true), .tmp 63], op0 65 .mov [.tmp 64], ⟨some 66, .fieldAddr 5 5, [.tmp 4], some (65, false), 0, []⟩, ⟨some 67, .load false 1, [.tmp 66], some (65, false), 0, []⟩, ⟨some 68, .callS 44, [.tmp 67], some (65, false), 0, []⟩, ⟨some 69, .not, [.tmp 68], some (65, false), 0, []⟩, op0 70 .pick [.tmp 65, .cst (.bool true), .tmp 69]]) (.cond (.tmp 70) (.seq (.region false 0 [ op0 6 .mov [.cst (.bool false)]]) (.cut [6] (.ret))) (.skip))) (.seq (.region false 2 [ op0 71 (.load true 7) [.tmp 4], op0 72 (.callS 45) [.tmp 71, .cst (.int .i64 2)], op0 73 .mov [.tmp 72], ⟨some 74, .load true 7, [.tmp 4], some (73, false), 0, []⟩, ⟨some 75, .callS 45, [.tmp 74, .cst (.int .i64 4)], some (73, false), 0, []⟩, op0 76 .pick [.tmp 73, .cst (.bool true), .tmp 75], op0 7 .mov [.tmp 76]]) (.cut ir34_v0 ir34_b0)))) }
theorem ir34_bt2ok {R : Type} {summ : Nat → Option Summ} {fu : Nat} {call : Nat → List CV → List Blk → (CV → List Blk → Option R) → Option R} {o3 : St → (Ex → St → Option R) → Option R} (h3 : ∀ T k r, o3 T k = some r → evCode summ fu call ir34_b3 T k = some r) : LTok summ fu call (ir34_bt2 o3) ir34_b2 := ⟨trivial, h3⟩
theorem ir34_bt1ok {R : Type} {summ : Nat → Option Summ} {fu : Nat} {call : Nat → List CV → List Blk → (CV → List Blk → Option R) → Option R} {o2 : St → (Ex → St → Option R) → Option R} (h2 : ∀ T k r, o2 T k = some r → evCode summ fu call ir34_b2 T k = some r) : LTok summ fu call (ir34_bt1 o2) ir34_b1 := ⟨trivial, h2⟩
theorem ir34_bt0ok {R : Type} {summ : Nat → Option Summ} {fu : Nat} {call : Nat → List CV → List Blk → (CV → List Blk → Option R) → Option R} {o1 : St → (Ex → St → Option R) → Option R} (h1 : ∀ T k r, o1 T k = some r → evCode summ fu call ir34_b1 T k = some r) : LTok summ fu call (ir34_bt0 o1) ir34_b0 := ⟨trivial, h1⟩
theorem ir34_tok {R : Type} {summ : Nat → Option Summ} {fu : Nat} {call : Nat → List CV → List Blk → (CV → List Blk → Option R) → Option R} {o0 : St → (Ex → St → Option R) → Option R} (h0 : ∀ T k r, o0 T k = some r → evCode summ fu call ir34_b0 T k = some r) : LTok summ fu call (ir34_t o0) ir34.body := ⟨trivial, ⟨trivial, ⟨trivial, h0⟩⟩⟩


def ir35_b0 : IC := (.seq (.region false 0 [ op0 12 (.bin .lss) [.tmp 11, .tmp 10]]) (.seq (.cond (.tmp 12) (.skip) (.cut [1, 2] (.exit 0))) (.seq (.block 1 (.seq (.region false 0 [ op0 13 .mov [.tmp 11], op0 3 .mov [.tmp 13]]) (.region true 1 [ op0 14 (.fieldAddr 1 1) [.tmp 1], ⟨some 15, .load false 1, [.tmp 14], none, 0, [0]⟩, op0 16 .mov [.tmp 3], op0 17 (.fieldAddr 1 1) [.tmp 1], ⟨some 18, .load false 1, [.tmp 17], none, 0, [3]⟩, op0 19 .mov [.tmp 3], ⟨some 20, .idxSl 7, [.tmp 18, .tmp 19], none, 0, [4, 3, 5]⟩, ⟨some 21, .fieldAddr 5 5, [.tmp 20], none, 0, [6, 4, 3, 5]⟩, ⟨some 22, .load false 1, [.tmp 21], none, 0, [7, 6, 4, 3, 5]⟩, ⟨some 23, .callS 47, [.tmp 22], none, 0, [8, 7, 6, 4, 3, 5]⟩, ⟨some 24, .idxSl 7, [.tmp 15, .tmp 16], none, 1, [1, 0, 2, 3, 4, 5, 6, 7, 8, 9]⟩, ⟨some 25, .fieldAddr 5 5, [.tmp 24], none, 1, [10, 1, 0, 2, 3, 4, 5, 6, 7, 8, 9]⟩, ⟨none, .store 1, [.tmp 25, .tmp 23], none, 1, [11, 10, 1, 0, 2, 3, 4, 5, 6, 7, 8, 9]⟩]))) (.region false 0 [ op0 26 (.bin .add) [.tmp 11, .cst (.int .i64 1)], op0 11 .mov [.tmp 26]]))))
def ir35_v0 : List Nat := [1, 2, 10, 11]
def ir35_t {R : Type} (o0 : St → (Ex → St → Option R) → Option R) : LT R := (.node .nil (.node .nil (.node (.node .nil (.node (.orc o0) .nil)) .nil)))
def ir35 : IFn := { ntmps := 28, results := [.inr (2, true, 4)], body := (.seq (.region false 2 [ op0 1 (.box 29) [.tmp 0], ⟨some 2, .alloc 29 (.pair (.nil 23 Zi0) (.pair (.nil 46 Zi1) (.pure Zi3 (0, (false, ()))))), [], none, 0, []⟩]) (.seq (.region false 1 [ op0 4 (.fieldAddr 1 1) [.tmp 1], op0 5 (.load false 1) [.tmp 4], op0 6 (.callS 46) [.tmp 5], op0 7 (.fieldAddr 1 1) [.tmp 1], ⟨none, .store 1, [.tmp 7, .tmp 6], none, 0, []⟩]) (.seq (.seq (.region false 0 [ op0 8 (.fieldAddr 1 1) [.tmp 1], op0 9 (.load false 1) [.tmp 8], op0 10 .len [.tmp 9], op0 11 .mov [.cst (.int .i64 0)]]) (.block 0 (.loop ir35_v0 ir35_b0))) (.seq (.region false 0 [ op0 27 (.load true 4) [.tmp 1], ⟨none, .store 4, [.tmp 2, .tmp 27], none, 0, []⟩]) (.cut [2] (.ret)))))) }
theorem ir35_tok {R : Type} {summ : Nat → Option Summ} {fu : Nat} {call : Nat → List CV → List Blk → (CV → List Blk → Option R) → Option R} {o0 : St → (Ex → St → Option R) → Option R} (h0 : ∀ T k r, o0 T k = some r → evLoopN (evCode summ fu call ir35_b0) (St.norm ir35_v0) fu T k = some r) : LTok summ fu call (ir35_t o0) ir35.body := ⟨trivial, ⟨trivial, ⟨⟨trivial, h0⟩, trivial⟩⟩⟩


def ir36 : IFn := { ntmps := 15, results := [.inl 4], body := (.seq (.region false 1 [ op0 2 (.box 23) [.tmp 0], op0 4 .mov [.cst (.bool false)]]) (.seq (.region false 0 [ op0 5 .mov [.tmp 1], op0 6 .len [.tmp 5], op0 7 (.fieldAddr 7 7) [.tmp 2], op0 8 (.load false 1) [.tmp 7], op0 9 (.bin .eql) [.tmp 6, .tmp 8], op0 10 .mov [.tmp 9], ⟨some 11, .mov, [.tmp 1], some (10, true), 0, []⟩, ⟨some 12, .call 48, [.tmp 11, .cst (.clo 49 (.pure .unit ()))], some (10, true), 0, []⟩, ⟨some 13, .not, [.tmp 12], some (10, true), 0, []⟩, op0 14 .pick [.tmp 10, .tmp 13, .cst (.bool false)], op0 4 .mov [.tmp 14]]) (.cut [4] (.ret)))) }


def ir37_b2 : IC := (.cond (.tmp 26) (.region false 1 [ op0 27 .mov [.tmp 0], op0 28 .mov [.tmp 3], op0 29 (.callS 47) [.tmp 28], op0 30 .nilck [.tmp 27], op0 31 (.fieldAddr 5 5) [.tmp 30], ⟨none, .store 1, [.tmp 31, .tmp 29], none, 0, []⟩]) (.skip))
def ir37_v2 : List Nat := [0, 2, 3, 5, 26]
def ir37_b1 : IC := (.seq (.region false 1 [ op0 22 .mov [.tmp 0], op0 23 .nilck [.tmp 22], op0 24 (.load true 7) [.tmp 23], op0 25 (.callS 40) [.tmp 24, .cst (.int .i64 4)], op0 26 .not [.tmp 25]]) (.cut ir37_v2 ir37_b2))
def ir37_v1 : List Nat := [0, 2, 3, 5]
def ir37_bt1 {R : Type} (o2 : St → (Ex → St → Option R) → Option R) : LT R := (.node .nil (.orc o2))
def ir37_b0 : IC := (.cond (.tmp 12) (.seq (.region false 0 [ op0 13 .mov [.tmp 0], op0 14 .mov [.tmp 0], op0 15 .nilck [.tmp 14], op0 16 (.fieldAddr 4 4) [.tmp 15], op0 17 (.load false 1) [.tmp 16], op0 18 (.bin .add) [.tmp 17, .cst (.int .i64 1)], op0 19 .min [.cst (.int .i64 255), .tmp 18], op0 20 .nilck [.tmp 13], op0 21 (.fieldAddr 4 4) [.tmp 20], ⟨none, .store 1, [.tmp 21, .tmp 19], none, 0, []⟩]) (.cut ir37_v1 ir37_b1)) (.skip))
def ir37_v0 : List Nat := [0, 2, 3, 5, 12]
def ir37_bt0 {R : Type} (o1 : St → (Ex → St → Option R) → Option R) : LT R := (.node (.node .nil (.orc o1)) .nil)
def ir37_b6 : IC := (.seq (.region false 0 [ op0 61 .mov [.tmp 0], op0 62 .nilck [.tmp 61], op0 63 (.fieldAddr 2 2) [.tmp 62], op0 64 (.load false 1) [.tmp 63], op0 65 (.bin .lss) [.tmp 64, .cst (.int .i64 2)]]) (.cond (.tmp 65) (.cut [] (.ret)) (.skip)))
def ir37_v6 : List Nat := [0, 5]
def ir37_b8 : IC := (.seq (.region false 0 [ op0 73 (.fieldAddr 6 6) [.tmp 5], op0 74 (.load false 1) [.tmp 73]]) (.cond (.tmp 74) (.region false 0 [ op0 75 .mov [.tmp 0], op0 76 .nilck [.tmp 75], op0 77 (.fieldAddr 0 0) [.tmp 76], op0 78 (.load false 1) [.tmp 77], op0 79 (.bin .or) [.tmp 78, .cst (.int .i64 16)], op0 80 .nilck [.tmp 75], op0 81 (.fieldAddr 0 0) [.tmp 80], ⟨none, .store 1, [.tmp 81, .tmp 79], none, 0, []⟩]) (.skip)))
def ir37_v8 : List Nat := [0, 5]
def ir37_b7 : IC := (.seq (.region false 0 [ op0 66 .mov [.tmp 0], op0 67 .nilck [.tmp 66], op0 68 (.fieldAddr 0 0) [.tmp 67], op0 69 (.load false 1) [.tmp 68], op0 70 (.bin .or) [.tmp 69, .cst (.int .i64 4)], op0 71 .nilck [.tmp 66], op0 72 (.fieldAddr 0 0) [.tmp 71], ⟨none, .store 1, [.tmp 72, .tmp 70], none, 0, []⟩]) (.cut ir37_v8 ir37_b8))
def ir37_v7 : List Nat := [0, 5]
def ir37_bt7 {R : Type} (o8 : St → (Ex → St → Option R) → Option R) : LT R := (.node .nil (.orc o8))
def ir37_b5 : IC := (.seq (.region false 0 [ op0 48 .mov [.tmp 0], op0 49 .mov [.tmp 2], op0 50 .nilck [.tmp 48], op0 51 (.fieldAddr 6 6) [.tmp 50], ⟨none, .store 1, [.tmp 51, .tmp 49], none, 0, []⟩]) (.seq (.seq (.region false 0 [ op0 52 .mov [.tmp 0], op0 53 .mov [.tmp 0], op0 54 .nilck [.tmp 53], op0 55 (.fieldAddr 2 2) [.tmp 54], op0 56 (.load false 1) [.tmp 55], op0 57 (.bin .add) [.tmp 56, .cst (.int .i64 1)], op0 58 .min [.cst (.int .i64 2), .tmp 57], op0 59 .nilck [.tmp 52], op0 60 (.fieldAddr 2 2) [.tmp 59], ⟨none, .store 1, [.tmp 60, .tmp 58], none, 0, []⟩]) (.cut ir37_v6 ir37_b6)) (.cut ir37_v7 ir37_b7)))
def ir37_v5 : List Nat := [0, 2, 5]
def ir37_bt5 {R : Type} (o6 o7 : St → (Ex → St → Option R) → Option R) : LT R := (.node .nil (.node (.node .nil (.orc o6)) (.orc o7)))
def ir37_b4 : IC := (.seq (.region false 0 [ op0 39 .mov [.tmp 0], op0 40 .nilck [.tmp 39], op0 41 (.fieldAddr 3 3) [.tmp 40], ⟨none, .store 1, [.tmp 41, .cst (.int .i64 0)], none, 0, []⟩]) (.seq (.seq (.region false 0 [ op0 42 .mov [.tmp 0], op0 43 .nilck [.tmp 42], op0 44 (.fieldAddr 6 6) [.tmp 43], op0 45 (.load false 1) [.tmp 44], op0 46 .mov [.tmp 2], op0 47 (.bin .eql) [.tmp 45, .tmp 46]]) (.cond (.tmp 47) (.cut [] (.ret)) (.skip))) (.cut ir37_v5 ir37_b5)))
def ir37_v4 : List Nat := [0, 2, 5]
def ir37_bt4 {R : Type} (o5 : St → (Ex → St → Option R) → Option R) : LT R := (.node .nil (.node .nil (.orc o5)))
def ir37_b3 : IC := (.seq (.region false 0 [ op0 32 .mov [.tmp 0], op0 33 .nilck [.tmp 32], op0 34 (.fieldAddr 0 0) [.tmp 33], op0 35 (.load false 1) [.tmp 34], op0 36 (.bin .or) [.tmp 35, .cst (.int .i64 11)], op0 37 .nilck [.tmp 32], op0 38 (.fieldAddr 0 0) [.tmp 37], ⟨none, .store 1, [.tmp 38, .tmp 36], none, 0, []⟩]) (.cut ir37_v4 ir37_b4))
def ir37_v3 : List Nat := [0, 2, 5]
def ir37_bt3 {R : Type} (o4 : St → (Ex → St → Option R) → Option R) : LT R := (.node .nil (.orc o4))
def ir37_t {R : Type} (o0 o3 : St → (Ex → St → Option R) → Option R) : LT R := (.node .nil (.node (.node .nil (.orc o0)) (.orc o3)))
def ir37 : IFn := { ntmps := 82, results := [], body := (.seq (.region false 1 [ op0 5 (.box 23) [.tmp 1]]) (.seq (.seq (.region false 1 [ op0 8 .mov [.tmp 0], op0 9 .nilck [.tmp 8], op0 10 (.load true 7) [.tmp 9], op0 11 (.callS 40) [.tmp 10, .cst (.int .i64 1)], op0 12 .not [.tmp 11]]) (.cut ir37_v0 ir37_b0)) (.cut ir37_v3 ir37_b3))) }
theorem ir37_bt1ok {R : Type} {summ : Nat → Option Summ} {fu : Nat} {call : Nat → List CV → List Blk → (CV → List Blk → Option R) → Option R} {o2 : St → (Ex → St → Option R) → Option R} (h2 : ∀ T k r, o2 T k = some r → evCode summ fu call ir37_b2 T k = some r) : LTok summ fu call (ir37_bt1 o2) ir37_b1 := ⟨trivial, h2⟩
theorem ir37_bt0ok {R : Type} {summ : Nat → Option Summ} {fu : Nat} {call : Nat → List CV → List Blk → (CV → List Blk → Option R) → Option R} {o1 : St → (Ex → St → Option R) → Option R} (h1 : ∀ T k r, o1 T k = some r → evCode summ fu call ir37_b1 T k = some r) : LTok summ fu call (ir37_bt0 o1) ir37_b0 := ⟨⟨trivial, h1⟩, trivial⟩
theorem ir37_bt7ok {R : Type} {summ : Nat → Option Summ} {fu : Nat} {call : Nat → List CV → List Blk → (CV → List Blk → Option R) → Option R} {o8 : St → (Ex → St → Option R) → Option R} (h8 : ∀ T k r, o8 T k = some r → evCode summ fu call ir37_b8 T k = some r) : LTok summ fu call (ir37_bt7 o8) ir37_b7 := ⟨trivial, h8⟩
theorem ir37_bt5ok {R : Type} {summ : Nat → Option Summ} {fu : Nat} {call : Nat → List CV → List Blk → (CV → List Blk → Option R) → Option R} {o6 o7 : St → (Ex → St → Option R) → Option R} (h6 : ∀ T k r, o6 T k = some r → evCode summ fu call ir37_b6 T k = some r) (h7 : ∀ T k r, o7 T k = some r → evCode summ fu call ir37_b7 T k = some r) : LTok summ fu call (ir37_bt5 o6 o7) ir37_b5 := ⟨trivial, ⟨⟨trivial, h6⟩, h7⟩⟩
theorem ir37_bt4ok {R : Type} {summ : Nat → Option Summ} {fu : Nat} {call : Nat → List CV → List Blk → (CV → List Blk → Option R) → Option R} {o5 : St → (Ex → St → Option R) → Option R} (h5 : ∀ T k r, o5 T k = some r → evCode summ fu call ir37_b5 T k = some r) : LTok summ fu call (ir37_bt4 o5) ir37_b4 := ⟨trivial, ⟨trivial, h5⟩⟩
theorem ir37_bt3ok {R : Type} {summ : Nat → Option Summ} {fu : Nat} {call : Nat → List CV → List Blk → (CV → List Blk → Option R) → Option R} {o4 : St → (Ex → St → Option R) → Option R} (h4 : ∀ T k r, o4 T k = some r → evCode summ fu call ir37_b4 T k = some r) : LTok summ fu call (ir37_bt3 o4) ir37_b3 := ⟨trivial, h4⟩
theorem ir37_tok {R : Type} {summ : Nat → Option Summ} {fu : Nat} {call : Nat → List CV → List Blk → (CV → List Blk → Option R) → Option R} {o0 o3 : St → (Ex → St → Option R) → Option R} (h0 : ∀ T k r, o0 T k = some r → evCode summ fu call ir37_b0 T k = some r) (h3 : ∀ T k r, o3 T k = some r → evCode summ fu call ir37_b3 T k = some r) : LTok summ fu call (ir37_t o0 o3) ir37.body := ⟨trivial, ⟨⟨trivial, h0⟩, h3⟩⟩


def ir38 : IFn := { ntmps := 9, results := [.inl 4], body := (.seq (.region false 0 [ op0 4 .mov [.cst (.bool false)]]) (.seq (.region false 0 [ op0 5 .mov [.tmp 0], op0 6 .mov [.tmp 1], op0 7 (.call 51) [.tmp 5, .tmp 6], op0 8 (.bin .geq) [.tmp 7, .cst (.int .i64 0)], op0 4 .mov [.tmp 8]]) (.cut [4] (.ret)))) }


def ir39 : IFn := { ntmps := 5, results := [.inl 2], body := (.seq (.region false 1 [ op0 1 (.box 46) [.tmp 0], op0 2 .mov [.cst (.bool false)]]) (.seq (.region false 1 [ op0 3 (.load true 7) [.tmp 1], op0 4 (.callS 40) [.tmp 3, .cst (.int .i64 16)], op0 2 .mov [.tmp 4]]) (.cut [2] (.ret)))) }


def ir40 : IFn := { ntmps := 11, results := [.inl 4], body := (.seq (.region false 1 [ op0 2 (.box 46) [.tmp 0], op0 4 .mov [.cst (.bool false)]]) (.seq (.region false 0 [ op0 5 (.fieldAddr 0 0) [.tmp 2], op0 6 (.load false 1) [.tmp 5], op0 7 .mov [.tmp 1], op0 8 (.bin .and) [.tmp 6, .tmp 7], op0 9 .mov [.tmp 1], op0 10 (.bin .eql) [.tmp 8, .tmp 9], op0 4 .mov [.tmp 10]]) (.cut [4] (.ret)))) }


def ir41_b0 : IC := (.seq (.region false 0 [ op0 9 (.bin .lss) [.tmp 8, .tmp 7]]) (.seq (.cond (.tmp 9) (.skip) (.cut [] (.exit 0))) (.seq (.block 1 (.seq (.region false 0 [ op0 10 .mov [.tmp 8], op0 5 .mov [.tmp 10]]) (.seq (.region false 0 [ op0 11 .mov [.tmp 1], op0 12 .mov [.tmp 0], op0 13 .mov [.tmp 5], op0 14 (.idxSl 8) [.tmp 12, .tmp 13], op0 15 (.load true 8) [.tmp 14], op0 16 .callv [.tmp 11, .tmp 15]]) (.cond (.tmp 16) (.seq (.region false 0 [ op0 17 .mov [.tmp 5], op0 4 .mov [.tmp 17]]) (.cut [4] (.ret))) (.skip))))) (.region false 0 [ op0 18 (.bin .add) [.tmp 8, .cst (.int .i64 1)], op0 8 .mov [.tmp 18]]))))
def ir41_v0 : List Nat := [0, 1, 7, 8]
def ir41_t {R : Type} (o0 : St → (Ex → St → Option R) → Option R) : LT R := (.node .nil (.node (.node .nil (.node (.orc o0) .nil)) .nil))
def ir41 : IFn := { ntmps := 19, results := [.inl 4], body := (.seq (.region false 0 [ op0 4 .mov [.cst (.int .i64 0)]]) (.seq (.seq (.region false 0 [ op0 6 .mov [.tmp 0], op0 7 .len [.tmp 6], op0 8 .mov [.cst (.int .i64 0)]]) (.block 0 (.loop ir41_v0 ir41_b0))) (.seq (.region false 0 [ op0 4 .mov [.cst (.int .i64 (-1))]]) (.cut [4] (.ret))))) }
theorem ir41_tok {R : Type} {summ : Nat → Option Summ} {fu : Nat} {call : Nat → List CV → List Blk → (CV → List Blk → Option R) → Option R} {o0 : St → (Ex → St → Option R) → Option R} (h0 : ∀ T k r, o0 T k = some r → evLoopN (evCode summ fu call ir41_b0) (St.norm ir41_v0) fu T k = some r) : LTok summ fu call (ir41_t o0) ir41.body := ⟨trivial, ⟨⟨trivial, h0⟩, trivial⟩⟩


def ir42_b0 : IC := (.seq (.seq (.region false 0 [ op0 11 .mov [.tmp 5], op0 12 .mov [.tmp 0], op0 13 .len [.tmp 12], op0 14 (.bin .lss) [.tmp 11, .tmp 13]]) (.cond (.tmp 14) (.skip) (.cut [] (.exit 0)))) (.seq (.block 1 (.seq (.region true 0 [ op0 17 .mov [.tmp 0], op0 18 .mov [.tmp 5], ⟨some 19, .idxSl 1, [.tmp 17, .tmp 18], none, 0, [0, 1]⟩, ⟨some 20, .load false 1, [.tmp 19], none, 0, [2, 0, 1]⟩, op0 21 .mov [.tmp 1], op0 22 .mov [.tmp 5], ⟨some 23, .idxSl 1, [.tmp 21, .tmp 22], none, 0, [4, 5]⟩, ⟨some 24, .load false 1, [.tmp 23], none, 0, [6, 4, 5]⟩, ⟨some 25, .bin .neq, [.tmp 20, .tmp 24], none, 0, [3, 2, 0, 1, 7, 6, 4, 5]⟩]) (.cond (.tmp 25) (.seq (.region false 0 [ op0 4 .mov [.cst (.bool false)]]) (.cut [4] (.ret))) (.skip)))) (.region false 0 [ op0 15 .mov [.tmp 5], op0 16 (.bin .add) [.tmp 15, .cst (.int .i64 1)], op0 5 .mov [.tmp 16]])))
def ir42_v0 : List Nat := [0, 1, 5]
def ir42_t {R : Type} (o0 : St → (Ex → St → Option R) → Option R) : LT R := (.node .nil (.node .nil (.node (.node .nil (.node (.orc o0) .nil)) .nil)))
def ir42 : IFn := { ntmps := 26, results := [.inl 4], body := (.seq (.region false 0 [ op0 4 .mov [.cst (.bool false)]]) (.seq (.seq (.region false 0 [ op0 6 .mov [.tmp 0], op0 7 .len [.tmp 6], op0 8 .mov [.tmp 1], op0 9 .len [.tmp 8], op0 10 (.bin .neq) [.tmp 7, .tmp 9]]) (.cond (.tmp 10) (.seq (.region false 0 [ op0 4 .mov [.cst (.bool false)]]) (.cut [4] (.ret))) (.skip))) (.seq (.seq (.region false 0 [ op0 5 .mov [.cst (.int .i64 0)]]) (.block 0 (.loop ir42_v0 ir42_b0))) (.seq (.region false 0 [ op0 4 .mov [.cst (.bool true)]]) (.cut [4] (.ret)))))) }
def ir43 : IFn := { ntmps := 7, results := [.inl 2], body := (.seq (.region false 1 [ op0 1 (.box 46) [.tmp 0], op0 2 .mov [.cst (.bool false)]]) (.seq (.region false 0 [ op0 3 (.fieldAddr 0 0) [.tmp 1], op0 4 (.load false 1) [.tmp 3], op0 5 (.bin .and) [.tmp 4, .cst (.int .i64 6)], op0 6 (.bin .neq) [.tmp 5, .cst (.int .i64 0)], op0 2 .mov [.tmp 6]]) (.cut [2] (.ret)))) }


def ir44_b0 : IC := (.seq (.seq (.region false 0 [ op0 4 .mov [.tmp 3], op0 5 .mov [.tmp 0], op0 6 .len [.tmp 5], op0 7 (.bin .lss) [.tmp 4, .tmp 6]]) (.cond (.tmp 7) (.skip) (.cut [] (.exit 0)))) (.seq (.block 1 (.seq (.region false 1 [ op0 10 .mov [.tmp 0], op0 11 .mov [.tmp 3], op0 12 (.idxSl 1) [.tmp 10, .tmp 11], op0 13 (.load false 1) [.tmp 12], op0 14 (.callS 26) [.tmp 13, .cst (.int .i64 (-1099511627776)), .cst (.int .i64 1099511627776)], op0 15 .not [.tmp 14]]) (.cond (.tmp 15) (.seq (.region false 0 [ op0 2 .mov [.cst (.bool false)]]) (.cut [2] (.ret))) (.skip)))) (.region false 0 [ op0 8 .mov [.tmp 3], op0 9 (.bin .add) [.tmp 8, .cst (.int .i64 1)], op0 3 .mov [.tmp 9]])))
def ir44_v0 : List Nat := [0, 3]
def ir44_t {R : Type} (o0 : St → (Ex → St → Option R) → Option R) : LT R := (.node .nil (.node (.node .nil (.node (.orc o0) .nil)) .nil))
def ir44 : IFn := { ntmps := 16, results := [.inl 2], body := (.seq (.region false 0 [ op0 2 .mov [.cst (.bool false)]]) (.seq (.seq (.region false 0 [ op0 3 .mov [.cst (.int .i64 0)]]) (.block 0 (.loop ir44_v0 ir44_b0))) (.seq (.region false 0 [ op0 2 .mov [.cst (.bool true)]]) (.cut [2] (.ret))))) }
theorem ir44_tok {R : Type} {summ : Nat → Option Summ} {fu : Nat} {call : Nat → List CV → List Blk → (CV → List Blk → Option R) → Option R} {o0 : St → (Ex → St → Option R) → Option R} (h0 : ∀ T k r, o0 T k = some r → evLoopN (evCode summ fu call ir44_b0) (St.norm ir44_v0) fu T k = some r) : LTok summ fu call (ir44_t o0) ir44.body := ⟨trivial, ⟨⟨trivial, h0⟩, trivial⟩⟩


def ir45 : IFn := { ntmps := 10, results := [.inl 4], body := (.seq (.region false 1 [ op0 2 (.box 46) [.tmp 0], op0 4 .mov [.cst (.bool false)]]) (.seq (.region false 0 [ op0 5 (.fieldAddr 0 0) [.tmp 2], op0 6 (.load false 1) [.tmp 5], op0 7 .mov [.tmp 1], op0 8 (.bin .and) [.tmp 6, .tmp 7], op0 9 (.bin .neq) [.tmp 8, .cst (.int .i64 0)], op0 4 .mov [.tmp 9]]) (.cut [4] (.ret)))) }


def ir48 : IFn := { ntmps := 9, results := [.inl 4], body := (.seq (.region false 0 [ op0 4 .mov [.cst (.bool false)]]) (.seq (.region false 0 [ op0 5 .mov [.tmp 0], op0 6 .mov [.tmp 1], op0 7 (.call 52) [.tmp 5, .tmp 6], op0 8 (.bin .geq) [.tmp 7, .cst (.int .i64 0)], op0 4 .mov [.tmp 8]]) (.cut [4] (.ret)))) }


def ir49 : IFn := { ntmps := 6, results := [.inl 2], body := (.seq (.region false 0 [ op0 2 .mov [.cst (.bool false)]]) (.seq (.region false 1 [ op0 3 .mov [.tmp 0], op0 4 (.callS 50) [.tmp 3], op0 5 .not [.tmp 4], op0 2 .mov [.tmp 5]]) (.cut [2] (.ret)))) }


def ir50 : IFn := { ntmps := 5, results := [.inl 2], body := (.seq (.region false 0 [ op0 2 .mov [.cst (.bool false)]]) (.seq (.region false 1 [ op0 3 .mov [.tmp 0], op0 4 (.callS 25) [.tmp 3, .cst (.int .i64 (-1099511627776)), .cst (.int .i64 1099511627776)], op0 2 .mov [.tmp 4]]) (.cut [2] (.ret)))) }


def ir51_b0 : IC := (.seq (.region false 0 [ op0 9 (.bin .lss) [.tmp 8, .tmp 7]]) (.seq (.cond (.tmp 9) (.skip) (.cut [] (.exit 0))) (.seq (.block 1 (.seq (.region false 0 [ op0 10 .mov [.tmp 8], op0 5 .mov [.tmp 10]]) (.seq (.region false 0 [ op0 11 .mov [.tmp 1], op0 12 .mov [.tmp 0], op0 13 .mov [.tmp 5], op0 14 (.idxSl 7) [.tmp 12, .tmp 13], op0 15 (.load true 7) [.tmp 14], op0 16 .callv [.tmp 11, .tmp 15]]) (.cond (.tmp 16) (.seq (.region false 0 [ op0 17 .mov [.tmp 5], op0 4 .mov [.tmp 17]]) (.cut [4] (.ret))) (.skip))))) (.region false 0 [ op0 18 (.bin .add) [.tmp 8, .cst (.int .i64 1)], op0 8 .mov [.tmp 18]]))))
def ir51_v0 : List Nat := [0, 1, 7, 8]
def ir51_t {R : Type} (o0 : St → (Ex → St → Option R) → Option R) : LT R := (.node .nil (.node (.node .nil (.node (.orc o0) .nil)) .nil))
def ir51 : IFn := { ntmps := 19, results := [.inl 4], body := (.seq (.region false 0 [ op0 4 .mov [.cst (.int .i64 0)]]) (.seq (.seq (.region false 0 [ op0 6 .mov [.tmp 0], op0 7 .len [.tmp 6], op0 8 .mov [.cst (.int .i64 0)]]) (.block 0 (.loop ir51_v0 ir51_b0))) (.seq (.region false 0 [ op0 4 .mov [.cst (.int .i64 (-1))]]) (.cut [4] (.ret))))) }
theorem ir51_tok {R : Type} {summ : Nat → Option Summ} {fu : Nat} {call : Nat → List CV → List Blk → (CV → List Blk → Option R) → Option R} {o0 : St → (Ex → St → Option R) → Option R} (h0 : ∀ T k r, o0 T k = some r → evLoopN (evCode summ fu call ir51_b0) (St.norm ir51_v0) fu T k = some r) : LTok summ fu call (ir51_t o0) ir51.body := ⟨trivial, ⟨⟨trivial, h0⟩, trivial⟩⟩


def ir52_b0 : IC := (.seq (.region false 0 [ op0 9 (.bin .lss) [.tmp 8, .tmp 7]]) (.seq (.cond (.tmp 9) (.skip) (.cut [] (.exit 0))) (.seq (.block 1 (.seq (.region false 0 [ op0 10 .mov [.tmp 8], op0 5 .mov [.tmp 10]]) (.seq (.region false 0 [ op0 11 .mov [.tmp 1], op0 12 .mov [.tmp 0], op0 13 .mov [.tmp 5], op0 14 (.idxSl 1) [.tmp 12, .tmp 13], op0 15 (.load false 1) [.tmp 14], op0 16 .callv [.tmp 11, .tmp 15]]) (.cond (.tmp 16) (.seq (.region false 0 [ op0 17 .mov [.tmp 5], op0 4 .mov [.tmp 17]]) (.cut [4] (.ret))) (.skip))))) (.region false 0 [ op0 18 (.bin .add) [.tmp 8, .cst (.int .i64 1)], op0 8 .mov [.tmp 18]]))))
def ir52_v0 : List Nat := [0, 1, 7, 8]
def ir52_t {R : Type} (o0 : St → (Ex → St → Option R) → Option R) : LT R := (.node .nil (.node (.node .nil (.node (.orc o0) .nil)) .nil))
def ir52 : IFn := { ntmps := 19, results := [.inl 4], body := (.seq (.region false 0 [ op0 4 .mov [.cst (.int .i64 0)]]) (.seq (.seq (.region false 0 [ op0 6 .mov [.tmp 0], op0 7 .len [.tmp 6], op0 8 .mov [.cst (.int .i64 0)]]) (.block 0 (.loop ir52_v0 ir52_b0))) (.seq (.region false 0 [ op0 4 .mov [.cst (.int .i64 (-1))]]) (.cut [4] (.ret))))) }
theorem ir52_tok {R : Type} {summ : Nat → Option Summ} {fu : Nat} {call : Nat → List CV → List Blk → (CV → List Blk → Option R) → Option R} {o0 : St → (Ex → St → Option R) → Option R} (h0 : ∀ T k r, o0 T k = some r → evLoopN (evCode summ fu call ir52_b0) (St.norm ir52_v0) fu T k = some r) : LTok summ fu call (ir52_t o0) ir52.body := ⟨trivial, ⟨⟨trivial, h0⟩, trivial⟩⟩


def fns : Nat → Option IFn | 4 => some ir4 | 8 => some ir8 | 9 => some ir9 | 10 => some ir10 | 11 => some ir11 | 12 => some ir12 | 13 => some ir13 | 14 => some ir14 | 15 => some ir15 | 16 => some ir16 | 17 => some ir17 | 18 => some ir18 | 19 => some ir19 | 20 => some ir20 | 21 => some ir21 | 22 => some ir22 | 23 => some ir23 | 24 => some ir24 | 25 => some ir25 | 26 => some ir26 | 27 => some ir27 | 28 => some ir28 | 31 => some ir31 | 32 => some ir32 | 33 => some ir33 | 34 => some ir34 | 35 => some ir35 | 36 => some ir36 | 37 => some ir37 | 38 => some ir38 | 39 => some ir39 | 40 => some ir40 | 41 => some ir41 | 42 => some ir42 | 43 => some ir43 | 44 => some ir44 | 45 => some ir45 | 48 => some ir48 | 49 => some ir49 | 50 => some ir50 | 51 => some ir51 | 52 => some ir52 | _ => none
end Go.Ev
namespace Go.Ev
open Go
set_option maxRecDepth 100000
set_option maxHeartbeats 4000000
set_option linter.unusedVariables false
noncomputable section

def sm_25 : Nat → Option Summ := fun f => none


def F_25 (a0 : Int) (a1 : Int) (a2 : Int) : Option (Bool × Unit) :=
  bif decide (a0 ≥ a1) then some (decide (a0 ≤ a2), PUnit.unit) else some (false, PUnit.unit)
theorem fn_25 (a0 : Int) (a1 : Int) (a2 : Int) : evFnL sm_25 FU (ovr noO (evFn sm_25 fns FU 0)) .nil ir25 (ofH [(.int .i64), (.int .i64), (.int .i64)] (a0, a1, a2, ())) [] (pureK [.bool]) = F_25 a0 a1 a2 := by kernel_rfl
def Sp.p_25 (a0 : Int) (a1 : Int) (a2 : Int) : Bool := (F_25 a0 a1 a2).isSome
def Sp.v_25 (a0 : Int) (a1 : Int) (a2 : Int) : Bool × Unit := (F_25 a0 a1 a2).getD (dfH [.bool])
def s_25 : Summ := shN [(.int .i64), (.int .i64), (.int .i64)] [.bool] (fun x => Sp.p_25 x.1 x.2.1 x.2.2.1) (fun x => Sp.v_25 x.1 x.2.1 x.2.2.1)
theorem pv_25 (a0 : Int) (a1 : Int) (a2 : Int) {y : Bool × Unit} (h : F_25 a0 a1 a2 = some y) : Sp.p_25 a0 a1 a2 = true ∧ Sp.v_25 a0 a1 a2 = y := ⟨by rw [Sp.p_25, h]; rfl, by rw [Sp.v_25, h]; rfl⟩
theorem run_25 (x : HDen [(.int .i64), (.int .i64), (.int .i64)]) (y : HDen [.bool]) (h : F_25 x.1 x.2.1 x.2.2.1 = some y) : evFn sm_25 fns FU 1 25 (ofH [(.int .i64), (.int .i64), (.int .i64)] x) [] (pureK [.bool]) = some y :=
  evFnL_sound (fn := ir25) (t := .nil) (o := noO) rfl noO_ok trivial ((fn_25 _ _ _).trans h)
end
end Go.Ev
namespace Go.Ev
open Go
set_option maxRecDepth 100000
set_option maxHeartbeats 4000000
set_option linter.unusedVariables false
noncomputable section

def sm_9 : Nat → Option Summ := fun f => bif Nat.beq f 25 then some s_25 else none


def F_9 (a0 : (Int × (Int × (Int × (Int × (Int × (Int × (Bool × (Int × Unit))))))))) : Option (Bool × Unit) :=
  gd (Sp.p_25 (a0.1) (1 : Int) (16777215 : Int)) (bif (Sp.v_25 (a0.1) (1 : Int) (16777215 : Int)).1 then gd (Sp.p_25 (a0.2.1) (1 : Int) (100 : Int)) (bif (Sp.v_25 (a0.2.1) (1 : Int) (100 : Int)).1 then gd (Sp.p_25 (a0.2.2.1) (1 : Int) (100 : Int)) (bif (Sp.v_25 (a0.2.2.1) (1 : Int) (100 : Int)).1 then gd (Sp.p_25 (a0.2.2.2.1) (1 : Int) (100 : Int)) (bif (Sp.v_25 (a0.2.2.2.1) (1 : Int) (100 : Int)).1 then gd (Sp.p_25 (a0.2.2.2.2.1) (a0.2.2.2.1) (255 : Int)) (bif (Sp.v_25 (a0.2.2.2.2.1) (a0.2.2.2.1) (255 : Int)).1 then gd (Sp.p_25 (a0.2.2.2.2.2.1) (0 : Int) (255 : Int)) (bif (Sp.v_25 (a0.2.2.2.2.2.1) (0 : Int) (255 : Int)).1 then gd (Sp.p_25 (a0.2.2.2.2.2.2.2.1) (0 : Int) (8 : Int)) (some ((Sp.v_25 (a0.2.2.2.2.2.2.2.1) (0 : Int) (8 : Int)).1, PUnit.unit)) else some (false, PUnit.unit)) else some (false, PUnit.unit)) else some (false, PUnit.unit)) else some (false, PUnit.unit)) else some (false, PUnit.unit)) else some (false, PUnit.unit))
theorem fn_9 (a0 : (Int × (Int × (Int × (Int × (Int × (Int × (Bool × (Int × Unit))))))))) : evFnL sm_9 FU (ovr noO (evFn sm_9 fns FU 0)) .nil ir9 (ofH [(.pair (.int .i64) (.pair (.int .i64) (.pair (.int .i64) (.pair (.int .i64) (.pair (.int .i64) (.pair (.int .i64) (.pair .bool (.pair (.int .i64) .unit))))))))] (a0, ())) [] (pureK [.bool]) = F_9 a0 := by kernel_rfl
def Sp.p_9 (a0 : (Int × (Int × (Int × (Int × (Int × (Int × (Bool × (Int × Unit))))))))) : Bool := (F_9 a0).isSome
def Sp.v_9 (a0 : (Int × (Int × (Int × (Int × (Int × (Int × (Bool × (Int × Unit))))))))) : Bool × Unit := (F_9 a0).getD (dfH [.bool])
def s_9 : Summ := shN [(.pair (.int .i64) (.pair (.int .i64) (.pair (.int .i64) (.pair (.int .i64) (.pair (.int .i64) (.pair (.int .i64) (.pair .bool (.pair (.int .i64) .unit))))))))] [.bool] (fun x => Sp.p_9 x.1) (fun x => Sp.v_9 x.1)
theorem pv_9 (a0 : (Int × (Int × (Int × (Int × (Int × (Int × (Bool × (Int × Unit))))))))) {y : Bool × Unit} (h : F_9 a0 = some y) : Sp.p_9 a0 = true ∧ Sp.v_9 a0 = y := ⟨by rw [Sp.p_9, h]; rfl, by rw [Sp.v_9, h]; rfl⟩
theorem run_9 (x : HDen [(.pair (.int .i64) (.pair (.int .i64) (.pair (.int .i64) (.pair (.int .i64) (.pair (.int .i64) (.pair (.int .i64) (.pair .bool (.pair (.int .i64) .unit))))))))]) (y : HDen [.bool]) (h : F_9 x.1 = some y) : evFn sm_9 fns FU 1 9 (ofH [(.pair (.int .i64) (.pair (.int .i64) (.pair (.int .i64) (.pair (.int .i64) (.pair (.int .i64) (.pair (.int .i64) (.pair .bool (.pair (.int .i64) .unit))))))))] x) [] (pureK [.bool]) = some y :=
  evFnL_sound (fn := ir9) (t := .nil) (o := noO) rfl noO_ok trivial ((fn_9 _).trans h)
end
end Go.Ev
namespace Go.Ev
open Go
set_option maxRecDepth 100000
set_option maxHeartbeats 4000000
set_option linter.unusedVariables false
noncomputable section
abbrev Zy11_0 : Ty := (.pair (.slice (.pair (.int .i64) (.pair (.int .i64) (.pair (.int .i64) (.pair (.int .i64) (.pair (.int .i64) (.pair (.int .i64) (.pair .bool (.pair (.int .i64) .unit))))))))) (.pair (.slice (.pair (.int .i64) (.pair (.int .i64) (.pair (.int .i64) (.pair (.int .i64) (.pair (.int .i64) (.pair (.slice (.int .i64)) (.pair (.int .i64) .unit)))))))) (.pair (.int .i64) (.pair .bool .unit))))
abbrev Zy11_1 : Ty := (Ty.pair (Ty.int IntKind.i64) (Ty.pair (Ty.int IntKind.i64) (Ty.pair (Ty.int IntKind.i64) (Ty.pair (Ty.int IntKind.i64) (Ty.pair (Ty.int IntKind.i64) (Ty.pair (Ty.int IntKind.i64) (Ty.pair Ty.bool (Ty.pair (Ty.int IntKind.i64) Ty.unit))))))))
abbrev Zy11_2 : Ty := (Ty.pair (Ty.int IntKind.i64) (Ty.pair (Ty.int IntKind.i64) (Ty.pair (Ty.int IntKind.i64) (Ty.pair (Ty.int IntKind.i64) (Ty.pair (Ty.int IntKind.i64) (Ty.pair (Ty.slice (Ty.int IntKind.i64)) (Ty.pair (Ty.int IntKind.i64) Ty.unit)))))))
abbrev Zy11_3 : Ty := (.slice (.pair (.int .i64) (.pair (.int .i64) (.pair (.int .i64) (.pair (.int .i64) (.pair (.int .i64) (.pair (.int .i64) (.pair .bool (.pair (.int .i64) .unit)))))))))
abbrev Zt11_4 : Type := List (Int × Int × Int × Int × Int × Int × Bool × Int × PUnit)
abbrev Zt11_5 : Type := Int × Bool × PUnit
abbrev Zy11_6 : Ty := (Ty.pair (Ty.int IntKind.i64) (Ty.pair Ty.bool Ty.unit))

abbrev s11_29 : Summ := codesS
abbrev s11_30 : Summ := vecS (.pair (.int .i64) (.pair (.int .i64) (.pair (.int .i64) (.pair (.int .i64) (.pair (.int .i64) (.pair (.int .i64) (.pair .bool (.pair (.int .i64) .unit)))))))) 23 64
def sm_11 : Nat → Option Summ := fun f => bif Nat.beq f 9 then some s_9 else bif Nat.beq f 29 then some s11_29 else bif Nat.beq f 30 then some s11_30 else none
def T_11_41_0_0 (p0 : Zt11_4) (p1 : Int) (p2 : Int) (p3 : Zt11_5) : St := St.mk ([CV.pure (Ty.slice (Ty.pair (Ty.int IntKind.i64) (Ty.pair (Ty.int IntKind.i64) (Ty.pair (Ty.int IntKind.i64) (Ty.pair (Ty.int IntKind.i64) (Ty.pair (Ty.int IntKind.i64) (Ty.pair (Ty.int IntKind.i64) (Ty.pair Ty.bool (Ty.pair (Ty.int IntKind.i64) Ty.unit))))))))) p0, CV.clo (28 : Nat) (CV.pure Ty.unit PUnit.unit), jk, jk, jk, jk, jk, CV.int IntKind.i64 p1, CV.int IntKind.i64 p2] ++ (jl 10)) [Blk.mem (CV.pair (CV.nil (23 : Nat) Zy11_1) (CV.pair (CV.nil (46 : Nat) Zy11_2) (CV.pure Zy11_6 p3)))] (1 : Nat)
def X_11_41_0_0_0 (p2 : Int) (p3 : Zt11_5) : St := St.mk ([jk, jk, jk, jk, CV.int IntKind.i64 p2] ++ (jl 14)) [Blk.mem (CV.pair (CV.nil (23 : Nat) Zy11_1) (CV.pair (CV.nil (46 : Nat) Zy11_2) (CV.pure Zy11_6 p3)))] (1 : Nat)
def X_11_41_0_0_1 (p3 : Zt11_5) : St := St.mk (jl 19) [Blk.mem (CV.pair (CV.nil (23 : Nat) Zy11_1) (CV.pair (CV.nil (46 : Nat) Zy11_2) (CV.pure Zy11_6 p3)))] (1 : Nat)
inductive Sp.E_11_41_0_0 where
  | e0 (p2 : Int) (p3 : Zt11_5)
  | e1 (p3 : Int × Bool × PUnit)
def Sp.B_11_41_0_0 {R : Type} (r : Option Sp.E_11_41_0_0) (k0 : (Int) → (Zt11_5) → Option R) (k1 : (Zt11_5) → Option R) : Option R := match r with
  | none => none
  | some (.e0 p2 p3) => k0 p2 p3
  | some (.e1 p3) => k1 p3
def Sp.L_11_41_0_0 : Nat → (List (Int × Int × Int × Int × Int × Int × Bool × Int × PUnit)) → (Int) → (Int) → (Int × Bool × PUnit) → Option Sp.E_11_41_0_0
  | 0, _, _, _, _ => none
  | m + 1, p0, p1, p2, p3 => bif decide (p2 < p1) then gd (inB p2 (List.length p0)) (gd (Sp.p_9 (List.getD p0 (Int.toNat p2) Zd0)) (bif !(Sp.v_9 (List.getD p0 (Int.toNat p2) Zd0)).1 then some (Sp.E_11_41_0_0.e0 p2 p3) else Sp.L_11_41_0_0 m p0 p1 (IntKind.wrap IntKind.i64 (p2 + (1 : Int))) p3)) else some (Sp.E_11_41_0_0.e1 p3)
def G_11_41_0_0 {R : Type} (p0 : Zt11_4) (p1 : Int) (p2 : Int) (p3 : Zt11_5) (k : Ex → St → Option R) : Option R := Sp.B_11_41_0_0 (Sp.L_11_41_0_0 FU p0 p1 p2 p3) (fun p2 p3 => k Ex.ret (X_11_41_0_0_0 p2 p3)) (fun p3 => k (Ex.exit (0 : Nat)) (X_11_41_0_0_1 p3))
def o_11_41_0_0 {R : Type} (G : (Zt11_4) → (Int) → (Int) → (Zt11_5) → (Ex → St → Option R) → Option R) : St → (Ex → St → Option R) → Option R := fun T k => match T.sl.getD 0 .junk, T.sl.getD 1 .junk, T.sl.getD 7 .junk, T.sl.getD 8 .junk, T.hp with
  | CV.pure (Ty.slice (Ty.pair (Ty.int IntKind.i64) (Ty.pair (Ty.int IntKind.i64) (Ty.pair (Ty.int IntKind.i64) (Ty.pair (Ty.int IntKind.i64) (Ty.pair (Ty.int IntKind.i64) (Ty.pair (Ty.int IntKind.i64) (Ty.pair Ty.bool (Ty.pair (Ty.int IntKind.i64) Ty.unit))))))))) p0, CV.clo (28 : Nat) (CV.pure Ty.unit PUnit.unit), CV.int IntKind.i64 p1, CV.int IntKind.i64 p2, ((Blk.mem (CV.pair (CV.nil (23 : Nat) (Ty.pair (Ty.int IntKind.i64) (Ty.pair (Ty.int IntKind.i64) (Ty.pair (Ty.int IntKind.i64) (Ty.pair (Ty.int IntKind.i64) (Ty.pair (Ty.int IntKind.i64) (Ty.pair (Ty.int IntKind.i64) (Ty.pair Ty.bool (Ty.pair (Ty.int IntKind.i64) Ty.unit))))))))) (CV.pair (CV.nil (46 : Nat) (Ty.pair (Ty.int IntKind.i64) (Ty.pair (Ty.int IntKind.i64) (Ty.pair (Ty.int IntKind.i64) (Ty.pair (Ty.int IntKind.i64) (Ty.pair (Ty.int IntKind.i64) (Ty.pair (Ty.slice (Ty.int IntKind.i64)) (Ty.pair (Ty.int IntKind.i64) Ty.unit)))))))) (CV.pure (Ty.pair (Ty.int IntKind.i64) (Ty.pair Ty.bool Ty.unit)) p3)))) :: []) => gd (shapeOK T 19 [0, 1, 7, 8] (1 : Nat)) (G p0 p1 p2 p3 k)
  | _, _, _, _, _ => none
theorem o_11_41_0_0_inv {R : Type} {G : (Zt11_4) → (Int) → (Int) → (Zt11_5) → (Ex → St → Option R) → Option R} {T : St} {k : Ex → St → Option R} {r : R} (h : o_11_41_0_0 G T k = some r) : ∃ p0 p1 p2 p3, T = T_11_41_0_0 p0 p1 p2 p3 ∧ G p0 p1 p2 p3 k = some r := by
  unfold o_11_41_0_0 at h
  split at h
  · obtain ⟨hs, h'⟩ := gd_some h
    refine ⟨_, _, _, _, (st_of (asg := [(0, _), (1, _), (7, _), (8, _)]) hs ⟨by assumption, by assumption, by assumption, by assumption, trivial⟩ (by assumption)).trans ?_, h'⟩
    kernel_rfl
  · cases h
def O_11_41_0 {R : Type} : St → (Ex → St → Option R) → Option R := fun T k => o_11_41_0_0 G_11_41_0_0 T k
def g_11_41 {R : Type} : List CV → List Blk → (CV → List Blk → Option R) → Option R := evFnL sm_11 FU (ovr noO (evFn sm_11 fns FU 1)) (ir41_t O_11_41_0) ir41
def g_11_27 {R : Type} : List CV → List Blk → (CV → List Blk → Option R) → Option R := evFnL sm_11 FU (ovr (fun f' => bif Nat.beq f' 41 then some (g_11_41) else none) (evFn sm_11 fns FU 2)) .nil ir27
theorem body_11_41_0_0 {R : Type} (K0 : St → Option R) (K1 : Ex → St → Option R) (p0 : Zt11_4) (p1 : Int) (p2 : Int) (p3 : Zt11_5) : evLB (evCodeL sm_11 FU (ovr noO (evFn sm_11 fns FU 1)) .nil ir41_b0) (St.norm ir41_v0) (T_11_41_0_0 p0 p1 p2 p3) K0 K1 =
  bif decide (p2 < p1) then gd (inB p2 (List.length p0)) (gd (Sp.p_9 (List.getD p0 (Int.toNat p2) (Ty.dflt Zy11_1))) (bif !(Sp.v_9 (List.getD p0 (Int.toNat p2) (Ty.dflt Zy11_1))).1 then K1 Ex.ret (X_11_41_0_0_0 p2 p3) else K0 (T_11_41_0_0 p0 p1 (IntKind.wrap IntKind.i64 (p2 + (1 : Int))) p3))) else K1 (Ex.exit (0 : Nat)) (X_11_41_0_0_1 p3) := by kernel_rfl
theorem Bgd_11_41_0_0 {R : Type} {c : Bool} {x : Option R} {y : Option Sp.E_11_41_0_0} {k0 : (Int) → (Zt11_5) → Option R} {k1 : (Zt11_5) → Option R} (h : x = Sp.B_11_41_0_0 y k0 k1) : gd c x = Sp.B_11_41_0_0 (gd c y) k0 k1 := by cases c; rfl; exact h
theorem Bcond_11_41_0_0 {R : Type} {c : Bool} {x x' : Option R} {y y' : Option Sp.E_11_41_0_0} {k0 : (Int) → (Zt11_5) → Option R} {k1 : (Zt11_5) → Option R} (h : x = Sp.B_11_41_0_0 y k0 k1) (h' : x' = Sp.B_11_41_0_0 y' k0 k1) : (bif c then x else x') = Sp.B_11_41_0_0 (bif c then y else y') k0 k1 := by cases c; exact h'; exact h
theorem loop_11_41_0_0 {R : Type} (k : Ex → St → Option R) : ∀ (m : Nat) (p0 : Zt11_4) (p1 : Int) (p2 : Int) (p3 : Zt11_5), evLoopN (evCodeL sm_11 FU (ovr noO (evFn sm_11 fns FU 1)) .nil ir41_b0) (St.norm ir41_v0) m (T_11_41_0_0 p0 p1 p2 p3) k = Sp.B_11_41_0_0 (Sp.L_11_41_0_0 m p0 p1 p2 p3) (fun p2 p3 => k Ex.ret (X_11_41_0_0_0 p2 p3)) (fun p3 => k (Ex.exit (0 : Nat)) (X_11_41_0_0_1 p3))
  | 0, _, _, _, _ => rfl
  | m + 1, p0, p1, p2, p3 => by
    rw [evLoopN_succ, body_11_41_0_0, Sp.L_11_41_0_0]
    repeat' first | apply Bgd_11_41_0_0 | apply Bcond_11_41_0_0 | exact loop_11_41_0_0 k m _ _ _ _ | rfl
theorem ok_11_41_0_0 {R : Type} (T : St) (k : Ex → St → Option R) (r : R) (h0 : o_11_41_0_0 G_11_41_0_0 T k = some r) : evLoopN (evCode sm_11 FU (evFn sm_11 fns FU 1) ir41_b0) (St.norm ir41_v0) FU T k = some r := by
  obtain ⟨p0, p1, p2, p3, rfl, h⟩ := o_11_41_0_0_inv h0
  refine evLoopN_L (t := .nil) noO_ok trivial _ _ _ _ ?_
  rw [loop_11_41_0_0]
  exact h
theorem OK_11_41_0 {R : Type} (T : St) (k : Ex → St → Option R) (r : R) (h : O_11_41_0 T k = some r) : evLoopN (evCode sm_11 FU (evFn sm_11 fns FU 1) ir41_b0) (St.norm ir41_v0) FU T k = some r := ok_11_41_0_0 T k r h
theorem g_11_41_ok {R : Type} (args : List CV) (hp : List Blk) (k : CV → List Blk → Option R) (r : R) (h : g_11_41 args hp k = some r) : evFn sm_11 fns FU 2 41 args hp k = some r :=
  evFnL_sound (fn := ir41) (t := (ir41_t O_11_41_0)) (o := noO) rfl noO_ok (ir41_tok (fun T k r => OK_11_41_0 T k r)) h
theorem ov_11_27_ok {R : Type} : OvrOK (R := R) (fun f' => bif Nat.beq f' 41 then some (g_11_41) else none) (evFn sm_11 fns FU 2) := by
  intro f' g h args hp k r hg
  dsimp only at h
  by_cases h41 : f' = 41
  · subst h41
    injection h with h
    subst h
    exact evFn_le 0 (g_11_41_ok _ _ _ _ hg)
  rw [nbeq_ne h41, cond_false] at h
  cases h
theorem g_11_27_ok {R : Type} (args : List CV) (hp : List Blk) (k : CV → List Blk → Option R) (r : R) (h : g_11_27 args hp k = some r) : evFn sm_11 fns FU 3 27 args hp k = some r :=
  evFnL_sound (fn := ir27) (t := .nil) (o := (fun f' => bif Nat.beq f' 41 then some (g_11_41) else none)) rfl ov_11_27_ok trivial h
theorem ov_11_11_ok {R : Type} : OvrOK (R := R) (fun f' => bif Nat.beq f' 27 then some (g_11_27) else none) (evFn sm_11 fns FU 3) := by
  intro f' g h args hp k r hg
  dsimp only at h
  by_cases h27 : f' = 27
  · subst h27
    injection h with h
    subst h
    exact evFn_le 0 (g_11_27_ok _ _ _ _ hg)
  rw [nbeq_ne h27, cond_false] at h
  cases h
def F_11 (a0 : (List (Int × (Int × (Int × (Int × (Int × (Int × (Bool × (Int × Unit)))))))))) : Option (((List (Int × (Int × (Int × (Int × (Int × (Int × (Bool × (Int × Unit))))))))) × ((List (Int × (Int × (Int × (Int × (Int × ((List Int) × (Int × Unit)))))))) × (Int × (Bool × Unit)))) × Int × Unit) :=
  bif decide ((↑(List.length a0) : Int) > (64 : Int)) then some (([], [], (0 : Int), false, PUnit.unit), (5 : Int), PUnit.unit) else Sp.B_11_41_0_0 (Sp.L_11_41_0_0 (4611686018427387904 : Nat) a0 (↑(List.length a0) : Int) (0 : Int) ((0 : Int), false, PUnit.unit)) (fun (y7 : Int) (y8 : Int × Bool × PUnit) => bif decide (y7 ≥ (0 : Int)) then some (([], [], (0 : Int), false, PUnit.unit), (1 : Int), PUnit.unit) else bif !Sp.dst (List.map (fun (y9 : Ty.den CfgTy) => y9.1) a0) then some (([], [], (0 : Int), false, PUnit.unit), (8 : Int), PUnit.unit) else gd (room (List.length a0) (64 : Nat)) (gd ((↑(List.length a0) : Int) == (↑(List.length a0) : Int) && room (Int.toNat (↑(List.length a0) : Int)) (72 : Nat)) (some ((a0, List.replicate (Int.toNat (↑(List.length a0) : Int)) Zd1, (0 : Int), false, PUnit.unit), (0 : Int), PUnit.unit)))) fun (y10 : Int × Bool × PUnit) => bif !Sp.dst (List.map (fun (y11 : Ty.den CfgTy) => y11.1) a0) then some (([], [], (0 : Int), false, PUnit.unit), (8 : Int), PUnit.unit) else gd (room (List.length a0) (64 : Nat)) (gd ((↑(List.length a0) : Int) == (↑(List.length a0) : Int) && room (Int.toNat (↑(List.length a0) : Int)) (72 : Nat)) (some ((a0, List.replicate (Int.toNat (↑(List.length a0) : Int)) Zd1, (0 : Int), false, PUnit.unit), (0 : Int), PUnit.unit)))
theorem fn_11 (a0 : (List (Int × (Int × (Int × (Int × (Int × (Int × (Bool × (Int × Unit)))))))))) : evFnL sm_11 FU (ovr (fun f' => bif Nat.beq f' 27 then some (g_11_27) else none) (evFn sm_11 fns FU 3)) .nil ir11 (ofH [Zy11_3] (a0, ())) [] (pureK [Zy11_0, (.int .i64)]) = F_11 a0 := by kernel_rfl
def Sp.p_11 (a0 : (List (Int × (Int × (Int × (Int × (Int × (Int × (Bool × (Int × Unit)))))))))) : Bool := (F_11 a0).isSome
def Sp.v_11 (a0 : (List (Int × (Int × (Int × (Int × (Int × (Int × (Bool × (Int × Unit)))))))))) : ((List (Int × (Int × (Int × (Int × (Int × (Int × (Bool × (Int × Unit))))))))) × ((List (Int × (Int × (Int × (Int × (Int × ((List Int) × (Int × Unit)))))))) × (Int × (Bool × Unit)))) × Int × Unit := (F_11 a0).getD (dfH [Zy11_0, (.int .i64)])
def s_11 : Summ := shS [Zy11_3] [Zy11_0, (.int .i64)] (fun x => Sp.p_11 x.1) (fun x => Sp.v_11 x.1)
theorem run_11 (x : HDen [Zy11_3]) (y : HDen [Zy11_0, (.int .i64)]) (h : F_11 x.1 = some y) : evFn sm_11 fns FU 4 11 (ofH [Zy11_3] x) [] (pureK [Zy11_0, (.int .i64)]) = some y :=
  evFnL_sound (fn := ir11) (t := .nil) (o := (fun f' => bif Nat.beq f' 27 then some (g_11_27) else none)) rfl ov_11_11_ok trivial ((fn_11 _).trans h)
end
end Go.Ev
namespace Go.Ev
open Go
set_option maxRecDepth 100000
set_option maxHeartbeats 4000000
set_option linter.unusedVariables false
noncomputable section

def sm_50 : Nat → Option Summ := fun f => bif Nat.beq f 25 then some s_25 else none


def F_50 (a0 : Int) : Option (Bool × Unit) :=
  gd (Sp.p_25 a0 (-1099511627776 : Int) (1099511627776 : Int)) (some ((Sp.v_25 a0 (-1099511627776 : Int) (1099511627776 : Int)).1, PUnit.unit))
theorem fn_50 (a0 : Int) : evFnL sm_50 FU (ovr noO (evFn sm_50 fns FU 0)) .nil ir50 (ofH [(.int .i64)] (a0, ())) [] (pureK [.bool]) = F_50 a0 := by kernel_rfl
def Sp.p_50 (a0 : Int) : Bool := (F_50 a0).isSome
def Sp.v_50 (a0 : Int) : Bool × Unit := (F_50 a0).getD (dfH [.bool])
def s_50 : Summ := shN [(.int .i64)] [.bool] (fun x => Sp.p_50 x.1) (fun x => Sp.v_50 x.1)
theorem pv_50 (a0 : Int) {y : Bool × Unit} (h : F_50 a0 = some y) : Sp.p_50 a0 = true ∧ Sp.v_50 a0 = y := ⟨by rw [Sp.p_50, h]; rfl, by rw [Sp.v_50, h]; rfl⟩
theorem run_50 (x : HDen [(.int .i64)]) (y : HDen [.bool]) (h : F_50 x.1 = some y) : evFn sm_50 fns FU 1 50 (ofH [(.int .i64)] x) [] (pureK [.bool]) = some y :=
  evFnL_sound (fn := ir50) (t := .nil) (o := noO) rfl noO_ok trivial ((fn_50 _).trans h)
end
end Go.Ev
namespace Go.Ev
open Go
set_option maxRecDepth 100000
set_option maxHeartbeats 4000000
set_option linter.unusedVariables false
noncomputable section
abbrev Zt36_0 : Type := Int × Int × Int × Int × Int × Int × Bool × Int × PUnit
abbrev Zy36_1 : Ty := (Ty.pair (Ty.int IntKind.i64) (Ty.pair (Ty.int IntKind.i64) (Ty.pair (Ty.int IntKind.i64) (Ty.pair (Ty.int IntKind.i64) (Ty.pair (Ty.int IntKind.i64) (Ty.pair (Ty.int IntKind.i64) (Ty.pair Ty.bool (Ty.pair (Ty.int IntKind.i64) Ty.unit))))))))
abbrev Zy36_2 : Ty := (.pair (.int .i64) (.pair (.int .i64) (.pair (.int .i64) (.pair (.int .i64) (.pair (.int .i64) (.pair (.int .i64) (.pair .bool (.pair (.int .i64) .unit))))))))

def sm_36 : Nat → Option Summ := fun f => bif Nat.beq f 50 then some s_50 else none
def T_36_52_0_0 (p0 : List Int) (p1 : Int) (p2 : Int) (p3 : Zt36_0) : St := St.mk ([CV.pure (Ty.slice (Ty.int IntKind.i64)) p0, CV.clo (49 : Nat) (CV.pure Ty.unit PUnit.unit), jk, jk, jk, jk, jk, CV.int IntKind.i64 p1, CV.int IntKind.i64 p2] ++ (jl 10)) [Blk.mem (CV.pure Zy36_1 p3)] (1 : Nat)
def X_36_52_0_0_0 (p2 : Int) (p3 : Zt36_0) : St := St.mk ([jk, jk, jk, jk, CV.int IntKind.i64 p2] ++ (jl 14)) [Blk.mem (CV.pure Zy36_1 p3)] (1 : Nat)
def X_36_52_0_0_1 (p3 : Zt36_0) : St := St.mk (jl 19) [Blk.mem (CV.pure Zy36_1 p3)] (1 : Nat)
inductive Sp.E_36_52_0_0 where
  | e0 (p2 : Int) (p3 : Zt36_0)
  | e1 (p3 : Zt36_0)
def Sp.B_36_52_0_0 {R : Type} (r : Option Sp.E_36_52_0_0) (k0 : (Int) → (Zt36_0) → Option R) (k1 : (Zt36_0) → Option R) : Option R := match r with
  | none => none
  | some (.e0 p2 p3) => k0 p2 p3
  | some (.e1 p3) => k1 p3
def Sp.L_36_52_0_0 : Nat → (List Int) → (Int) → (Int) → (Int × Int × Int × Int × Int × Int × Bool × Int × PUnit) → Option Sp.E_36_52_0_0
  | 0, _, _, _, _ => none
  | m + 1, p0, p1, p2, p3 => bif decide (p2 < p1) then gd (inB p2 (List.length p0)) (gd (Sp.p_50 (List.getD p0 (Int.toNat p2) (0 : Int))) (bif !(Sp.v_50 (List.getD p0 (Int.toNat p2) (0 : Int))).1 then some (Sp.E_36_52_0_0.e0 p2 p3) else Sp.L_36_52_0_0 m p0 p1 (IntKind.wrap IntKind.i64 (p2 + (1 : Int))) p3)) else some (Sp.E_36_52_0_0.e1 p3)
def G_36_52_0_0 {R : Type} (p0 : List Int) (p1 : Int) (p2 : Int) (p3 : Zt36_0) (k : Ex → St → Option R) : Option R := Sp.B_36_52_0_0 (Sp.L_36_52_0_0 FU p0 p1 p2 p3) (fun p2 p3 => k Ex.ret (X_36_52_0_0_0 p2 p3)) (fun p3 => k (Ex.exit (0 : Nat)) (X_36_52_0_0_1 p3))
def o_36_52_0_0 {R : Type} (G : (List Int) → (Int) → (Int) → (Zt36_0) → (Ex → St → Option R) → Option R) : St → (Ex → St → Option R) → Option R := fun T k => match T.sl.getD 0 .junk, T.sl.getD 1 .junk, T.sl.getD 7 .junk, T.sl.getD 8 .junk, T.hp with
  | CV.pure (Ty.slice (Ty.int IntKind.i64)) p0, CV.clo (49 : Nat) (CV.pure Ty.unit PUnit.unit), CV.int IntKind.i64 p1, CV.int IntKind.i64 p2, ((Blk.mem (CV.pure (Ty.pair (Ty.int IntKind.i64) (Ty.pair (Ty.int IntKind.i64) (Ty.pair (Ty.int IntKind.i64) (Ty.pair (Ty.int IntKind.i64) (Ty.pair (Ty.int IntKind.i64) (Ty.pair (Ty.int IntKind.i64) (Ty.pair Ty.bool (Ty.pair (Ty.int IntKind.i64) Ty.unit)))))))) p3)) :: []) => gd (shapeOK T 19 [0, 1, 7, 8] (1 : Nat)) (G p0 p1 p2 p3 k)
  | _, _, _, _, _ => none
theorem o_36_52_0_0_inv {R : Type} {G : (List Int) → (Int) → (Int) → (Zt36_0) → (Ex → St → Option R) → Option R} {T : St} {k : Ex → St → Option R} {r : R} (h : o_36_52_0_0 G T k = some r) : ∃ p0 p1 p2 p3, T = T_36_52_0_0 p0 p1 p2 p3 ∧ G p0 p1 p2 p3 k = some r := by
  unfold o_36_52_0_0 at h
  split at h
  · obtain ⟨hs, h'⟩ := gd_some h
    refine ⟨_, _, _, _, (st_of (asg := [(0, _), (1, _), (7, _), (8, _)]) hs ⟨by assumption, by assumption, by assumption, by assumption, trivial⟩ (by assumption)).trans ?_, h'⟩
    kernel_rfl
  · cases h
def O_36_52_0 {R : Type} : St → (Ex → St → Option R) → Option R := fun T k => o_36_52_0_0 G_36_52_0_0 T k
def g_36_52 {R : Type} : List CV → List Blk → (CV → List Blk → Option R) → Option R := evFnL sm_36 FU (ovr noO (evFn sm_36 fns FU 1)) (ir52_t O_36_52_0) ir52
def g_36_48 {R : Type} : List CV → List Blk → (CV → List Blk → Option R) → Option R := evFnL sm_36 FU (ovr (fun f' => bif Nat.beq f' 52 then some (g_36_52) else none) (evFn sm_36 fns FU 2)) .nil ir48
theorem body_36_52_0_0 {R : Type} (K0 : St → Option R) (K1 : Ex → St → Option R) (p0 : List Int) (p1 : Int) (p2 : Int) (p3 : Zt36_0) : evLB (evCodeL sm_36 FU (ovr noO (evFn sm_36 fns FU 1)) .nil ir52_b0) (St.norm ir52_v0) (T_36_52_0_0 p0 p1 p2 p3) K0 K1 =
  bif decide (p2 < p1) then gd (inB p2 (List.length p0)) (gd (Sp.p_50 (List.getD p0 (Int.toNat p2) (0 : Int))) (bif !(Sp.v_50 (List.getD p0 (Int.toNat p2) (0 : Int))).1 then K1 Ex.ret (X_36_52_0_0_0 p2 p3) else K0 (T_36_52_0_0 p0 p1 (IntKind.wrap IntKind.i64 (p2 + (1 : Int))) p3))) else K1 (Ex.exit (0 : Nat)) (X_36_52_0_0_1 p3) := by kernel_rfl
theorem Bgd_36_52_0_0 {R : Type} {c : Bool} {x : Option R} {y : Option Sp.E_36_52_0_0} {k0 : (Int) → (Zt36_0) → Option R} {k1 : (Zt36_0) → Option R} (h : x = Sp.B_36_52_0_0 y k0 k1) : gd c x = Sp.B_36_52_0_0 (gd c y) k0 k1 := by cases c; rfl; exact h
theorem Bcond_36_52_0_0 {R : Type} {c : Bool} {x x' : Option R} {y y' : Option Sp.E_36_52_0_0} {k0 : (Int) → (Zt36_0) → Option R} {k1 : (Zt36_0) → Option R} (h : x = Sp.B_36_52_0_0 y k0 k1) (h' : x' = Sp.B_36_52_0_0 y' k0 k1) : (bif c then x else x') = Sp.B_36_52_0_0 (bif c then y else y') k0 k1 := by cases c; exact h'; exact h
theorem loop_36_52_0_0 {R : Type} (k : Ex → St → Option R) : ∀ (m : Nat) (p0 : List Int) (p1 : Int) (p2 : Int) (p3 : Zt36_0), evLoopN (evCodeL sm_36 FU (ovr noO (evFn sm_36 fns FU 1)) .nil ir52_b0) (St.norm ir52_v0) m (T_36_52_0_0 p0 p1 p2 p3) k = Sp.B_36_52_0_0 (Sp.L_36_52_0_0 m p0 p1 p2 p3) (fun p2 p3 => k Ex.ret (X_36_52_0_0_0 p2 p3)) (fun p3 => k (Ex.exit (0 : Nat)) (X_36_52_0_0_1 p3))
  | 0, _, _, _, _ => rfl
  | m + 1, p0, p1, p2, p3 => by
    rw [evLoopN_succ, body_36_52_0_0, Sp.L_36_52_0_0]
    repeat' first | apply Bgd_36_52_0_0 | apply Bcond_36_52_0_0 | exact loop_36_52_0_0 k m _ _ _ _ | rfl
theorem ok_36_52_0_0 {R : Type} (T : St) (k : Ex → St → Option R) (r : R) (h0 : o_36_52_0_0 G_36_52_0_0 T k = some r) : evLoopN (evCode sm_36 FU (evFn sm_36 fns FU 1) ir52_b0) (St.norm ir52_v0) FU T k = some r := by
  obtain ⟨p0, p1, p2, p3, rfl, h⟩ := o_36_52_0_0_inv h0
  refine evLoopN_L (t := .nil) noO_ok trivial _ _ _ _ ?_
  rw [loop_36_52_0_0]
  exact h
theorem OK_36_52_0 {R : Type} (T : St) (k : Ex → St → Option R) (r : R) (h : O_36_52_0 T k = some r) : evLoopN (evCode sm_36 FU (evFn sm_36 fns FU 1) ir52_b0) (St.norm ir52_v0) FU T k = some r := ok_36_52_0_0 T k r h
theorem g_36_52_ok {R : Type} (args : List CV) (hp : List Blk) (k : CV → List Blk → Option R) (r : R) (h : g_36_52 args hp k = some r) : evFn sm_36 fns FU 2 52 args hp k = some r :=
  evFnL_sound (fn := ir52) (t := (ir52_t O_36_52_0)) (o := noO) rfl noO_ok (ir52_tok (fun T k r => OK_36_52_0 T k r)) h
theorem ov_36_48_ok {R : Type} : OvrOK (R := R) (fun f' => bif Nat.beq f' 52 then some (g_36_52) else none) (evFn sm_36 fns FU 2) := by
  intro f' g h args hp k r hg
  dsimp only at h
  by_cases h52 : f' = 52
  · subst h52
    injection h with h
    subst h
    exact evFn_le 0 (g_36_52_ok _ _ _ _ hg)
  rw [nbeq_ne h52, cond_false] at h
  cases h
theorem g_36_48_ok {R : Type} (args : List CV) (hp : List Blk) (k : CV → List Blk → Option R) (r : R) (h : g_36_48 args hp k = some r) : evFn sm_36 fns FU 3 48 args hp k = some r :=
  evFnL_sound (fn := ir48) (t := .nil) (o := (fun f' => bif Nat.beq f' 52 then some (g_36_52) else none)) rfl ov_36_48_ok trivial h
theorem ov_36_36_ok {R : Type} : OvrOK (R := R) (fun f' => bif Nat.beq f' 48 then some (g_36_48) else none) (evFn sm_36 fns FU 3) := by
  intro f' g h args hp k r hg
  dsimp only at h
  by_cases h48 : f' = 48
  · subst h48
    injection h with h
    subst h
    exact evFn_le 0 (g_36_48_ok _ _ _ _ hg)
  rw [nbeq_ne h48, cond_false] at h
  cases h
def F_36 (a0 : (Int × (Int × (Int × (Int × (Int × (Int × (Bool × (Int × Unit))))))))) (a1 : (List Int)) : Option (Bool × Unit) :=
  bif (↑(List.length a1) : Int) == a0.2.2.2.2.2.2.2.1 then Sp.B_36_52_0_0 (Sp.L_36_52_0_0 (4611686018427387904 : Nat) a1 (↑(List.length a1) : Int) (0 : Int) a0) (fun (y3 : Int) (y4 : Int × Int × Int × Int × Int × Int × Bool × Int × PUnit) => some (!decide (y3 ≥ (0 : Int)), PUnit.unit)) fun (y5 : Int × Int × Int × Int × Int × Int × Bool × Int × PUnit) => some (true, PUnit.unit) else some (false, PUnit.unit)
theorem fn_36 (a0 : (Int × (Int × (Int × (Int × (Int × (Int × (Bool × (Int × Unit))))))))) (a1 : (List Int)) : evFnL sm_36 FU (ovr (fun f' => bif Nat.beq f' 48 then some (g_36_48) else none) (evFn sm_36 fns FU 3)) .nil ir36 (ofH [Zy36_2, (.slice (.int .i64))] (a0, a1, ())) [] (pureK [.bool]) = F_36 a0 a1 := by kernel_rfl
def Sp.p_36 (a0 : (Int × (Int × (Int × (Int × (Int × (Int × (Bool × (Int × Unit))))))))) (a1 : (List Int)) : Bool := (F_36 a0 a1).isSome
def Sp.v_36 (a0 : (Int × (Int × (Int × (Int × (Int × (Int × (Bool × (Int × Unit))))))))) (a1 : (List Int)) : Bool × Unit := (F_36 a0 a1).getD (dfH [.bool])
def s_36 : Summ := shN [Zy36_2, (.slice (.int .i64))] [.bool] (fun x => Sp.p_36 x.1 x.2.1) (fun x => Sp.v_36 x.1 x.2.1)
theorem pv_36 (a0 : (Int × (Int × (Int × (Int × (Int × (Int × (Bool × (Int × Unit))))))))) (a1 : (List Int)) {y : Bool × Unit} (h : F_36 a0 a1 = some y) : Sp.p_36 a0 a1 = true ∧ Sp.v_36 a0 a1 = y := ⟨by rw [Sp.p_36, h]; rfl, by rw [Sp.v_36, h]; rfl⟩
theorem run_36 (x : HDen [Zy36_2, (.slice (.int .i64))]) (y : HDen [.bool]) (h : F_36 x.1 x.2.1 = some y) : evFn sm_36 fns FU 4 36 (ofH [Zy36_2, (.slice (.int .i64))] x) [] (pureK [.bool]) = some y :=
  evFnL_sound (fn := ir36) (t := .nil) (o := (fun f' => bif Nat.beq f' 48 then some (g_36_48) else none)) rfl ov_36_36_ok trivial ((fn_36 _ _).trans h)
end
end Go.Ev
namespace Go.Ev
open Go
set_option maxRecDepth 100000
set_option maxHeartbeats 4000000
set_option linter.unusedVariables false
noncomputable section

def sm_40 : Nat → Option Summ := fun f => none


def F_40 (a0 : (Int × (Int × (Int × (Int × (Int × ((List Int) × (Int × Unit)))))))) (a1 : Int) : Option (Bool × Unit) :=
  some (Sp.andI IntKind.i64 (a0.1) a1 == a1, PUnit.unit)
theorem fn_40 (a0 : (Int × (Int × (Int × (Int × (Int × ((List Int) × (Int × Unit)))))))) (a1 : Int) : evFnL sm_40 FU (ovr noO (evFn sm_40 fns FU 0)) .nil ir40 (ofH [(.pair (.int .i64) (.pair (.int .i64) (.pair (.int .i64) (.pair (.int .i64) (.pair (.int .i64) (.pair (.slice (.int .i64)) (.pair (.int .i64) .unit))))))), (.int .i64)] (a0, a1, ())) [] (pureK [.bool]) = F_40 a0 a1 := by kernel_rfl
def Sp.p_40 (a0 : (Int × (Int × (Int × (Int × (Int × ((List Int) × (Int × Unit)))))))) (a1 : Int) : Bool := (F_40 a0 a1).isSome
def Sp.v_40 (a0 : (Int × (Int × (Int × (Int × (Int × ((List Int) × (Int × Unit)))))))) (a1 : Int) : Bool × Unit := (F_40 a0 a1).getD (dfH [.bool])
def s_40 : Summ := shN [(.pair (.int .i64) (.pair (.int .i64) (.pair (.int .i64) (.pair (.int .i64) (.pair (.int .i64) (.pair (.slice (.int .i64)) (.pair (.int .i64) .unit))))))), (.int .i64)] [.bool] (fun x => Sp.p_40 x.1 x.2.1) (fun x => Sp.v_40 x.1 x.2.1)
theorem pv_40 (a0 : (Int × (Int × (Int × (Int × (Int × ((List Int) × (Int × Unit)))))))) (a1 : Int) {y : Bool × Unit} (h : F_40 a0 a1 = some y) : Sp.p_40 a0 a1 = true ∧ Sp.v_40 a0 a1 = y := ⟨by rw [Sp.p_40, h]; rfl, by rw [Sp.v_40, h]; rfl⟩
theorem run_40 (x : HDen [(.pair (.int .i64) (.pair (.int .i64) (.pair (.int .i64) (.pair (.int .i64) (.pair (.int .i64) (.pair (.slice (.int .i64)) (.pair (.int .i64) .unit))))))), (.int .i64)]) (y : HDen [.bool]) (h : F_40 x.1 x.2.1 = some y) : evFn sm_40 fns FU 1 40 (ofH [(.pair (.int .i64) (.pair (.int .i64) (.pair (.int .i64) (.pair (.int .i64) (.pair (.int .i64) (.pair (.slice (.int .i64)) (.pair (.int .i64) .unit))))))), (.int .i64)] x) [] (pureK [.bool]) = some y :=
  evFnL_sound (fn := ir40) (t := .nil) (o := noO) rfl noO_ok trivial ((fn_40 _ _).trans h)
end
end Go.Ev
namespace Go.Ev
open Go
set_option maxRecDepth 100000
set_option maxHeartbeats 4000000
set_option linter.unusedVariables false
noncomputable section

def sm_43 : Nat → Option Summ := fun f => none


def F_43 (a0 : (Int × (Int × (Int × (Int × (Int × ((List Int) × (Int × Unit)))))))) : Option (Bool × Unit) :=
  some (Sp.andI IntKind.i64 (a0.1) (6 : Int) != (0 : Int), PUnit.unit)
theorem fn_43 (a0 : (Int × (Int × (Int × (Int × (Int × ((List Int) × (Int × Unit)))))))) : evFnL sm_43 FU (ovr noO (evFn sm_43 fns FU 0)) .nil ir43 (ofH [(.pair (.int .i64) (.pair (.int .i64) (.pair (.int .i64) (.pair (.int .i64) (.pair (.int .i64) (.pair (.slice (.int .i64)) (.pair (.int .i64) .unit)))))))] (a0, ())) [] (pureK [.bool]) = F_43 a0 := by kernel_rfl
def Sp.p_43 (a0 : (Int × (Int × (Int × (Int × (Int × ((List Int) × (Int × Unit)))))))) : Bool := (F_43 a0).isSome
def Sp.v_43 (a0 : (Int × (Int × (Int × (Int × (Int × ((List Int) × (Int × Unit)))))))) : Bool × Unit := (F_43 a0).getD (dfH [.bool])
def s_43 : Summ := shN [(.pair (.int .i64) (.pair (.int .i64) (.pair (.int .i64) (.pair (.int .i64) (.pair (.int .i64) (.pair (.slice (.int .i64)) (.pair (.int .i64) .unit)))))))] [.bool] (fun x => Sp.p_43 x.1) (fun x => Sp.v_43 x.1)
theorem pv_43 (a0 : (Int × (Int × (Int × (Int × (Int × ((List Int) × (Int × Unit)))))))) {y : Bool × Unit} (h : F_43 a0 = some y) : Sp.p_43 a0 = true ∧ Sp.v_43 a0 = y := ⟨by rw [Sp.p_43, h]; rfl, by rw [Sp.v_43, h]; rfl⟩
theorem run_43 (x : HDen [(.pair (.int .i64) (.pair (.int .i64) (.pair (.int .i64) (.pair (.int .i64) (.pair (.int .i64) (.pair (.slice (.int .i64)) (.pair (.int .i64) .unit)))))))]) (y : HDen [.bool]) (h : F_43 x.1 = some y) : evFn sm_43 fns FU 1 43 (ofH [(.pair (.int .i64) (.pair (.int .i64) (.pair (.int .i64) (.pair (.int .i64) (.pair (.int .i64) (.pair (.slice (.int .i64)) (.pair (.int .i64) .unit)))))))] x) [] (pureK [.bool]) = some y :=
  evFnL_sound (fn := ir43) (t := .nil) (o := noO) rfl noO_ok trivial ((fn_43 _).trans h)
end
end Go.Ev
namespace Go.Ev
open Go
set_option maxRecDepth 100000
set_option maxHeartbeats 4000000
set_option linter.unusedVariables false
noncomputable section
abbrev Zt32_0 : Type := Int × Int × Int × Int × Int × List Int × Int × PUnit
abbrev Zt32_1 : Type := Int × Int × Int × Int × Int × Int × Bool × Int × PUnit
abbrev Zy32_2 : Ty := (Ty.pair (Ty.int IntKind.i64) (Ty.pair (Ty.int IntKind.i64) (Ty.pair (Ty.int IntKind.i64) (Ty.pair (Ty.int IntKind.i64) (Ty.pair (Ty.int IntKind.i64) (Ty.pair (Ty.slice (Ty.int IntKind.i64)) (Ty.pair (Ty.int IntKind.i64) Ty.unit)))))))
abbrev Zy32_3 : Ty := (Ty.pair (Ty.int IntKind.i64) (Ty.pair (Ty.int IntKind.i64) (Ty.pair (Ty.int IntKind.i64) (Ty.pair (Ty.int IntKind.i64) (Ty.pair (Ty.int IntKind.i64) (Ty.pair (Ty.int IntKind.i64) (Ty.pair Ty.bool (Ty.pair (Ty.int IntKind.i64) Ty.unit))))))))
abbrev Zy32_4 : Ty := (.pair (.int .i64) (.pair (.int .i64) (.pair (.int .i64) (.pair (.int .i64) (.pair (.int .i64) (.pair (.int .i64) (.pair .bool (.pair (.int .i64) .unit))))))))
abbrev Zy32_5 : Ty := (.pair (.int .i64) (.pair (.int .i64) (.pair (.int .i64) (.pair (.int .i64) (.pair (.int .i64) (.pair (.slice (.int .i64)) (.pair (.int .i64) .unit)))))))

def sm_32 : Nat → Option Summ := fun f => bif Nat.beq f 25 then some s_25 else bif Nat.beq f 36 then some s_36 else bif Nat.beq f 40 then some s_40 else bif Nat.beq f 43 then some s_43 else none
def T_32_3 (p0 : Zt32_1) (p1 : Zt32_0) : St := St.mk ([jk, jk, jk, CV.ptr (0 : Nat) [], CV.ptr (1 : Nat) []] ++ (jl 148)) [Blk.mem (CV.pure Zy32_3 p0), Blk.mem (CV.pure Zy32_2 p1)] (0 : Nat)
def X_32_3_0 (p0 : Zt32_1) (p1 : Zt32_0) : St := St.mk (jl 6 ++ ([CV.bool ((↑(List.length (p1.2.2.2.2.2.1)) : Int) == p0.2.2.2.2.2.2.2.1)] ++ (jl 146))) [] (0 : Nat)
def X_32_3_1 : St := St.mk (jl 6 ++ ([CV.bool false] ++ (jl 146))) [] (0 : Nat)
def X_32_3_2 (p0 : Zt32_1) (p1 : Zt32_0) : St := St.mk ([jk, jk, jk, CV.ptr (0 : Nat) [], CV.ptr (1 : Nat) []] ++ (jl 100 ++ ([CV.bool false, CV.pure Zy32_2 p1, CV.bool ((Sp.v_43 p1).1)] ++ (jl 45)))) [Blk.mem (CV.pure Zy32_3 p0), Blk.mem (CV.pure Zy32_2 p1)] (0 : Nat)
inductive Sp.E_32_3 where
  | e0 (p0 : Zt32_1) (p1 : Zt32_0)
  | e1
  | e2 (p0 : Zt32_1) (p1 : Zt32_0)
def Sp.B_32_3 {R : Type} (r : Option Sp.E_32_3) (k0 : (Zt32_1) → (Zt32_0) → Option R) (k1 : Option R) (k2 : (Zt32_1) → (Zt32_0) → Option R) : Option R := match r with
  | none => none
  | some (.e0 p0 p1) => k0 p0 p1
  | some (.e1) => k1
  | some (.e2 p0 p1) => k2 p0 p1
def Sp.J_32_3 (p0 : Int × Int × Int × Int × Int × Int × Bool × Int × PUnit) (p1 : Int × Int × Int × Int × Int × List Int × Int × PUnit) : Option Sp.E_32_3 :=
  gd (Sp.p_43 p1) (bif (Sp.v_43 p1).1 then bif decide (p1.2.2.2.2.1 ≥ (1 : Int)) then bif decide (p1.2.2.1 ≥ (1 : Int)) then bif decide (p1.2.2.2.2.2.2.1 ≥ (1 : Int)) then some (Sp.E_32_3.e0 p0 p1) else some (Sp.E_32_3.e1) else some (Sp.E_32_3.e1) else some (Sp.E_32_3.e1) else some (Sp.E_32_3.e2 p0 p1))
def G_32_3 {R : Type} (p0 : Zt32_1) (p1 : Zt32_0) (k : Ex → St → Option R) : Option R := Sp.B_32_3 (Sp.J_32_3 p0 p1) (fun p0 p1 => k Ex.ret (X_32_3_0 p0 p1)) (k Ex.ret (X_32_3_1)) (fun p0 p1 => k Ex.normal (X_32_3_2 p0 p1))
def o_32_3 {R : Type} (G : (Zt32_1) → (Zt32_0) → (Ex → St → Option R) → Option R) : St → (Ex → St → Option R) → Option R := fun T k => match T.sl.getD 3 .junk, T.sl.getD 4 .junk, T.hp with
  | CV.ptr (0 : Nat) [], CV.ptr (1 : Nat) [], ((Blk.mem (CV.pure (Ty.pair (Ty.int IntKind.i64) (Ty.pair (Ty.int IntKind.i64) (Ty.pair (Ty.int IntKind.i64) (Ty.pair (Ty.int IntKind.i64) (Ty.pair (Ty.int IntKind.i64) (Ty.pair (Ty.int IntKind.i64) (Ty.pair Ty.bool (Ty.pair (Ty.int IntKind.i64) Ty.unit)))))))) p0)) :: (Blk.mem (CV.pure (Ty.pair (Ty.int IntKind.i64) (Ty.pair (Ty.int IntKind.i64) (Ty.pair (Ty.int IntKind.i64) (Ty.pair (Ty.int IntKind.i64) (Ty.pair (Ty.int IntKind.i64) (Ty.pair (Ty.slice (Ty.int IntKind.i64)) (Ty.pair (Ty.int IntKind.i64) Ty.unit))))))) p1)) :: []) => gd (shapeOK T 153 [3, 4] (0 : Nat)) (G p0 p1 k)
  | _, _, _ => none
theorem o_32_3_inv {R : Type} {G : (Zt32_1) → (Zt32_0) → (Ex → St → Option R) → Option R} {T : St} {k : Ex → St → Option R} {r : R} (h : o_32_3 G T k = some r) : ∃ p0 p1, T = T_32_3 p0 p1 ∧ G p0 p1 k = some r := by
  unfold o_32_3 at h
  split at h
  · obtain ⟨hs, h'⟩ := gd_some h
    refine ⟨_, _, (st_of (asg := [(3, _), (4, _)]) hs ⟨by assumption, by assumption, trivial⟩ (by assumption)).trans ?_, h'⟩
    kernel_rfl
  · cases h
def T_32_2 (p0 : Zt32_1) (p1 : Zt32_0) : St := St.mk ([jk, jk, jk, CV.ptr (0 : Nat) [], CV.ptr (1 : Nat) []] ++ (jl 148)) [Blk.mem (CV.pure Zy32_3 p0), Blk.mem (CV.pure Zy32_2 p1)] (0 : Nat)
def X_32_2_0 : St := St.mk (jl 6 ++ ([CV.bool false] ++ (jl 146))) [] (0 : Nat)
def X_32_2_1 (y8 : Zt32_1) (y9 : Zt32_0) : St := St.mk (jl 6 ++ ([CV.bool ((↑(List.length (y9.2.2.2.2.2.1)) : Int) == y8.2.2.2.2.2.2.2.1)] ++ (jl 146))) [] (0 : Nat)
def X_32_2_2 (y10 : Zt32_1) (y11 : Zt32_0) : St := St.mk ([jk, jk, jk, CV.ptr (0 : Nat) [], CV.ptr (1 : Nat) []] ++ (jl 100 ++ ([CV.bool false, CV.pure Zy32_2 y11, CV.bool ((Sp.v_43 y11).1)] ++ (jl 45)))) [Blk.mem (CV.pure Zy32_3 y10), Blk.mem (CV.pure Zy32_2 y11)] (0 : Nat)
inductive Sp.E_32_2 where
  | e0
  | e1 (y8 : Zt32_1) (y9 : Zt32_0)
  | e2 (y10 : Zt32_1) (y11 : Zt32_0)
def Sp.B_32_2 {R : Type} (r : Option Sp.E_32_2) (k0 : Option R) (k1 : (Zt32_1) → (Zt32_0) → Option R) (k2 : (Zt32_1) → (Zt32_0) → Option R) : Option R := match r with
  | none => none
  | some (.e0) => k0
  | some (.e1 y8 y9) => k1 y8 y9
  | some (.e2 y10 y11) => k2 y10 y11
def Sp.J_32_2 (p0 : Int × Int × Int × Int × Int × Int × Bool × Int × PUnit) (p1 : Int × Int × Int × Int × Int × List Int × Int × PUnit) : Option Sp.E_32_2 :=
  gd (Sp.p_40 p1 (2 : Int)) (bif (Sp.v_40 p1 (2 : Int)).1 then bif p1.2.2.2.1 != (0 : Int) then some (Sp.E_32_2.e0) else Sp.B_32_3 (Sp.J_32_3 p0 p1) (fun (y8 : Int × Int × Int × Int × Int × Int × Bool × Int × PUnit) (y9 : Int × Int × Int × Int × Int × List Int × Int × PUnit) => some (Sp.E_32_2.e1 y8 y9)) (some (Sp.E_32_2.e0)) fun (y10 : Int × Int × Int × Int × Int × Int × Bool × Int × PUnit) (y11 : Int × Int × Int × Int × Int × List Int × Int × PUnit) => some (Sp.E_32_2.e2 y10 y11) else Sp.B_32_3 (Sp.J_32_3 p0 p1) (fun (y12 : Int × Int × Int × Int × Int × Int × Bool × Int × PUnit) (y13 : Int × Int × Int × Int × Int × List Int × Int × PUnit) => some (Sp.E_32_2.e1 y12 y13)) (some (Sp.E_32_2.e0)) fun (y14 : Int × Int × Int × Int × Int × Int × Bool × Int × PUnit) (y15 : Int × Int × Int × Int × Int × List Int × Int × PUnit) => some (Sp.E_32_2.e2 y14 y15))
def G_32_2 {R : Type} (p0 : Zt32_1) (p1 : Zt32_0) (k : Ex → St → Option R) : Option R := Sp.B_32_2 (Sp.J_32_2 p0 p1) (k Ex.ret (X_32_2_0)) (fun y8 y9 => k Ex.ret (X_32_2_1 y8 y9)) (fun y10 y11 => k Ex.normal (X_32_2_2 y10 y11))
def o_32_2 {R : Type} (G : (Zt32_1) → (Zt32_0) → (Ex → St → Option R) → Option R) : St → (Ex → St → Option R) → Option R := fun T k => match T.sl.getD 3 .junk, T.sl.getD 4 .junk, T.hp with
  | CV.ptr (0 : Nat) [], CV.ptr (1 : Nat) [], ((Blk.mem (CV.pure (Ty.pair (Ty.int IntKind.i64) (Ty.pair (Ty.int IntKind.i64) (Ty.pair (Ty.int IntKind.i64) (Ty.pair (Ty.int IntKind.i64) (Ty.pair (Ty.int IntKind.i64) (Ty.pair (Ty.int IntKind.i64) (Ty.pair Ty.bool (Ty.pair (Ty.int IntKind.i64) Ty.unit)))))))) p0)) :: (Blk.mem (CV.pure (Ty.pair (Ty.int IntKind.i64) (Ty.pair (Ty.int IntKind.i64) (Ty.pair (Ty.int IntKind.i64) (Ty.pair (Ty.int IntKind.i64) (Ty.pair (Ty.int IntKind.i64) (Ty.pair (Ty.slice (Ty.int IntKind.i64)) (Ty.pair (Ty.int IntKind.i64) Ty.unit))))))) p1)) :: []) => gd (shapeOK T 153 [3, 4] (0 : Nat)) (G p0 p1 k)
  | _, _, _ => none
theorem o_32_2_inv {R : Type} {G : (Zt32_1) → (Zt32_0) → (Ex → St → Option R) → Option R} {T : St} {k : Ex → St → Option R} {r : R} (h : o_32_2 G T k = some r) : ∃ p0 p1, T = T_32_2 p0 p1 ∧ G p0 p1 k = some r := by
  unfold o_32_2 at h
  split at h
  · obtain ⟨hs, h'⟩ := gd_some h
    refine ⟨_, _, (st_of (asg := [(3, _), (4, _)]) hs ⟨by assumption, by assumption, trivial⟩ (by assumption)).trans ?_, h'⟩
    kernel_rfl
  · cases h
def T_32_1 (p0 : Zt32_1) (p1 : Zt32_0) : St := St.mk ([jk, jk, jk, CV.ptr (0 : Nat) [], CV.ptr (1 : Nat) []] ++ (jl 148)) [Blk.mem (CV.pure Zy32_3 p0), Blk.mem (CV.pure Zy32_2 p1)] (0 : Nat)
def X_32_1_0 : St := St.mk (jl 6 ++ ([CV.bool false] ++ (jl 146))) [] (0 : Nat)
def X_32_1_1 (y8 : Zt32_1) (y9 : Zt32_0) : St := St.mk (jl 6 ++ ([CV.bool ((↑(List.length (y9.2.2.2.2.2.1)) : Int) == y8.2.2.2.2.2.2.2.1)] ++ (jl 146))) [] (0 : Nat)
def X_32_1_2 (y10 : Zt32_1) (y11 : Zt32_0) : St := St.mk ([jk, jk, jk, CV.ptr (0 : Nat) [], CV.ptr (1 : Nat) []] ++ (jl 100 ++ ([CV.bool false, CV.pure Zy32_2 y11, CV.bool ((Sp.v_43 y11).1)] ++ (jl 45)))) [Blk.mem (CV.pure Zy32_3 y10), Blk.mem (CV.pure Zy32_2 y11)] (0 : Nat)
inductive Sp.E_32_1 where
  | e0
  | e1 (y8 : Zt32_1) (y9 : Zt32_0)
  | e2 (y10 : Zt32_1) (y11 : Zt32_0)
def Sp.B_32_1 {R : Type} (r : Option Sp.E_32_1) (k0 : Option R) (k1 : (Zt32_1) → (Zt32_0) → Option R) (k2 : (Zt32_1) → (Zt32_0) → Option R) : Option R := match r with
  | none => none
  | some (.e0) => k0
  | some (.e1 y8 y9) => k1 y8 y9
  | some (.e2 y10 y11) => k2 y10 y11
def Sp.J_32_1 (p0 : Int × Int × Int × Int × Int × Int × Bool × Int × PUnit) (p1 : Int × Int × Int × Int × Int × List Int × Int × PUnit) : Option Sp.E_32_1 :=
  gd (Sp.p_40 p1 (4 : Int)) (bif !(Sp.v_40 p1 (4 : Int)).1 == (p1.2.2.1 == (2 : Int)) then some (Sp.E_32_1.e0) else gd (Sp.p_40 p1 (16 : Int)) (bif (Sp.v_40 p1 (16 : Int)).1 then gd (Sp.p_40 p1 (4 : Int)) (bif !(Sp.v_40 p1 (4 : Int)).1 then some (Sp.E_32_1.e0) else bif !p0.2.2.2.2.2.2.1 then some (Sp.E_32_1.e0) else Sp.B_32_2 (Sp.J_32_2 p0 p1) (some (Sp.E_32_1.e0)) (fun (y8 : Int × Int × Int × Int × Int × Int × Bool × Int × PUnit) (y9 : Int × Int × Int × Int × Int × List Int × Int × PUnit) => some (Sp.E_32_1.e1 y8 y9)) fun (y10 : Int × Int × Int × Int × Int × Int × Bool × Int × PUnit) (y11 : Int × Int × Int × Int × Int × List Int × Int × PUnit) => some (Sp.E_32_1.e2 y10 y11)) else Sp.B_32_2 (Sp.J_32_2 p0 p1) (some (Sp.E_32_1.e0)) (fun (y12 : Int × Int × Int × Int × Int × Int × Bool × Int × PUnit) (y13 : Int × Int × Int × Int × Int × List Int × Int × PUnit) => some (Sp.E_32_1.e1 y12 y13)) fun (y14 : Int × Int × Int × Int × Int × Int × Bool × Int × PUnit) (y15 : Int × Int × Int × Int × Int × List Int × Int × PUnit) => some (Sp.E_32_1.e2 y14 y15)))
def G_32_1 {R : Type} (p0 : Zt32_1) (p1 : Zt32_0) (k : Ex → St → Option R) : Option R := Sp.B_32_1 (Sp.J_32_1 p0 p1) (k Ex.ret (X_32_1_0)) (fun y8 y9 => k Ex.ret (X_32_1_1 y8 y9)) (fun y10 y11 => k Ex.normal (X_32_1_2 y10 y11))
def o_32_1 {R : Type} (G : (Zt32_1) → (Zt32_0) → (Ex → St → Option R) → Option R) : St → (Ex → St → Option R) → Option R := fun T k => match T.sl.getD 3 .junk, T.sl.getD 4 .junk, T.hp with
  | CV.ptr (0 : Nat) [], CV.ptr (1 : Nat) [], ((Blk.mem (CV.pure (Ty.pair (Ty.int IntKind.i64) (Ty.pair (Ty.int IntKind.i64) (Ty.pair (Ty.int IntKind.i64) (Ty.pair (Ty.int IntKind.i64) (Ty.pair (Ty.int IntKind.i64) (Ty.pair (Ty.int IntKind.i64) (Ty.pair Ty.bool (Ty.pair (Ty.int IntKind.i64) Ty.unit)))))))) p0)) :: (Blk.mem (CV.pure (Ty.pair (Ty.int IntKind.i64) (Ty.pair (Ty.int IntKind.i64) (Ty.pair (Ty.int IntKind.i64) (Ty.pair (Ty.int IntKind.i64) (Ty.pair (Ty.int IntKind.i64) (Ty.pair (Ty.slice (Ty.int IntKind.i64)) (Ty.pair (Ty.int IntKind.i64) Ty.unit))))))) p1)) :: []) => gd (shapeOK T 153 [3, 4] (0 : Nat)) (G p0 p1 k)
  | _, _, _ => none
theorem o_32_1_inv {R : Type} {G : (Zt32_1) → (Zt32_0) → (Ex → St → Option R) → Option R} {T : St} {k : Ex → St → Option R} {r : R} (h : o_32_1 G T k = some r) : ∃ p0 p1, T = T_32_1 p0 p1 ∧ G p0 p1 k = some r := by
  unfold o_32_1 at h
  split at h
  · obtain ⟨hs, h'⟩ := gd_some h
    refine ⟨_, _, (st_of (asg := [(3, _), (4, _)]) hs ⟨by assumption, by assumption, trivial⟩ (by assumption)).trans ?_, h'⟩
    kernel_rfl
  · cases h
def T_32_0 (p0 : Int) (p1 : Zt32_1) (p2 : Zt32_0) : St := St.mk ([jk, jk, CV.int IntKind.i64 p0, CV.ptr (0 : Nat) [], CV.ptr (1 : Nat) []] ++ (jl 148)) [Blk.mem (CV.pure Zy32_3 p1), Blk.mem (CV.pure Zy32_2 p2)] (0 : Nat)
def X_32_0_0 : St := St.mk (jl 6 ++ ([CV.bool false] ++ (jl 146))) [] (0 : Nat)
def X_32_0_1 (y8 : Zt32_1) (y9 : Zt32_0) : St := St.mk (jl 6 ++ ([CV.bool ((↑(List.length (y9.2.2.2.2.2.1)) : Int) == y8.2.2.2.2.2.2.2.1)] ++ (jl 146))) [] (0 : Nat)
def X_32_0_2 (y11 : Zt32_0) : St := St.mk (jl 6 ++ ([CV.bool ((↑(List.length (y11.2.2.2.2.2.1)) : Int) == (0 : Int))] ++ (jl 146))) [] (0 : Nat)
inductive Sp.E_32_0 where
  | e0
  | e1 (y8 : Zt32_1) (y9 : Zt32_0)
  | e2 (y11 : Zt32_0)
def Sp.B_32_0 {R : Type} (r : Option Sp.E_32_0) (k0 : Option R) (k1 : (Zt32_1) → (Zt32_0) → Option R) (k2 : (Zt32_0) → Option R) : Option R := match r with
  | none => none
  | some (.e0) => k0
  | some (.e1 y8 y9) => k1 y8 y9
  | some (.e2 y11) => k2 y11
def Sp.J_32_0 (p0 : Int) (p1 : Int × Int × Int × Int × Int × Int × Bool × Int × PUnit) (p2 : Int × Int × Int × Int × Int × List Int × Int × PUnit) : Option Sp.E_32_0 :=
  gd (Sp.p_40 p2 (1 : Int)) (bif (Sp.v_40 p2 (1 : Int)).1 then gd (Sp.p_40 p2 (10 : Int)) (bif !(Sp.v_40 p2 (10 : Int)).1 then some (Sp.E_32_0.e0) else bif p2.2.2.2.2.2.2.1 != p0 then some (Sp.E_32_0.e0) else Sp.B_32_1 (Sp.J_32_1 p1 p2) (some (Sp.E_32_0.e0)) (fun (y8 : Int × Int × Int × Int × Int × Int × Bool × Int × PUnit) (y9 : Int × Int × Int × Int × Int × List Int × Int × PUnit) => some (Sp.E_32_0.e1 y8 y9)) fun (y10 : Int × Int × Int × Int × Int × Int × Bool × Int × PUnit) (y11 : Int × Int × Int × Int × Int × List Int × Int × PUnit) => bif y11.2.2.1 == (0 : Int) then bif y11.2.2.2.1 == (0 : Int) then bif y11.2.2.2.2.1 == (0 : Int) then bif y11.2.2.2.2.2.2.1 == (0 : Int) then some (Sp.E_32_0.e2 y11) else some (Sp.E_32_0.e0) else some (Sp.E_32_0.e0) else some (Sp.E_32_0.e0) else some (Sp.E_32_0.e0)) else Sp.B_32_1 (Sp.J_32_1 p1 p2) (some (Sp.E_32_0.e0)) (fun (y12 : Int × Int × Int × Int × Int × Int × Bool × Int × PUnit) (y13 : Int × Int × Int × Int × Int × List Int × Int × PUnit) => some (Sp.E_32_0.e1 y12 y13)) fun (y14 : Int × Int × Int × Int × Int × Int × Bool × Int × PUnit) (y15 : Int × Int × Int × Int × Int × List Int × Int × PUnit) => bif y15.2.2.1 == (0 : Int) then bif y15.2.2.2.1 == (0 : Int) then bif y15.2.2.2.2.1 == (0 : Int) then bif y15.2.2.2.2.2.2.1 == (0 : Int) then some (Sp.E_32_0.e2 y15) else some (Sp.E_32_0.e0) else some (Sp.E_32_0.e0) else some (Sp.E_32_0.e0) else some (Sp.E_32_0.e0))
def G_32_0 {R : Type} (p0 : Int) (p1 : Zt32_1) (p2 : Zt32_0) (k : Ex → St → Option R) : Option R := Sp.B_32_0 (Sp.J_32_0 p0 p1 p2) (k Ex.ret (X_32_0_0)) (fun y8 y9 => k Ex.ret (X_32_0_1 y8 y9)) (fun y11 => k Ex.ret (X_32_0_2 y11))
def o_32_0 {R : Type} (G : (Int) → (Zt32_1) → (Zt32_0) → (Ex → St → Option R) → Option R) : St → (Ex → St → Option R) → Option R := fun T k => match T.sl.getD 2 .junk, T.sl.getD 3 .junk, T.sl.getD 4 .junk, T.hp with
  | CV.int IntKind.i64 p0, CV.ptr (0 : Nat) [], CV.ptr (1 : Nat) [], ((Blk.mem (CV.pure (Ty.pair (Ty.int IntKind.i64) (Ty.pair (Ty.int IntKind.i64) (Ty.pair (Ty.int IntKind.i64) (Ty.pair (Ty.int IntKind.i64) (Ty.pair (Ty.int IntKind.i64) (Ty.pair (Ty.int IntKind.i64) (Ty.pair Ty.bool (Ty.pair (Ty.int IntKind.i64) Ty.unit)))))))) p1)) :: (Blk.mem (CV.pure (Ty.pair (Ty.int IntKind.i64) (Ty.pair (Ty.int IntKind.i64) (Ty.pair (Ty.int IntKind.i64) (Ty.pair (Ty.int IntKind.i64) (Ty.pair (Ty.int IntKind.i64) (Ty.pair (Ty.slice (Ty.int IntKind.i64)) (Ty.pair (Ty.int IntKind.i64) Ty.unit))))))) p2)) :: []) => gd (shapeOK T 153 [2, 3, 4] (0 : Nat)) (G p0 p1 p2 k)
  | _, _, _, _ => none
theorem o_32_0_inv {R : Type} {G : (Int) → (Zt32_1) → (Zt32_0) → (Ex → St → Option R) → Option R} {T : St} {k : Ex → St → Option R} {r : R} (h : o_32_0 G T k = some r) : ∃ p0 p1 p2, T = T_32_0 p0 p1 p2 ∧ G p0 p1 p2 k = some r := by
  unfold o_32_0 at h
  split at h
  · obtain ⟨hs, h'⟩ := gd_some h
    refine ⟨_, _, _, (st_of (asg := [(2, _), (3, _), (4, _)]) hs ⟨by assumption, by assumption, by assumption, trivial⟩ (by assumption)).trans ?_, h'⟩
    kernel_rfl
  · cases h
def O_32_32_3 {R : Type} : St → (Ex → St → Option R) → Option R := fun T k => o_32_3 G_32_3 T k
def O_32_32_2 {R : Type} : St → (Ex → St → Option R) → Option R := fun T k => o_32_2 G_32_2 T k
def O_32_32_1 {R : Type} : St → (Ex → St → Option R) → Option R := fun T k => o_32_1 G_32_1 T k
def O_32_32_0 {R : Type} : St → (Ex → St → Option R) → Option R := fun T k => o_32_0 G_32_0 T k
theorem body_32_3 {R : Type} (K1 : Ex → St → Option R) (p0 : Zt32_1) (p1 : Zt32_0) : evJ (evCodeL sm_32 FU (ovr noO (evFn sm_32 fns FU 0)) .nil ir32_b3) (T_32_3 p0 p1) K1 =
  gd (Sp.p_43 p1) (bif (Sp.v_43 p1).1 then bif decide (p1.2.2.2.2.1 ≥ (1 : Int)) then bif decide (p1.2.2.1 ≥ (1 : Int)) then bif decide (p1.2.2.2.2.2.2.1 ≥ (1 : Int)) then K1 Ex.ret (X_32_3_0 p0 p1) else K1 Ex.ret X_32_3_1 else K1 Ex.ret X_32_3_1 else K1 Ex.ret X_32_3_1 else K1 Ex.normal (X_32_3_2 p0 p1)) := by kernel_rfl
theorem Bgd_32_3 {R : Type} {c : Bool} {x : Option R} {y : Option Sp.E_32_3} {k0 : (Zt32_1) → (Zt32_0) → Option R} {k1 : Option R} {k2 : (Zt32_1) → (Zt32_0) → Option R} (h : x = Sp.B_32_3 y k0 k1 k2) : gd c x = Sp.B_32_3 (gd c y) k0 k1 k2 := by cases c; rfl; exact h
theorem Bcond_32_3 {R : Type} {c : Bool} {x x' : Option R} {y y' : Option Sp.E_32_3} {k0 : (Zt32_1) → (Zt32_0) → Option R} {k1 : Option R} {k2 : (Zt32_1) → (Zt32_0) → Option R} (h : x = Sp.B_32_3 y k0 k1 k2) (h' : x' = Sp.B_32_3 y' k0 k1 k2) : (bif c then x else x') = Sp.B_32_3 (bif c then y else y') k0 k1 k2 := by cases c; exact h'; exact h
theorem loop_32_3 {R : Type} (k : Ex → St → Option R) (p0 : Zt32_1) (p1 : Zt32_0) : evJ (evCodeL sm_32 FU (ovr noO (evFn sm_32 fns FU 0)) .nil ir32_b3) (T_32_3 p0 p1) k = Sp.B_32_3 (Sp.J_32_3 p0 p1) (fun p0 p1 => k Ex.ret (X_32_3_0 p0 p1)) (k Ex.ret (X_32_3_1)) (fun p0 p1 => k Ex.normal (X_32_3_2 p0 p1)) := by
  rw [body_32_3, Sp.J_32_3]
  repeat' first | apply Bgd_32_3 | apply Bcond_32_3 | rfl
theorem ok_32_3 {R : Type} (T : St) (k : Ex → St → Option R) (r : R) (h0 : o_32_3 G_32_3 T k = some r) : evCode sm_32 FU (evFn sm_32 fns FU 0) ir32_b3 T k = some r := by
  obtain ⟨p0, p1, rfl, h⟩ := o_32_3_inv h0
  refine bodyL_sound (t := .nil) noO_ok trivial (((show ∀ (b : St → (Ex → St → Option R) → Option R) (T : St) (k : Ex → St → Option R), b T k = evJ b T k from fun _ _ _ => rfl) _ _ _).trans ((loop_32_3 k p0 p1).trans h))
theorem OK_32_32_3 {R : Type} (T : St) (k : Ex → St → Option R) (r : R) (h : O_32_32_3 T k = some r) : evCode sm_32 FU (evFn sm_32 fns FU 0) ir32_b3 T k = some r := ok_32_3 T k r h
theorem body_32_2 {R : Type} (K1 : Ex → St → Option R) (p0 : Zt32_1) (p1 : Zt32_0) : evJ (evCodeL sm_32 FU (ovr noO (evFn sm_32 fns FU 0)) (ir32_bt2 O_32_32_3) ir32_b2) (T_32_2 p0 p1) K1 =
  gd (Sp.p_40 p1 (2 : Int)) (bif (Sp.v_40 p1 (2 : Int)).1 then bif p1.2.2.2.1 != (0 : Int) then K1 Ex.ret X_32_2_0 else Sp.B_32_3 (Sp.J_32_3 p0 p1) (fun (y8 : Zt32_1) (y9 : Zt32_0) => K1 Ex.ret (X_32_2_1 y8 y9)) (K1 Ex.ret X_32_2_0) fun (y10 : Zt32_1) (y11 : Zt32_0) => K1 Ex.normal (X_32_2_2 y10 y11) else Sp.B_32_3 (Sp.J_32_3 p0 p1) (fun (y12 : Zt32_1) (y13 : Zt32_0) => K1 Ex.ret (X_32_2_1 y12 y13)) (K1 Ex.ret X_32_2_0) fun (y14 : Zt32_1) (y15 : Zt32_0) => K1 Ex.normal (X_32_2_2 y14 y15)) := by kernel_rfl
theorem Bgd_32_2 {R : Type} {c : Bool} {x : Option R} {y : Option Sp.E_32_2} {k0 : Option R} {k1 : (Zt32_1) → (Zt32_0) → Option R} {k2 : (Zt32_1) → (Zt32_0) → Option R} (h : x = Sp.B_32_2 y k0 k1 k2) : gd c x = Sp.B_32_2 (gd c y) k0 k1 k2 := by cases c; rfl; exact h
theorem Bcond_32_2 {R : Type} {c : Bool} {x x' : Option R} {y y' : Option Sp.E_32_2} {k0 : Option R} {k1 : (Zt32_1) → (Zt32_0) → Option R} {k2 : (Zt32_1) → (Zt32_0) → Option R} (h : x = Sp.B_32_2 y k0 k1 k2) (h' : x' = Sp.B_32_2 y' k0 k1 k2) : (bif c then x else x') = Sp.B_32_2 (bif c then y else y') k0 k1 k2 := by cases c; exact h'; exact h
theorem Bin_32_2_32_3 {R : Type} {r : Option Sp.E_32_3} {k0 : Option R} {k1 : (Zt32_1) → (Zt32_0) → Option R} {k2 : (Zt32_1) → (Zt32_0) → Option R} {f0 : (Zt32_1) → (Zt32_0) → Option R} {f1 : Option R} {f2 : (Zt32_1) → (Zt32_0) → Option R} {g0 : (Zt32_1) → (Zt32_0) → Option Sp.E_32_2} {g1 : Option Sp.E_32_2} {g2 : (Zt32_1) → (Zt32_0) → Option Sp.E_32_2} (h0 : ∀ z0 z1, f0 z0 z1 = Sp.B_32_2 (g0 z0 z1) k0 k1 k2) (h1 : f1 = Sp.B_32_2 g1 k0 k1 k2) (h2 : ∀ z0 z1, f2 z0 z1 = Sp.B_32_2 (g2 z0 z1) k0 k1 k2) : Sp.B_32_3 r f0 f1 f2 = Sp.B_32_2 (Sp.B_32_3 r g0 g1 g2) k0 k1 k2 := by
  cases r with
  | none => rfl
  | some e => cases e with
    | e0 z0 z1 => exact h0 _ _
    | e1 => exact h1
    | e2 z0 z1 => exact h2 _ _
theorem loop_32_2 {R : Type} (k : Ex → St → Option R) (p0 : Zt32_1) (p1 : Zt32_0) : evJ (evCodeL sm_32 FU (ovr noO (evFn sm_32 fns FU 0)) (ir32_bt2 O_32_32_3) ir32_b2) (T_32_2 p0 p1) k = Sp.B_32_2 (Sp.J_32_2 p0 p1) (k Ex.ret (X_32_2_0)) (fun y8 y9 => k Ex.ret (X_32_2_1 y8 y9)) (fun y10 y11 => k Ex.normal (X_32_2_2 y10 y11)) := by
  rw [body_32_2, Sp.J_32_2]
  repeat' first | apply Bgd_32_2 | apply Bcond_32_2 | (apply Bin_32_2_32_3 <;> intros) | rfl
theorem ok_32_2 {R : Type} (T : St) (k : Ex → St → Option R) (r : R) (h0 : o_32_2 G_32_2 T k = some r) : evCode sm_32 FU (evFn sm_32 fns FU 0) ir32_b2 T k = some r := by
  obtain ⟨p0, p1, rfl, h⟩ := o_32_2_inv h0
  refine bodyL_sound (t := (ir32_bt2 O_32_32_3)) noO_ok (ir32_bt2ok (fun T k r => OK_32_32_3 T k r)) (((show ∀ (b : St → (Ex → St → Option R) → Option R) (T : St) (k : Ex → St → Option R), b T k = evJ b T k from fun _ _ _ => rfl) _ _ _).trans ((loop_32_2 k p0 p1).trans h))
theorem OK_32_32_2 {R : Type} (T : St) (k : Ex → St → Option R) (r : R) (h : O_32_32_2 T k = some r) : evCode sm_32 FU (evFn sm_32 fns FU 0) ir32_b2 T k = some r := ok_32_2 T k r h
theorem body_32_1 {R : Type} (K1 : Ex → St → Option R) (p0 : Zt32_1) (p1 : Zt32_0) : evJ (evCodeL sm_32 FU (ovr noO (evFn sm_32 fns FU 0)) (ir32_bt1 O_32_32_2) ir32_b1) (T_32_1 p0 p1) K1 =
  gd (Sp.p_40 p1 (4 : Int)) (bif !(Sp.v_40 p1 (4 : Int)).1 == (p1.2.2.1 == (2 : Int)) then K1 Ex.ret X_32_1_0 else gd (Sp.p_40 p1 (16 : Int)) (bif (Sp.v_40 p1 (16 : Int)).1 then gd (Sp.p_40 p1 (4 : Int)) (bif !(Sp.v_40 p1 (4 : Int)).1 then K1 Ex.ret X_32_1_0 else bif !p0.2.2.2.2.2.2.1 then K1 Ex.ret X_32_1_0 else Sp.B_32_2 (Sp.J_32_2 p0 p1) (K1 Ex.ret X_32_1_0) (fun (y8 : Zt32_1) (y9 : Zt32_0) => K1 Ex.ret (X_32_1_1 y8 y9)) fun (y10 : Zt32_1) (y11 : Zt32_0) => K1 Ex.normal (X_32_1_2 y10 y11)) else Sp.B_32_2 (Sp.J_32_2 p0 p1) (K1 Ex.ret X_32_1_0) (fun (y12 : Zt32_1) (y13 : Zt32_0) => K1 Ex.ret (X_32_1_1 y12 y13)) fun (y14 : Zt32_1) (y15 : Zt32_0) => K1 Ex.normal (X_32_1_2 y14 y15))) := by kernel_rfl
theorem Bgd_32_1 {R : Type} {c : Bool} {x : Option R} {y : Option Sp.E_32_1} {k0 : Option R} {k1 : (Zt32_1) → (Zt32_0) → Option R} {k2 : (Zt32_1) → (Zt32_0) → Option R} (h : x = Sp.B_32_1 y k0 k1 k2) : gd c x = Sp.B_32_1 (gd c y) k0 k1 k2 := by cases c; rfl; exact h
theorem Bcond_32_1 {R : Type} {c : Bool} {x x' : Option R} {y y' : Option Sp.E_32_1} {k0 : Option R} {k1 : (Zt32_1) → (Zt32_0) → Option R} {k2 : (Zt32_1) → (Zt32_0) → Option R} (h : x = Sp.B_32_1 y k0 k1 k2) (h' : x' = Sp.B_32_1 y' k0 k1 k2) : (bif c then x else x') = Sp.B_32_1 (bif c then y else y') k0 k1 k2 := by cases c; exact h'; exact h
theorem Bin_32_1_32_2 {R : Type} {r : Option Sp.E_32_2} {k0 : Option R} {k1 : (Zt32_1) → (Zt32_0) → Option R} {k2 : (Zt32_1) → (Zt32_0) → Option R} {f0 : Option R} {f1 : (Zt32_1) → (Zt32_0) → Option R} {f2 : (Zt32_1) → (Zt32_0) → Option R} {g0 : Option Sp.E_32_1} {g1 : (Zt32_1) → (Zt32_0) → Option Sp.E_32_1} {g2 : (Zt32_1) → (Zt32_0) → Option Sp.E_32_1} (h0 : f0 = Sp.B_32_1 g0 k0 k1 k2) (h1 : ∀ z0 z1, f1 z0 z1 = Sp.B_32_1 (g1 z0 z1) k0 k1 k2) (h2 : ∀ z0 z1, f2 z0 z1 = Sp.B_32_1 (g2 z0 z1) k0 k1 k2) : Sp.B_32_2 r f0 f1 f2 = Sp.B_32_1 (Sp.B_32_2 r g0 g1 g2) k0 k1 k2 := by
  cases r with
  | none => rfl
  | some e => cases e with
    | e0 => exact h0
    | e1 z0 z1 => exact h1 _ _
    | e2 z0 z1 => exact h2 _ _
theorem loop_32_1 {R : Type} (k : Ex → St → Option R) (p0 : Zt32_1) (p1 : Zt32_0) : evJ (evCodeL sm_32 FU (ovr noO (evFn sm_32 fns FU 0)) (ir32_bt1 O_32_32_2) ir32_b1) (T_32_1 p0 p1) k = Sp.B_32_1 (Sp.J_32_1 p0 p1) (k Ex.ret (X_32_1_0)) (fun y8 y9 => k Ex.ret (X_32_1_1 y8 y9)) (fun y10 y11 => k Ex.normal (X_32_1_2 y10 y11)) := by
  rw [body_32_1, Sp.J_32_1]
  repeat' first | apply Bgd_32_1 | apply Bcond_32_1 | (apply Bin_32_1_32_2 <;> intros) | rfl
theorem ok_32_1 {R : Type} (T : St) (k : Ex → St → Option R) (r : R) (h0 : o_32_1 G_32_1 T k = some r) : evCode sm_32 FU (evFn sm_32 fns FU 0) ir32_b1 T k = some r := by
  obtain ⟨p0, p1, rfl, h⟩ := o_32_1_inv h0
  refine bodyL_sound (t := (ir32_bt1 O_32_32_2)) noO_ok (ir32_bt1ok (fun T k r => OK_32_32_2 T k r)) (((show ∀ (b : St → (Ex → St → Option R) → Option R) (T : St) (k : Ex → St → Option R), b T k = evJ b T k from fun _ _ _ => rfl) _ _ _).trans ((loop_32_1 k p0 p1).trans h))
theorem OK_32_32_1 {R : Type} (T : St) (k : Ex → St → Option R) (r : R) (h : O_32_32_1 T k = some r) : evCode sm_32 FU (evFn sm_32 fns FU 0) ir32_b1 T k = some r := ok_32_1 T k r h
theorem body_32_0 {R : Type} (K1 : Ex → St → Option R) (p0 : Int) (p1 : Zt32_1) (p2 : Zt32_0) : evJ (evCodeL sm_32 FU (ovr noO (evFn sm_32 fns FU 0)) (ir32_bt0 O_32_32_1) ir32_b0) (T_32_0 p0 p1 p2) K1 =
  gd (Sp.p_40 p2 (1 : Int)) (bif (Sp.v_40 p2 (1 : Int)).1 then gd (Sp.p_40 p2 (10 : Int)) (bif !(Sp.v_40 p2 (10 : Int)).1 then K1 Ex.ret X_32_0_0 else bif p2.2.2.2.2.2.2.1 != p0 then K1 Ex.ret X_32_0_0 else Sp.B_32_1 (Sp.J_32_1 p1 p2) (K1 Ex.ret X_32_0_0) (fun (y8 : Zt32_1) (y9 : Zt32_0) => K1 Ex.ret (X_32_0_1 y8 y9)) fun (y10 : Zt32_1) (y11 : Zt32_0) => bif y11.2.2.1 == (0 : Int) then bif y11.2.2.2.1 == (0 : Int) then bif y11.2.2.2.2.1 == (0 : Int) then bif y11.2.2.2.2.2.2.1 == (0 : Int) then K1 Ex.ret (X_32_0_2 y11) else K1 Ex.ret X_32_0_0 else K1 Ex.ret X_32_0_0 else K1 Ex.ret X_32_0_0 else K1 Ex.ret X_32_0_0) else Sp.B_32_1 (Sp.J_32_1 p1 p2) (K1 Ex.ret X_32_0_0) (fun (y12 : Zt32_1) (y13 : Zt32_0) => K1 Ex.ret (X_32_0_1 y12 y13)) fun (y14 : Zt32_1) (y15 : Zt32_0) => bif y15.2.2.1 == (0 : Int) then bif y15.2.2.2.1 == (0 : Int) then bif y15.2.2.2.2.1 == (0 : Int) then bif y15.2.2.2.2.2.2.1 == (0 : Int) then K1 Ex.ret (X_32_0_2 y15) else K1 Ex.ret X_32_0_0 else K1 Ex.ret X_32_0_0 else K1 Ex.ret X_32_0_0 else K1 Ex.ret X_32_0_0) := by kernel_rfl
theorem Bgd_32_0 {R : Type} {c : Bool} {x : Option R} {y : Option Sp.E_32_0} {k0 : Option R} {k1 : (Zt32_1) → (Zt32_0) → Option R} {k2 : (Zt32_0) → Option R} (h : x = Sp.B_32_0 y k0 k1 k2) : gd c x = Sp.B_32_0 (gd c y) k0 k1 k2 := by cases c; rfl; exact h
theorem Bcond_32_0 {R : Type} {c : Bool} {x x' : Option R} {y y' : Option Sp.E_32_0} {k0 : Option R} {k1 : (Zt32_1) → (Zt32_0) → Option R} {k2 : (Zt32_0) → Option R} (h : x = Sp.B_32_0 y k0 k1 k2) (h' : x' = Sp.B_32_0 y' k0 k1 k2) : (bif c then x else x') = Sp.B_32_0 (bif c then y else y') k0 k1 k2 := by cases c; exact h'; exact h
theorem Bin_32_0_32_1 {R : Type} {r : Option Sp.E_32_1} {k0 : Option R} {k1 : (Zt32_1) → (Zt32_0) → Option R} {k2 : (Zt32_0) → Option R} {f0 : Option R} {f1 : (Zt32_1) → (Zt32_0) → Option R} {f2 : (Zt32_1) → (Zt32_0) → Option R} {g0 : Option Sp.E_32_0} {g1 : (Zt32_1) → (Zt32_0) → Option Sp.E_32_0} {g2 : (Zt32_1) → (Zt32_0) → Option Sp.E_32_0} (h0 : f0 = Sp.B_32_0 g0 k0 k1 k2) (h1 : ∀ z0 z1, f1 z0 z1 = Sp.B_32_0 (g1 z0 z1) k0 k1 k2) (h2 : ∀ z0 z1, f2 z0 z1 = Sp.B_32_0 (g2 z0 z1) k0 k1 k2) : Sp.B_32_1 r f0 f1 f2 = Sp.B_32_0 (Sp.B_32_1 r g0 g1 g2) k0 k1 k2 := by
  cases r with
  | none => rfl
  | some e => cases e with
    | e0 => exact h0
    | e1 z0 z1 => exact h1 _ _
    | e2 z0 z1 => exact h2 _ _
theorem loop_32_0 {R : Type} (k : Ex → St → Option R) (p0 : Int) (p1 : Zt32_1) (p2 : Zt32_0) : evJ (evCodeL sm_32 FU (ovr noO (evFn sm_32 fns FU 0)) (ir32_bt0 O_32_32_1) ir32_b0) (T_32_0 p0 p1 p2) k = Sp.B_32_0 (Sp.J_32_0 p0 p1 p2) (k Ex.ret (X_32_0_0)) (fun y8 y9 => k Ex.ret (X_32_0_1 y8 y9)) (fun y11 => k Ex.ret (X_32_0_2 y11)) := by
  rw [body_32_0, Sp.J_32_0]
  repeat' first | apply Bgd_32_0 | apply Bcond_32_0 | (apply Bin_32_0_32_1 <;> intros) | rfl
theorem ok_32_0 {R : Type} (T : St) (k : Ex → St → Option R) (r : R) (h0 : o_32_0 G_32_0 T k = some r) : evCode sm_32 FU (evFn sm_32 fns FU 0) ir32_b0 T k = some r := by
  obtain ⟨p0, p1, p2, rfl, h⟩ := o_32_0_inv h0
  refine bodyL_sound (t := (ir32_bt0 O_32_32_1)) noO_ok (ir32_bt0ok (fun T k r => OK_32_32_1 T k r)) (((show ∀ (b : St → (Ex → St → Option R) → Option R) (T : St) (k : Ex → St → Option R), b T k = evJ b T k from fun _ _ _ => rfl) _ _ _).trans ((loop_32_0 k p0 p1 p2).trans h))
theorem OK_32_32_0 {R : Type} (T : St) (k : Ex → St → Option R) (r : R) (h : O_32_32_0 T k = some r) : evCode sm_32 FU (evFn sm_32 fns FU 0) ir32_b0 T k = some r := ok_32_0 T k r h
def F_32 (a0 : (Int × (Int × (Int × (Int × (Int × (Int × (Bool × (Int × Unit))))))))) (a1 : (Int × (Int × (Int × (Int × (Int × ((List Int) × (Int × Unit)))))))) (a2 : Int) : Option (Bool × Unit) :=
  gd (Sp.p_25 (a1.1) (0 : Int) (31 : Int)) (bif !(Sp.v_25 (a1.1) (0 : Int) (31 : Int)).1 then some (false, PUnit.unit) else gd (Sp.p_25 (a1.2.1) (IntKind.wrap IntKind.i64 ((0 : Int) - a0.2.2.1)) (a0.2.1)) (bif !(Sp.v_25 (a1.2.1) (IntKind.wrap IntKind.i64 ((0 : Int) - a0.2.2.1)) (a0.2.1)).1 then some (false, PUnit.unit) else gd (Sp.p_25 (a1.2.2.1) (0 : Int) (2 : Int)) (bif !(Sp.v_25 (a1.2.2.1) (0 : Int) (2 : Int)).1 then some (false, PUnit.unit) else gd (Sp.p_25 (a1.2.2.2.1) (0 : Int) (IntKind.wrap IntKind.i64 (a0.2.2.2.2.1 - (1 : Int)))) (bif !(Sp.v_25 (a1.2.2.2.1) (0 : Int) (IntKind.wrap IntKind.i64 (a0.2.2.2.2.1 - (1 : Int)))).1 then some (false, PUnit.unit) else gd (Sp.p_25 (a1.2.2.2.2.1) (0 : Int) (255 : Int)) (bif !(Sp.v_25 (a1.2.2.2.2.1) (0 : Int) (255 : Int)).1 then some (false, PUnit.unit) else gd (Sp.p_25 (a1.2.2.2.2.2.2.1) (0 : Int) a2) (bif !(Sp.v_25 (a1.2.2.2.2.2.2.1) (0 : Int) a2).1 then some (false, PUnit.unit) else bif decide ((↑(List.length (a1.2.2.2.2.2.1)) : Int) > (0 : Int)) then gd (Sp.p_36 a0 (a1.2.2.2.2.2.1)) (bif !(Sp.v_36 a0 (a1.2.2.2.2.2.1)).1 then some (false, PUnit.unit) else Sp.B_32_0 (Sp.J_32_0 a2 a0 a1) (some (false, PUnit.unit)) (fun (y14 : Int × Int × Int × Int × Int × Int × Bool × Int × PUnit) (y15 : Int × Int × Int × Int × Int × List Int × Int × PUnit) => some ((↑(List.length (y15.2.2.2.2.2.1)) : Int) == y14.2.2.2.2.2.2.2.1, PUnit.unit)) fun (y16 : Int × Int × Int × Int × Int × List Int × Int × PUnit) => some ((↑(List.length (y16.2.2.2.2.2.1)) : Int) == (0 : Int), PUnit.unit)) else Sp.B_32_0 (Sp.J_32_0 a2 a0 a1) (some (false, PUnit.unit)) (fun (y17 : Int × Int × Int × Int × Int × Int × Bool × Int × PUnit) (y18 : Int × Int × Int × Int × Int × List Int × Int × PUnit) => some ((↑(List.length (y18.2.2.2.2.2.1)) : Int) == y17.2.2.2.2.2.2.2.1, PUnit.unit)) fun (y19 : Int × Int × Int × Int × Int × List Int × Int × PUnit) => some ((↑(List.length (y19.2.2.2.2.2.1)) : Int) == (0 : Int), PUnit.unit)))))))
theorem fn_32 (a0 : (Int × (Int × (Int × (Int × (Int × (Int × (Bool × (Int × Unit))))))))) (a1 : (Int × (Int × (Int × (Int × (Int × ((List Int) × (Int × Unit)))))))) (a2 : Int) : evFnL sm_32 FU (ovr noO (evFn sm_32 fns FU 0)) (ir32_t O_32_32_0) ir32 (ofH [Zy32_4, Zy32_5, (.int .i64)] (a0, a1, a2, ())) [] (pureK [.bool]) = F_32 a0 a1 a2 := by kernel_rfl
def Sp.p_32 (a0 : (Int × (Int × (Int × (Int × (Int × (Int × (Bool × (Int × Unit))))))))) (a1 : (Int × (Int × (Int × (Int × (Int × ((List Int) × (Int × Unit)))))))) (a2 : Int) : Bool := (F_32 a0 a1 a2).isSome
def Sp.v_32 (a0 : (Int × (Int × (Int × (Int × (Int × (Int × (Bool × (Int × Unit))))))))) (a1 : (Int × (Int × (Int × (Int × (Int × ((List Int) × (Int × Unit)))))))) (a2 : Int) : Bool × Unit := (F_32 a0 a1 a2).getD (dfH [.bool])
def s_32 : Summ := shN [Zy32_4, Zy32_5, (.int .i64)] [.bool] (fun x => Sp.p_32 x.1 x.2.1 x.2.2.1) (fun x => Sp.v_32 x.1 x.2.1 x.2.2.1)
theorem pv_32 (a0 : (Int × (Int × (Int × (Int × (Int × (Int × (Bool × (Int × Unit))))))))) (a1 : (Int × (Int × (Int × (Int × (Int × ((List Int) × (Int × Unit)))))))) (a2 : Int) {y : Bool × Unit} (h : F_32 a0 a1 a2 = some y) : Sp.p_32 a0 a1 a2 = true ∧ Sp.v_32 a0 a1 a2 = y := ⟨by rw [Sp.p_32, h]; rfl, by rw [Sp.v_32, h]; rfl⟩
theorem run_32 (x : HDen [Zy32_4, Zy32_5, (.int .i64)]) (y : HDen [.bool]) (h : F_32 x.1 x.2.1 x.2.2.1 = some y) : evFn sm_32 fns FU 1 32 (ofH [Zy32_4, Zy32_5, (.int .i64)] x) [] (pureK [.bool]) = some y :=
  evFnL_sound (fn := ir32) (t := (ir32_t O_32_32_0)) (o := noO) rfl noO_ok (ir32_tok (fun T k r => OK_32_32_0 T k r)) ((fn_32 _ _ _).trans h)
end
end Go.Ev
namespace Go.Ev
open Go
set_option maxRecDepth 100000
set_option maxHeartbeats 4000000
set_option linter.unusedVariables false
noncomputable section
abbrev Zt15_0 : Type := List (Int × Int × Int × Int × Int × Int × Bool × Int × PUnit) × List (Int × Int × Int × Int × Int × List Int × Int × PUnit) × Int × Bool × PUnit
abbrev Zy15_1 : Ty := (Ty.pair (Ty.slice (Ty.pair (Ty.int IntKind.i64) (Ty.pair (Ty.int IntKind.i64) (Ty.pair (Ty.int IntKind.i64) (Ty.pair (Ty.int IntKind.i64) (Ty.pair (Ty.int IntKind.i64) (Ty.pair (Ty.int IntKind.i64) (Ty.pair Ty.bool (Ty.pair (Ty.int IntKind.i64) Ty.unit))))))))) (Ty.pair (Ty.slice (Ty.pair (Ty.int IntKind.i64) (Ty.pair (Ty.int IntKind.i64) (Ty.pair (Ty.int IntKind.i64) (Ty.pair (Ty.int IntKind.i64) (Ty.pair (Ty.int IntKind.i64) (Ty.pair (Ty.slice (Ty.int IntKind.i64)) (Ty.pair (Ty.int IntKind.i64) Ty.unit)))))))) (Ty.pair (Ty.int IntKind.i64) (Ty.pair Ty.bool Ty.unit))))
abbrev Zy15_2 : Ty := (.pair (.slice (.pair (.int .i64) (.pair (.int .i64) (.pair (.int .i64) (.pair (.int .i64) (.pair (.int .i64) (.pair (.int .i64) (.pair .bool (.pair (.int .i64) .unit))))))))) (.pair (.slice (.pair (.int .i64) (.pair (.int .i64) (.pair (.int .i64) (.pair (.int .i64) (.pair (.int .i64) (.pair (.slice (.int .i64)) (.pair (.int .i64) .unit)))))))) (.pair (.int .i64) (.pair .bool .unit))))
abbrev Zy15_3 : Ty := (Ty.pair (Ty.int IntKind.i64) (Ty.pair (Ty.int IntKind.i64) (Ty.pair (Ty.int IntKind.i64) (Ty.pair (Ty.int IntKind.i64) (Ty.pair (Ty.int IntKind.i64) (Ty.pair (Ty.int IntKind.i64) (Ty.pair Ty.bool (Ty.pair (Ty.int IntKind.i64) Ty.unit))))))))
abbrev Zy15_4 : Ty := (Ty.pair (Ty.int IntKind.i64) (Ty.pair (Ty.int IntKind.i64) (Ty.pair (Ty.int IntKind.i64) (Ty.pair (Ty.int IntKind.i64) (Ty.pair (Ty.int IntKind.i64) (Ty.pair (Ty.slice (Ty.int IntKind.i64)) (Ty.pair (Ty.int IntKind.i64) Ty.unit)))))))
abbrev Zt15_5 : Type := List (Int × Int × Int × Int × Int × Int × Bool × Int × PUnit)
abbrev Zt15_6 : Type := List (Int × Int × Int × Int × Int × List Int × Int × PUnit)

abbrev s15_29 : Summ := codesS
def sm_15 : Nat → Option Summ := fun f => bif Nat.beq f 9 then some s_9 else bif Nat.beq f 25 then some s_25 else bif Nat.beq f 29 then some s15_29 else bif Nat.beq f 32 then some s_32 else none
def T_15_41_0_0 (p0 : Zt15_5) (p1 : Int) (p2 : Int) (p3 : Zt15_0) : St := St.mk ([CV.pure (Ty.slice (Ty.pair (Ty.int IntKind.i64) (Ty.pair (Ty.int IntKind.i64) (Ty.pair (Ty.int IntKind.i64) (Ty.pair (Ty.int IntKind.i64) (Ty.pair (Ty.int IntKind.i64) (Ty.pair (Ty.int IntKind.i64) (Ty.pair Ty.bool (Ty.pair (Ty.int IntKind.i64) Ty.unit))))))))) p0, CV.clo (28 : Nat) (CV.pure Ty.unit PUnit.unit), jk, jk, jk, jk, jk, CV.int IntKind.i64 p1, CV.int IntKind.i64 p2] ++ (jl 10)) [Blk.mem (CV.pure Zy15_1 p3)] (1 : Nat)
def X_15_41_0_0_0 (p2 : Int) (p3 : Zt15_0) : St := St.mk ([jk, jk, jk, jk, CV.int IntKind.i64 p2] ++ (jl 14)) [Blk.mem (CV.pure Zy15_1 p3)] (1 : Nat)
def X_15_41_0_0_1 (p3 : Zt15_0) : St := St.mk (jl 19) [Blk.mem (CV.pure Zy15_1 p3)] (1 : Nat)
inductive Sp.E_15_41_0_0 where
  | e0 (p2 : Int) (p3 : Zt15_0)
  | e1 (p3 : Zt15_0)
def Sp.B_15_41_0_0 {R : Type} (r : Option Sp.E_15_41_0_0) (k0 : (Int) → (Zt15_0) → Option R) (k1 : (Zt15_0) → Option R) : Option R := match r with
  | none => none
  | some (.e0 p2 p3) => k0 p2 p3
  | some (.e1 p3) => k1 p3
def Sp.L_15_41_0_0 : Nat → (List (Int × Int × Int × Int × Int × Int × Bool × Int × PUnit)) → (Int) → (Int) → (List (Int × Int × Int × Int × Int × Int × Bool × Int × PUnit) × List (Int × Int × Int × Int × Int × List Int × Int × PUnit) × Int × Bool × PUnit) → Option Sp.E_15_41_0_0
  | 0, _, _, _, _ => none
  | m + 1, p0, p1, p2, p3 => bif decide (p2 < p1) then gd (inB p2 (List.length p0)) (gd (Sp.p_9 (List.getD p0 (Int.toNat p2) Zd0)) (bif !(Sp.v_9 (List.getD p0 (Int.toNat p2) Zd0)).1 then some (Sp.E_15_41_0_0.e0 p2 p3) else Sp.L_15_41_0_0 m p0 p1 (IntKind.wrap IntKind.i64 (p2 + (1 : Int))) p3)) else some (Sp.E_15_41_0_0.e1 p3)
def G_15_41_0_0 {R : Type} (p0 : Zt15_5) (p1 : Int) (p2 : Int) (p3 : Zt15_0) (k : Ex → St → Option R) : Option R := Sp.B_15_41_0_0 (Sp.L_15_41_0_0 FU p0 p1 p2 p3) (fun p2 p3 => k Ex.ret (X_15_41_0_0_0 p2 p3)) (fun p3 => k (Ex.exit (0 : Nat)) (X_15_41_0_0_1 p3))
def o_15_41_0_0 {R : Type} (G : (Zt15_5) → (Int) → (Int) → (Zt15_0) → (Ex → St → Option R) → Option R) : St → (Ex → St → Option R) → Option R := fun T k => match T.sl.getD 0 .junk, T.sl.getD 1 .junk, T.sl.getD 7 .junk, T.sl.getD 8 .junk, T.hp with
  | CV.pure (Ty.slice (Ty.pair (Ty.int IntKind.i64) (Ty.pair (Ty.int IntKind.i64) (Ty.pair (Ty.int IntKind.i64) (Ty.pair (Ty.int IntKind.i64) (Ty.pair (Ty.int IntKind.i64) (Ty.pair (Ty.int IntKind.i64) (Ty.pair Ty.bool (Ty.pair (Ty.int IntKind.i64) Ty.unit))))))))) p0, CV.clo (28 : Nat) (CV.pure Ty.unit PUnit.unit), CV.int IntKind.i64 p1, CV.int IntKind.i64 p2, ((Blk.mem (CV.pure (Ty.pair (Ty.slice (Ty.pair (Ty.int IntKind.i64) (Ty.pair (Ty.int IntKind.i64) (Ty.pair (Ty.int IntKind.i64) (Ty.pair (Ty.int IntKind.i64) (Ty.pair (Ty.int IntKind.i64) (Ty.pair (Ty.int IntKind.i64) (Ty.pair Ty.bool (Ty.pair (Ty.int IntKind.i64) Ty.unit))))))))) (Ty.pair (Ty.slice (Ty.pair (Ty.int IntKind.i64) (Ty.pair (Ty.int IntKind.i64) (Ty.pair (Ty.int IntKind.i64) (Ty.pair (Ty.int IntKind.i64) (Ty.pair (Ty.int IntKind.i64) (Ty.pair (Ty.slice (Ty.int IntKind.i64)) (Ty.pair (Ty.int IntKind.i64) Ty.unit)))))))) (Ty.pair (Ty.int IntKind.i64) (Ty.pair Ty.bool Ty.unit)))) p3)) :: []) => gd (shapeOK T 19 [0, 1, 7, 8] (1 : Nat)) (G p0 p1 p2 p3 k)
  | _, _, _, _, _ => none
theorem o_15_41_0_0_inv {R : Type} {G : (Zt15_5) → (Int) → (Int) → (Zt15_0) → (Ex → St → Option R) → Option R} {T : St} {k : Ex → St → Option R} {r : R} (h : o_15_41_0_0 G T k = some r) : ∃ p0 p1 p2 p3, T = T_15_41_0_0 p0 p1 p2 p3 ∧ G p0 p1 p2 p3 k = some r := by
  unfold o_15_41_0_0 at h
  split at h
  · obtain ⟨hs, h'⟩ := gd_some h
    refine ⟨_, _, _, _, (st_of (asg := [(0, _), (1, _), (7, _), (8, _)]) hs ⟨by assumption, by assumption, by assumption, by assumption, trivial⟩ (by assumption)).trans ?_, h'⟩
    kernel_rfl
  · cases h
def T_15_1 (p0 : Zt15_6) (p1 : Int) (p2 : Int) (p3 : Zt15_0) : St := St.mk ([jk, CV.ptr (0 : Nat) []] ++ (jl 43 ++ ([CV.pure (Ty.slice (Ty.pair (Ty.int IntKind.i64) (Ty.pair (Ty.int IntKind.i64) (Ty.pair (Ty.int IntKind.i64) (Ty.pair (Ty.int IntKind.i64) (Ty.pair (Ty.int IntKind.i64) (Ty.pair (Ty.slice (Ty.int IntKind.i64)) (Ty.pair (Ty.int IntKind.i64) Ty.unit)))))))) p0, CV.int IntKind.i64 p1, CV.int IntKind.i64 p2] ++ (jl 15)))) [Blk.mem (CV.pure Zy15_1 p3)] (0 : Nat)
def X_15_1_0 : St := St.mk ([jk, jk, CV.bool false] ++ (jl 60)) [] (0 : Nat)
def X_15_1_1 : St := St.mk (jl 63) [] (0 : Nat)
inductive Sp.E_15_1 where
  | e0
  | e1
def Sp.B_15_1 {R : Type} (r : Option Sp.E_15_1) (k0 : Option R) (k1 : Option R) : Option R := match r with
  | none => none
  | some (.e0) => k0
  | some (.e1) => k1
def Sp.L_15_1 : Nat → (List (Int × Int × Int × Int × Int × List Int × Int × PUnit)) → (Int) → (Int) → (List (Int × Int × Int × Int × Int × Int × Bool × Int × PUnit) × List (Int × Int × Int × Int × Int × List Int × Int × PUnit) × Int × Bool × PUnit) → Option Sp.E_15_1
  | 0, _, _, _, _ => none
  | m + 1, p0, p1, p2, p3 => bif decide (p2 < p1) then gd (inB p2 (List.length p0)) (gd (inB p2 (List.length (p3.1))) (gd (Sp.p_32 (List.getD (p3.1) (Int.toNat p2) Zd0) (List.getD p0 (Int.toNat p2) Zd1) (p3.2.2.1)) (bif !(Sp.v_32 (List.getD (p3.1) (Int.toNat p2) Zd0) (List.getD p0 (Int.toNat p2) Zd1) (p3.2.2.1)).1 then some (Sp.E_15_1.e0) else Sp.L_15_1 m p0 p1 (IntKind.wrap IntKind.i64 (p2 + (1 : Int))) p3))) else some (Sp.E_15_1.e1)
def G_15_1 {R : Type} (p0 : Zt15_6) (p1 : Int) (p2 : Int) (p3 : Zt15_0) (k : Ex → St → Option R) : Option R := Sp.B_15_1 (Sp.L_15_1 FU p0 p1 p2 p3) (k Ex.ret (X_15_1_0)) (k (Ex.exit (0 : Nat)) (X_15_1_1))
def o_15_1 {R : Type} (G : (Zt15_6) → (Int) → (Int) → (Zt15_0) → (Ex → St → Option R) → Option R) : St → (Ex → St → Option R) → Option R := fun T k => match T.sl.getD 1 .junk, T.sl.getD 45 .junk, T.sl.getD 46 .junk, T.sl.getD 47 .junk, T.hp with
  | CV.ptr (0 : Nat) [], CV.pure (Ty.slice (Ty.pair (Ty.int IntKind.i64) (Ty.pair (Ty.int IntKind.i64) (Ty.pair (Ty.int IntKind.i64) (Ty.pair (Ty.int IntKind.i64) (Ty.pair (Ty.int IntKind.i64) (Ty.pair (Ty.slice (Ty.int IntKind.i64)) (Ty.pair (Ty.int IntKind.i64) Ty.unit)))))))) p0, CV.int IntKind.i64 p1, CV.int IntKind.i64 p2, ((Blk.mem (CV.pure (Ty.pair (Ty.slice (Ty.pair (Ty.int IntKind.i64) (Ty.pair (Ty.int IntKind.i64) (Ty.pair (Ty.int IntKind.i64) (Ty.pair (Ty.int IntKind.i64) (Ty.pair (Ty.int IntKind.i64) (Ty.pair (Ty.int IntKind.i64) (Ty.pair Ty.bool (Ty.pair (Ty.int IntKind.i64) Ty.unit))))))))) (Ty.pair (Ty.slice (Ty.pair (Ty.int IntKind.i64) (Ty.pair (Ty.int IntKind.i64) (Ty.pair (Ty.int IntKind.i64) (Ty.pair (Ty.int IntKind.i64) (Ty.pair (Ty.int IntKind.i64) (Ty.pair (Ty.slice (Ty.int IntKind.i64)) (Ty.pair (Ty.int IntKind.i64) Ty.unit)))))))) (Ty.pair (Ty.int IntKind.i64) (Ty.pair Ty.bool Ty.unit)))) p3)) :: []) => gd (shapeOK T 63 [1, 45, 46, 47] (0 : Nat)) (G p0 p1 p2 p3 k)
  | _, _, _, _, _ => none
theorem o_15_1_inv {R : Type} {G : (Zt15_6) → (Int) → (Int) → (Zt15_0) → (Ex → St → Option R) → Option R} {T : St} {k : Ex → St → Option R} {r : R} (h : o_15_1 G T k = some r) : ∃ p0 p1 p2 p3, T = T_15_1 p0 p1 p2 p3 ∧ G p0 p1 p2 p3 k = some r := by
  unfold o_15_1 at h
  split at h
  · obtain ⟨hs, h'⟩ := gd_some h
    refine ⟨_, _, _, _, (st_of (asg := [(1, _), (45, _), (46, _), (47, _)]) hs ⟨by assumption, by assumption, by assumption, by assumption, trivial⟩ (by assumption)).trans ?_, h'⟩
    kernel_rfl
  · cases h
def T_15_0 (p0 : Zt15_0) : St := St.mk ([jk, CV.ptr (0 : Nat) []] ++ (jl 61)) [Blk.mem (CV.pure Zy15_1 p0)] (0 : Nat)
def X_15_0_0 : St := St.mk ([jk, jk, CV.bool false] ++ (jl 60)) [] (0 : Nat)
def X_15_0_1 : St := St.mk ([jk, jk, CV.bool true] ++ (jl 60)) [] (0 : Nat)
inductive Sp.E_15_0 where
  | e0
  | e1
def Sp.B_15_0 {R : Type} (r : Option Sp.E_15_0) (k0 : Option R) (k1 : Option R) : Option R := match r with
  | none => none
  | some (.e0) => k0
  | some (.e1) => k1
def Sp.J_15_0 (p0 : List (Int × Int × Int × Int × Int × Int × Bool × Int × PUnit) × List (Int × Int × Int × Int × Int × List Int × Int × PUnit) × Int × Bool × PUnit) : Option Sp.E_15_0 :=
  Sp.B_15_1 (Sp.L_15_1 (4611686018427387904 : Nat) (p0.2.1) (↑(List.length (p0.2.1)) : Int) (0 : Int) p0) (some (Sp.E_15_0.e0)) (some (Sp.E_15_0.e1))
def G_15_0 {R : Type} (p0 : Zt15_0) (k : Ex → St → Option R) : Option R := Sp.B_15_0 (Sp.J_15_0 p0) (k Ex.ret (X_15_0_0)) (k Ex.ret (X_15_0_1))
def o_15_0 {R : Type} (G : (Zt15_0) → (Ex → St → Option R) → Option R) : St → (Ex → St → Option R) → Option R := fun T k => match T.sl.getD 1 .junk, T.hp with
  | CV.ptr (0 : Nat) [], ((Blk.mem (CV.pure (Ty.pair (Ty.slice (Ty.pair (Ty.int IntKind.i64) (Ty.pair (Ty.int IntKind.i64) (Ty.pair (Ty.int IntKind.i64) (Ty.pair (Ty.int IntKind.i64) (Ty.pair (Ty.int IntKind.i64) (Ty.pair (Ty.int IntKind.i64) (Ty.pair Ty.bool (Ty.pair (Ty.int IntKind.i64) Ty.unit))))))))) (Ty.pair (Ty.slice (Ty.pair (Ty.int IntKind.i64) (Ty.pair (Ty.int IntKind.i64) (Ty.pair (Ty.int IntKind.i64) (Ty.pair (Ty.int IntKind.i64) (Ty.pair (Ty.int IntKind.i64) (Ty.pair (Ty.slice (Ty.int IntKind.i64)) (Ty.pair (Ty.int IntKind.i64) Ty.unit)))))))) (Ty.pair (Ty.int IntKind.i64) (Ty.pair Ty.bool Ty.unit)))) p0)) :: []) => gd (shapeOK T 63 [1] (0 : Nat)) (G p0 k)
  | _, _ => none
theorem o_15_0_inv {R : Type} {G : (Zt15_0) → (Ex → St → Option R) → Option R} {T : St} {k : Ex → St → Option R} {r : R} (h : o_15_0 G T k = some r) : ∃ p0, T = T_15_0 p0 ∧ G p0 k = some r := by
  unfold o_15_0 at h
  split at h
  · obtain ⟨hs, h'⟩ := gd_some h
    refine ⟨_, (st_of (asg := [(1, _)]) hs ⟨by assumption, trivial⟩ (by assumption)).trans ?_, h'⟩
    kernel_rfl
  · cases h
def O_15_41_0 {R : Type} : St → (Ex → St → Option R) → Option R := fun T k => o_15_41_0_0 G_15_41_0_0 T k
def O_15_15_1 {R : Type} : St → (Ex → St → Option R) → Option R := fun T k => o_15_1 G_15_1 T k
def O_15_15_0 {R : Type} : St → (Ex → St → Option R) → Option R := fun T k => o_15_0 G_15_0 T k
def g_15_41 {R : Type} : List CV → List Blk → (CV → List Blk → Option R) → Option R := evFnL sm_15 FU (ovr noO (evFn sm_15 fns FU 1)) (ir41_t O_15_41_0) ir41
def g_15_27 {R : Type} : List CV → List Blk → (CV → List Blk → Option R) → Option R := evFnL sm_15 FU (ovr (fun f' => bif Nat.beq f' 41 then some (g_15_41) else none) (evFn sm_15 fns FU 2)) .nil ir27
theorem body_15_41_0_0 {R : Type} (K0 : St → Option R) (K1 : Ex → St → Option R) (p0 : Zt15_5) (p1 : Int) (p2 : Int) (p3 : Zt15_0) : evLB (evCodeL sm_15 FU (ovr noO (evFn sm_15 fns FU 1)) .nil ir41_b0) (St.norm ir41_v0) (T_15_41_0_0 p0 p1 p2 p3) K0 K1 =
  bif decide (p2 < p1) then gd (inB p2 (List.length p0)) (gd (Sp.p_9 (List.getD p0 (Int.toNat p2) (Ty.dflt Zy15_3))) (bif !(Sp.v_9 (List.getD p0 (Int.toNat p2) (Ty.dflt Zy15_3))).1 then K1 Ex.ret (X_15_41_0_0_0 p2 p3) else K0 (T_15_41_0_0 p0 p1 (IntKind.wrap IntKind.i64 (p2 + (1 : Int))) p3))) else K1 (Ex.exit (0 : Nat)) (X_15_41_0_0_1 p3) := by kernel_rfl
theorem Bgd_15_41_0_0 {R : Type} {c : Bool} {x : Option R} {y : Option Sp.E_15_41_0_0} {k0 : (Int) → (Zt15_0) → Option R} {k1 : (Zt15_0) → Option R} (h : x = Sp.B_15_41_0_0 y k0 k1) : gd c x = Sp.B_15_41_0_0 (gd c y) k0 k1 := by cases c; rfl; exact h
theorem Bcond_15_41_0_0 {R : Type} {c : Bool} {x x' : Option R} {y y' : Option Sp.E_15_41_0_0} {k0 : (Int) → (Zt15_0) → Option R} {k1 : (Zt15_0) → Option R} (h : x = Sp.B_15_41_0_0 y k0 k1) (h' : x' = Sp.B_15_41_0_0 y' k0 k1) : (bif c then x else x') = Sp.B_15_41_0_0 (bif c then y else y') k0 k1 := by cases c; exact h'; exact h
theorem loop_15_41_0_0 {R : Type} (k : Ex → St → Option R) : ∀ (m : Nat) (p0 : Zt15_5) (p1 : Int) (p2 : Int) (p3 : Zt15_0), evLoopN (evCodeL sm_15 FU (ovr noO (evFn sm_15 fns FU 1)) .nil ir41_b0) (St.norm ir41_v0) m (T_15_41_0_0 p0 p1 p2 p3) k = Sp.B_15_41_0_0 (Sp.L_15_41_0_0 m p0 p1 p2 p3) (fun p2 p3 => k Ex.ret (X_15_41_0_0_0 p2 p3)) (fun p3 => k (Ex.exit (0 : Nat)) (X_15_41_0_0_1 p3))
  | 0, _, _, _, _ => rfl
  | m + 1, p0, p1, p2, p3 => by
    rw [evLoopN_succ, body_15_41_0_0, Sp.L_15_41_0_0]
    repeat' first | apply Bgd_15_41_0_0 | apply Bcond_15_41_0_0 | exact loop_15_41_0_0 k m _ _ _ _ | rfl
theorem ok_15_41_0_0 {R : Type} (T : St) (k : Ex → St → Option R) (r : R) (h0 : o_15_41_0_0 G_15_41_0_0 T k = some r) : evLoopN (evCode sm_15 FU (evFn sm_15 fns FU 1) ir41_b0) (St.norm ir41_v0) FU T k = some r := by
  obtain ⟨p0, p1, p2, p3, rfl, h⟩ := o_15_41_0_0_inv h0
  refine evLoopN_L (t := .nil) noO_ok trivial _ _ _ _ ?_
  rw [loop_15_41_0_0]
  exact h
theorem OK_15_41_0 {R : Type} (T : St) (k : Ex → St → Option R) (r : R) (h : O_15_41_0 T k = some r) : evLoopN (evCode sm_15 FU (evFn sm_15 fns FU 1) ir41_b0) (St.norm ir41_v0) FU T k = some r := ok_15_41_0_0 T k r h
theorem g_15_41_ok {R : Type} (args : List CV) (hp : List Blk) (k : CV → List Blk → Option R) (r : R) (h : g_15_41 args hp k = some r) : evFn sm_15 fns FU 2 41 args hp k = some r :=
  evFnL_sound (fn := ir41) (t := (ir41_t O_15_41_0)) (o := noO) rfl noO_ok (ir41_tok (fun T k r => OK_15_41_0 T k r)) h
theorem ov_15_27_ok {R : Type} : OvrOK (R := R) (fun f' => bif Nat.beq f' 41 then some (g_15_41) else none) (evFn sm_15 fns FU 2) := by
  intro f' g h args hp k r hg
  dsimp only at h
  by_cases h41 : f' = 41
  · subst h41
    injection h with h
    subst h
    exact evFn_le 0 (g_15_41_ok _ _ _ _ hg)
  rw [nbeq_ne h41, cond_false] at h
  cases h
theorem g_15_27_ok {R : Type} (args : List CV) (hp : List Blk) (k : CV → List Blk → Option R) (r : R) (h : g_15_27 args hp k = some r) : evFn sm_15 fns FU 3 27 args hp k = some r :=
  evFnL_sound (fn := ir27) (t := .nil) (o := (fun f' => bif Nat.beq f' 41 then some (g_15_41) else none)) rfl ov_15_27_ok trivial h
theorem ov_15_15_ok {R : Type} : OvrOK (R := R) (fun f' => bif Nat.beq f' 27 then some (g_15_27) else none) (evFn sm_15 fns FU 3) := by
  intro f' g h args hp k r hg
  dsimp only at h
  by_cases h27 : f' = 27
  · subst h27
    injection h with h
    subst h
    exact evFn_le 0 (g_15_27_ok _ _ _ _ hg)
  rw [nbeq_ne h27, cond_false] at h
  cases h
theorem body_15_1 {R : Type} (K0 : St → Option R) (K1 : Ex → St → Option R) (p0 : Zt15_6) (p1 : Int) (p2 : Int) (p3 : Zt15_0) : evLB (evCodeL sm_15 FU (ovr (fun f' => bif Nat.beq f' 27 then some (g_15_27) else none) (evFn sm_15 fns FU 3)) .nil ir15_b1) (St.norm ir15_v1) (T_15_1 p0 p1 p2 p3) K0 K1 =
  bif decide (p2 < p1) then gd (inB p2 (List.length p0)) (gd (inB p2 (List.length (p3.1))) (gd (Sp.p_32 (List.getD (p3.1) (Int.toNat p2) (Ty.dflt Zy15_3)) (List.getD p0 (Int.toNat p2) (Ty.dflt Zy15_4)) (p3.2.2.1)) (bif !(Sp.v_32 (List.getD (p3.1) (Int.toNat p2) (Ty.dflt Zy15_3)) (List.getD p0 (Int.toNat p2) (Ty.dflt Zy15_4)) (p3.2.2.1)).1 then K1 Ex.ret X_15_1_0 else K0 (T_15_1 p0 p1 (IntKind.wrap IntKind.i64 (p2 + (1 : Int))) p3)))) else K1 (Ex.exit (0 : Nat)) X_15_1_1 := by kernel_rfl
theorem Bgd_15_1 {R : Type} {c : Bool} {x : Option R} {y : Option Sp.E_15_1} {k0 : Option R} {k1 : Option R} (h : x = Sp.B_15_1 y k0 k1) : gd c x = Sp.B_15_1 (gd c y) k0 k1 := by cases c; rfl; exact h
theorem Bcond_15_1 {R : Type} {c : Bool} {x x' : Option R} {y y' : Option Sp.E_15_1} {k0 : Option R} {k1 : Option R} (h : x = Sp.B_15_1 y k0 k1) (h' : x' = Sp.B_15_1 y' k0 k1) : (bif c then x else x') = Sp.B_15_1 (bif c then y else y') k0 k1 := by cases c; exact h'; exact h
theorem loop_15_1 {R : Type} (k : Ex → St → Option R) : ∀ (m : Nat) (p0 : Zt15_6) (p1 : Int) (p2 : Int) (p3 : Zt15_0), evLoopN (evCodeL sm_15 FU (ovr (fun f' => bif Nat.beq f' 27 then some (g_15_27) else none) (evFn sm_15 fns FU 3)) .nil ir15_b1) (St.norm ir15_v1) m (T_15_1 p0 p1 p2 p3) k = Sp.B_15_1 (Sp.L_15_1 m p0 p1 p2 p3) (k Ex.ret (X_15_1_0)) (k (Ex.exit (0 : Nat)) (X_15_1_1))
  | 0, _, _, _, _ => rfl
  | m + 1, p0, p1, p2, p3 => by
    rw [evLoopN_succ, body_15_1, Sp.L_15_1]
    repeat' first | apply Bgd_15_1 | apply Bcond_15_1 | exact loop_15_1 k m _ _ _ _ | rfl
theorem ok_15_1 {R : Type} (T : St) (k : Ex → St → Option R) (r : R) (h0 : o_15_1 G_15_1 T k = some r) : evLoopN (evCode sm_15 FU (evFn sm_15 fns FU 3) ir15_b1) (St.norm ir15_v1) FU T k = some r := by
  obtain ⟨p0, p1, p2, p3, rfl, h⟩ := o_15_1_inv h0
  refine evLoopN_L (t := .nil) ov_15_15_ok trivial _ _ _ _ ?_
  rw [loop_15_1]
  exact h
theorem OK_15_15_1 {R : Type} (T : St) (k : Ex → St → Option R) (r : R) (h : O_15_15_1 T k = some r) : evLoopN (evCode sm_15 FU (evFn sm_15 fns FU 3) ir15_b1) (St.norm ir15_v1) FU T k = some r := ok_15_1 T k r h
theorem body_15_0 {R : Type} (K1 : Ex → St → Option R) (p0 : Zt15_0) : evJ (evCodeL sm_15 FU (ovr (fun f' => bif Nat.beq f' 27 then some (g_15_27) else none) (evFn sm_15 fns FU 3)) (ir15_bt0 O_15_15_1) ir15_b0) (T_15_0 p0) K1 =
  Sp.B_15_1 (Sp.L_15_1 (4611686018427387904 : Nat) (p0.2.1) (↑(List.length (p0.2.1)) : Int) (0 : Int) p0) (K1 Ex.ret X_15_0_0) (K1 Ex.ret X_15_0_1) := by kernel_rfl
theorem Bgd_15_0 {R : Type} {c : Bool} {x : Option R} {y : Option Sp.E_15_0} {k0 : Option R} {k1 : Option R} (h : x = Sp.B_15_0 y k0 k1) : gd c x = Sp.B_15_0 (gd c y) k0 k1 := by cases c; rfl; exact h
theorem Bcond_15_0 {R : Type} {c : Bool} {x x' : Option R} {y y' : Option Sp.E_15_0} {k0 : Option R} {k1 : Option R} (h : x = Sp.B_15_0 y k0 k1) (h' : x' = Sp.B_15_0 y' k0 k1) : (bif c then x else x') = Sp.B_15_0 (bif c then y else y') k0 k1 := by cases c; exact h'; exact h
theorem Bin_15_0_15_1 {R : Type} {r : Option Sp.E_15_1} {k0 : Option R} {k1 : Option R} {f0 : Option R} {f1 : Option R} {g0 : Option Sp.E_15_0} {g1 : Option Sp.E_15_0} (h0 : f0 = Sp.B_15_0 g0 k0 k1) (h1 : f1 = Sp.B_15_0 g1 k0 k1) : Sp.B_15_1 r f0 f1 = Sp.B_15_0 (Sp.B_15_1 r g0 g1) k0 k1 := by
  cases r with
  | none => rfl
  | some e => cases e with
    | e0 => exact h0
    | e1 => exact h1
theorem loop_15_0 {R : Type} (k : Ex → St → Option R) (p0 : Zt15_0) : evJ (evCodeL sm_15 FU (ovr (fun f' => bif Nat.beq f' 27 then some (g_15_27) else none) (evFn sm_15 fns FU 3)) (ir15_bt0 O_15_15_1) ir15_b0) (T_15_0 p0) k = Sp.B_15_0 (Sp.J_15_0 p0) (k Ex.ret (X_15_0_0)) (k Ex.ret (X_15_0_1)) := by
  rw [body_15_0, Sp.J_15_0]
  repeat' first | apply Bgd_15_0 | apply Bcond_15_0 | (apply Bin_15_0_15_1 <;> intros) | rfl
theorem ok_15_0 {R : Type} (T : St) (k : Ex → St → Option R) (r : R) (h0 : o_15_0 G_15_0 T k = some r) : evCode sm_15 FU (evFn sm_15 fns FU 3) ir15_b0 T k = some r := by
  obtain ⟨p0, rfl, h⟩ := o_15_0_inv h0
  refine bodyL_sound (t := (ir15_bt0 O_15_15_1)) ov_15_15_ok (ir15_bt0ok (fun T k r => OK_15_15_1 T k r)) (((show ∀ (b : St → (Ex → St → Option R) → Option R) (T : St) (k : Ex → St → Option R), b T k = evJ b T k from fun _ _ _ => rfl) _ _ _).trans ((loop_15_0 k p0).trans h))
theorem OK_15_15_0 {R : Type} (T : St) (k : Ex → St → Option R) (r : R) (h : O_15_15_0 T k = some r) : evCode sm_15 FU (evFn sm_15 fns FU 3) ir15_b0 T k = some r := ok_15_0 T k r h
def F_15 (a0 : ((List (Int × (Int × (Int × (Int × (Int × (Int × (Bool × (Int × Unit))))))))) × ((List (Int × (Int × (Int × (Int × (Int × ((List Int) × (Int × Unit)))))))) × (Int × (Bool × Unit))))) : Option (Bool × Unit) :=
  bif decide ((↑(List.length (a0.1)) : Int) > (64 : Int)) then some (false, PUnit.unit) else Sp.B_15_41_0_0 (Sp.L_15_41_0_0 (4611686018427387904 : Nat) (a0.1) (↑(List.length (a0.1)) : Int) (0 : Int) a0) (fun (y11 : Int) (y12 : List (Int × Int × Int × Int × Int × Int × Bool × Int × PUnit) × List (Int × Int × Int × Int × Int × List Int × Int × PUnit) × Int × Bool × PUnit) => bif decide (y11 ≥ (0 : Int)) then some (false, PUnit.unit) else bif !Sp.dst (List.map (fun (y13 : Ty.den CfgTy) => y13.1) (y12.1)) then some (false, PUnit.unit) else bif (↑(List.length (y12.2.1)) : Int) != (↑(List.length (y12.1)) : Int) then some (false, PUnit.unit) else gd (Sp.p_25 (y12.2.2.1) (0 : Int) (1073741824 : Int)) (bif !(Sp.v_25 (y12.2.2.1) (0 : Int) (1073741824 : Int)).1 then some (false, PUnit.unit) else bif y12.2.2.2.1 then bif decide (y12.2.2.1 < (1 : Int)) then some (false, PUnit.unit) else Sp.B_15_0 (Sp.J_15_0 y12) (some (false, PUnit.unit)) (some (true, PUnit.unit)) else Sp.B_15_0 (Sp.J_15_0 y12) (some (false, PUnit.unit)) (some (true, PUnit.unit)))) fun (y16 : List (Int × Int × Int × Int × Int × Int × Bool × Int × PUnit) × List (Int × Int × Int × Int × Int × List Int × Int × PUnit) × Int × Bool × PUnit) => bif !Sp.dst (List.map (fun (y17 : Ty.den CfgTy) => y17.1) (y16.1)) then some (false, PUnit.unit) else bif (↑(List.length (y16.2.1)) : Int) != (↑(List.length (y16.1)) : Int) then some (false, PUnit.unit) else gd (Sp.p_25 (y16.2.2.1) (0 : Int) (1073741824 : Int)) (bif !(Sp.v_25 (y16.2.2.1) (0 : Int) (1073741824 : Int)).1 then some (false, PUnit.unit) else bif y16.2.2.2.1 then bif decide (y16.2.2.1 < (1 : Int)) then some (false, PUnit.unit) else Sp.B_15_0 (Sp.J_15_0 y16) (some (false, PUnit.unit)) (some (true, PUnit.unit)) else Sp.B_15_0 (Sp.J_15_0 y16) (some (false, PUnit.unit)) (some (true, PUnit.unit)))
theorem fn_15 (a0 : ((List (Int × (Int × (Int × (Int × (Int × (Int × (Bool × (Int × Unit))))))))) × ((List (Int × (Int × (Int × (Int × (Int × ((List Int) × (Int × Unit)))))))) × (Int × (Bool × Unit))))) : evFnL sm_15 FU (ovr (fun f' => bif Nat.beq f' 27 then some (g_15_27) else none) (evFn sm_15 fns FU 3)) (ir15_t O_15_15_0) ir15 (ofH [Zy15_2] (a0, ())) [] (pureK [.bool]) = F_15 a0 := by kernel_rfl
def Sp.p_15 (a0 : ((List (Int × (Int × (Int × (Int × (Int × (Int × (Bool × (Int × Unit))))))))) × ((List (Int × (Int × (Int × (Int × (Int × ((List Int) × (Int × Unit)))))))) × (Int × (Bool × Unit))))) : Bool := (F_15 a0).isSome
def Sp.v_15 (a0 : ((List (Int × (Int × (Int × (Int × (Int × (Int × (Bool × (Int × Unit))))))))) × ((List (Int × (Int × (Int × (Int × (Int × ((List Int) × (Int × Unit)))))))) × (Int × (Bool × Unit))))) : Bool × Unit := (F_15 a0).getD (dfH [.bool])
def s_15 : Summ := shN [Zy15_2] [.bool] (fun x => Sp.p_15 x.1) (fun x => Sp.v_15 x.1)
theorem pv_15 (a0 : ((List (Int × (Int × (Int × (Int × (Int × (Int × (Bool × (Int × Unit))))))))) × ((List (Int × (Int × (Int × (Int × (Int × ((List Int) × (Int × Unit)))))))) × (Int × (Bool × Unit))))) {y : Bool × Unit} (h : F_15 a0 = some y) : Sp.p_15 a0 = true ∧ Sp.v_15 a0 = y := ⟨by rw [Sp.p_15, h]; rfl, by rw [Sp.v_15, h]; rfl⟩
theorem run_15 (x : HDen [Zy15_2]) (y : HDen [.bool]) (h : F_15 x.1 = some y) : evFn sm_15 fns FU 4 15 (ofH [Zy15_2] x) [] (pureK [.bool]) = some y :=
  evFnL_sound (fn := ir15) (t := (ir15_t O_15_15_0)) (o := (fun f' => bif Nat.beq f' 27 then some (g_15_27) else none)) rfl ov_15_15_ok (ir15_tok (fun T k r => OK_15_15_0 T k r)) ((fn_15 _).trans h)
end
end Go.Ev
