/- Helpers: functions of the program as Lean functions, and what they compute. No condition. -/
import Derived.Test.YthepgngekfoheaaProg
import Derived.WalkKit
import Derived.Maps.OwnSet
import Derived.Maps.Views
import Derived.Maps.OwnOps
import Derived.Test.YthepgngekfoheaaE3P2
set_option maxRecDepth 10000
set_option linter.unusedVariables false
set_option linter.unusedSimpArgs false
set_option linter.unusedSimpArgs false
set_option linter.unusedVariables false
namespace Go.Ev
open Go Go.Proofs Go.RowKit Go.Maps
set_option maxRecDepth 100000
set_option maxHeartbeats 4000000
theorem cd_law3 : Keyed Try.prog 3 := int_keyed Try.underlying3
theorem cd_zero4 (w : World) : (zeroValue 4).run Try.prog w = .ok (.bool false) w := by kernel_rfl
/-- The map holds what was seen. -/
noncomputable def Seen (D : DataW Unit) (l : List Int) : Prop := ∀ x : Int, D.atKey (.int .i64 x) (.lit (.bool false)) = .lit (.bool (l.contains x))
theorem Seen.put {D : DataW Unit} {l : List Int} (h : Seen D l) (hD : IsMap D) (x : Int) : Seen (D.put (.int .i64 x) (.lit (.bool true))) (l ++ [x]) := by
  intro y
  by_cases e : y = x
  · subst e
    rw [atKey_put_same hD (by simp [WideAt.IsKeyLit])]
    simp
  · rw [atKey_put_other (by intro h; cases h; exact e rfl), h y]
    congr 2
    simp [e]
theorem codes_walk (b off n cap : Nat) (w : World) (cs : List Int) (c1 c2 c3 c4 c5 : Nat → Int) (c6 : Nat → Bool) (c7 : Nat → Int) (hb : b < w.heap.size) (hn : n ≤ maxLen) (hl : cs.length = n) (hwf : ∀ k, (Lit.int .i64 (cs.getD k 0)).wf = true)
   (h0 : ∀ j, j < n → w.cell? ⟨b, off + j * 8, none⟩ = some (.int .i64 (cs.getD j 0)))
   (h1 : ∀ j, j < n → w.cell? ⟨b, off + j * 8 + 1, none⟩ = some (.int .i64 (c1 j)))
   (h2 : ∀ j, j < n → w.cell? ⟨b, off + j * 8 + 2, none⟩ = some (.int .i64 (c2 j)))
   (h3 : ∀ j, j < n → w.cell? ⟨b, off + j * 8 + 3, none⟩ = some (.int .i64 (c3 j)))
   (h4 : ∀ j, j < n → w.cell? ⟨b, off + j * 8 + 4, none⟩ = some (.int .i64 (c4 j)))
   (h5 : ∀ j, j < n → w.cell? ⟨b, off + j * 8 + 5, none⟩ = some (.int .i64 (c5 j)))
   (h6 : ∀ j, j < n → w.cell? ⟨b, off + j * 8 + 6, none⟩ = some (.bool (c6 j)))
   (h7 : ∀ j, j < n → w.cell? ⟨b, off + j * 8 + 7, none⟩ = some (.int .i64 (c7 j)))
   : Calls Try.prog 26 #[.slice (some ⟨b, off, none⟩) n cap] w fun e w' => e = .returned (.bool (Sp.dst cs)) ∧ Below w.heap.size w w' := by
  have hn64 : n ≤ 9223372036854775807 := by simpa [maxLen] using hn
  have hmm := @run_makeMap Try.prog
  go_enter Try.func26, Try.ntmps26
  go_wp2
  go_loopw [9] (fun i wr => ∃ (k : Nat) (D : DataW Unit), (k ≤ n ∧ i = .int .i64 k ∧ (cs.take k).Nodup ∧ Seen D (cs.take k)) ∧ wr.ownsMap Try.prog 3 (plainElem Try.prog 4) w.heap.size k D ∧ Below w.heap.size w wr)
    (fun i _ => n - (intOf i).toNat)
  case atStart => exact ⟨0, .map [], ⟨Nat.zero_le _, rfl, by simp, fun x => rfl⟩, World.ownsMap_made _ _ _ _, (Below.refl _ _).alloc (Nat.le_refl _) _⟩
  case round =>
    obtain ⟨k, D, ⟨hk, rfl, hnd, hseen⟩, hown, hnx⟩ := hrel
    have hc0 : k < n → wr.cell? ⟨b, off + k * 8, none⟩ = some (.int .i64 (cs.getD k 0)) := fun h => (hnx.cell hb).trans (h0 k h)
    have hc1 : k < n → wr.cell? ⟨b, off + k * 8 + 1, none⟩ = some (.int .i64 (c1 k)) := fun h => (hnx.cell hb).trans (h1 k h)
    have hc2 : k < n → wr.cell? ⟨b, off + k * 8 + 2, none⟩ = some (.int .i64 (c2 k)) := fun h => (hnx.cell hb).trans (h2 k h)
    have hc3 : k < n → wr.cell? ⟨b, off + k * 8 + 3, none⟩ = some (.int .i64 (c3 k)) := fun h => (hnx.cell hb).trans (h3 k h)
    have hc4 : k < n → wr.cell? ⟨b, off + k * 8 + 4, none⟩ = some (.int .i64 (c4 k)) := fun h => (hnx.cell hb).trans (h4 k h)
    have hc5 : k < n → wr.cell? ⟨b, off + k * 8 + 5, none⟩ = some (.int .i64 (c5 k)) := fun h => (hnx.cell hb).trans (h5 k h)
    have hc6 : k < n → wr.cell? ⟨b, off + k * 8 + 6, none⟩ = some (.bool (c6 k)) := fun h => (hnx.cell hb).trans (h6 k h)
    have hc7 : k < n → wr.cell? ⟨b, off + k * 8 + 7, none⟩ = some (.int .i64 (c7 k)) := fun h => (hnx.cell hb).trans (h7 k h)
    have hkey : keyOf Try.prog 3 (.int .i64 (cs.getD k 0)) = some (.int .i64 (cs.getD k 0)) := keyOf_int_mk Try.underlying3 (hwf k)
    have hlook : ∀ W : World, W.ownsMap Try.prog 3 (plainElem Try.prog 4) w.heap.size k D → (Instr.lookup 81 (.map (some w.heap.size)) (.int .i64 (cs.getD k 0)) false).run Try.prog W = .ok (.bool ((cs.take k).contains (cs.getD k 0))) W := by
      intro W hW
      obtain ⟨v, ps, hrun, hv⟩ := hW.lookup cd_law3 Try.underlying81 (cd_zero4 _) (plainElem_bool Try.underlying4 false) hkey
      rw [hseen] at hv
      have e : v = .bool ((cs.take k).contains (cs.getD k 0)) := by
        unfold plainElem at hv
        rw [Try.underlying4] at hv
        cases v <;> simp at hv
        rw [hv.1]
        simp
      rw [hrun, e]
    generalize hx : cs.getD k 0 = x at hc0 hkey hlook
    have hown2 := hown.alloc (.cells #[.int .i64 x, .int .i64 (c1 k), .int .i64 (c2 k), .int .i64 (c3 k), .int .i64 (c4 k), .int .i64 (c5 k), .bool (c6 k), .int .i64 (c7 k)] 58)
    have hlk := hlook _ hown2
    clear hlook
    by_cases hkn : k < n
    · cases hbb : (cs.take k).contains x
      · rw [hbb] at hlk
        go_wp2_with (first
          | (at_mapUpdate; refine wpList_mapUpdate_own _ rfl _ _ _ 81 rfl 3 4 cd_law3 Try.underlying81 _ w.heap.size k _ rfl hown2 (by omega) _ _ _ rfl rfl hkey _ [] (plainElem_bool Try.underlying4 true) ?_; intro w1 hown1 hgrow1)
          | go_in)
        go_roundw
        case rel =>
          refine ⟨k + 1, _, ⟨by omega, by go_num, ?_, ?_⟩, hown1, ?_⟩
          · exact Sp.nodup_take (by omega) hnd (by rw [hx]; exact hbb)
          · have := hseen.put hown.isMap x
            rw [List.take_succ_eq_append_getElem (by omega)]
            have e : cs[k]'(by omega) = x := by rw [← hx]; simp [List.getD_eq_getElem?_getD, show k < cs.length by omega]
            rw [e]
            exact this
          · exact (hnx.alloc (by simpa using hnx.size) _).grown hgrow1 (by simpa using Nat.le_succ_of_le hnx.size) (fun j hj => by cases hj; exact Nat.le_refl _)
        case measure => simp [intOf]; omega
      · rw [hbb] at hlk
        go_wp2
        go_ret
        refine ⟨?_, hnx.alloc (by simpa using hnx.size) _⟩
        rw [Sp.dst_false (Sp.not_nodup (k := k) (by omega) (by rw [hx]; exact hbb))]
        rfl
    · have : k = n := by omega
      subst this
      go_wp2
      go_ret
      refine ⟨?_, hnx⟩
      rw [List.take_of_length_le (by omega)] at hnd
      rw [(Sp.dst_nodup cs).2 hnd]
      rfl
theorem codes_none (a : Option Addr) (cap : Nat) (w : World) : Calls Try.prog 26 #[.slice a 0 cap] w fun e w' => e = .returned (.bool true) ∧ Below w.heap.size w w' := by
  have hmm := @run_makeMap Try.prog
  go_enter Try.func26, Try.ntmps26
  go_wp2
  refine wp_loop_rounds 1 ?_
  rw [rounds_succ]
  go_wp2
  go_ret
  exact ⟨rfl, (Below.refl _ _).alloc (Nat.le_refl _) _⟩
/-- The summary. -/
theorem cfg_cells {w : World} {I : Nat → Prop} {x : CfgTy.den} {cs : List Value} (h : RepD w I CfgTy x cs) : cs = [.int .i64 x.1, .int .i64 x.2.1, .int .i64 x.2.2.1, .int .i64 x.2.2.2.1, .int .i64 x.2.2.2.2.1, .int .i64 x.2.2.2.2.2.1, .bool x.2.2.2.2.2.2.1, .int .i64 x.2.2.2.2.2.2.2.1] ∧ IntKind.wrap .i64 x.1 = x.1 := by
  obtain ⟨a0, r0, rfl, ⟨rfl, hw⟩, a1, r1, rfl, ⟨rfl, _⟩, a2, r2, rfl, ⟨rfl, _⟩, a3, r3, rfl, ⟨rfl, _⟩, a4, r4, rfl, ⟨rfl, _⟩, a5, r5, rfl, ⟨rfl, _⟩, a6, r6, rfl, rfl, a7, r7, rfl, ⟨rfl, _⟩, rfl⟩ := h
  exact ⟨rfl, hw⟩
theorem sok_26 : SummOK Try.prog 26 codesS := by
  unfold codesS shN fN
  refine summ_of_callsN (rs := [.bool]) rfl (by kernel_rfl) ?_ ?_
  · intro cs' r h
    split at h
    · simp at h; subst h
      rfl
    · cases h
  · intro w I look cs cs' l vs himm hp h hvs
    obtain ⟨x, rfl⟩ := purify_ofH hp
    rw [toH_ofH] at h
    simp only [Option.some.injEq, Prod.mk.injEq, true_and] at h
    subst h
    obtain ⟨xs, _⟩ := x
    match vs, hvs with
    | [v], ⟨hv, _⟩ =>
      obtain ⟨a, c, ev, q1, q2, q3⟩ := VRep_slice.1 hv
      simp at ev
      subst ev
      have fin : ∀ (w' : World), VRep (pureE w' I) (tupOf (ofH [.bool] (Sp.dst ((show List CfgTy.den from xs).map fun c => c.1), ()))) (.bool (Sp.dst ((show List CfgTy.den from xs).map fun c => c.1))) := by
        intro w'
        exact (VRep_one rfl (by simp [tupOf, ofH, ofP])).2 rfl
      by_cases h0 : 0 < List.length xs
      · obtain ⟨b, off, rows, rfl, hI, hcell, hrows⟩ := q3 h0
        have hrow : ∀ i, i < List.length xs → ∃ l r, rows = l ++ [.int .i64 (xs.getD i CfgTy.dflt).1, .int .i64 (xs.getD i CfgTy.dflt).2.1, .int .i64 (xs.getD i CfgTy.dflt).2.2.1, .int .i64 (xs.getD i CfgTy.dflt).2.2.2.1, .int .i64 (xs.getD i CfgTy.dflt).2.2.2.2.1, .int .i64 (xs.getD i CfgTy.dflt).2.2.2.2.2.1, .bool (xs.getD i CfgTy.dflt).2.2.2.2.2.2.1, .int .i64 (xs.getD i CfgTy.dflt).2.2.2.2.2.2.2.1] ++ r ∧ l.length = i * 8 ∧ IntKind.wrap .i64 (xs.getD i CfgTy.dflt).1 = (xs.getD i CfgTy.dflt).1 := by
          intro i hi
          obtain ⟨c, hc, l, r, e, hl⟩ := Rows.at_ (fun x c => RepD.len CfgTy x c) CfgTy.dflt xs rows hrows i hi
          obtain ⟨rfl, hw⟩ := cfg_cells hc
          exact ⟨l, r, e, hl, hw⟩
        have hcl : ∀ (i q : Nat) (u : Value), i < List.length xs → q < 8 → [.int .i64 (xs.getD i CfgTy.dflt).1, .int .i64 (xs.getD i CfgTy.dflt).2.1, .int .i64 (xs.getD i CfgTy.dflt).2.2.1, .int .i64 (xs.getD i CfgTy.dflt).2.2.2.1, .int .i64 (xs.getD i CfgTy.dflt).2.2.2.2.1, .int .i64 (xs.getD i CfgTy.dflt).2.2.2.2.2.1, .bool (xs.getD i CfgTy.dflt).2.2.2.2.2.2.1, .int .i64 (xs.getD i CfgTy.dflt).2.2.2.2.2.2.2.1][q]? = some u → w.cell? ⟨b, off + (i * 8 + q), none⟩ = some u := by
          intro i q u hi hq hu
          obtain ⟨l, r, e, hl, _⟩ := hrow i hi
          refine hcell (i * 8 + q) u ?_
          rw [e, List.append_assoc, List.getElem?_append_right (by omega), hl, Nat.add_sub_cancel_left, List.getElem?_append_left (by simpa using hq)]
          exact hu
        have hget : ∀ j, j < List.length xs → ((show List CfgTy.den from xs).map fun c => c.1).getD j 0 = (xs.getD j CfgTy.dflt).1 := by
          intro j hj
          have hj' : j < (show List CfgTy.den from xs).length := hj
          simp [List.getD_eq_getElem?_getD, hj']
        have hwf : ∀ k, (Lit.int .i64 (((show List CfgTy.den from xs).map fun c => c.1).getD k 0)).wf = true := by
          intro k
          by_cases hk : k < List.length xs
          · rw [hget k hk]
            obtain ⟨_, _, _, _, hw⟩ := hrow k hk
            exact wf_wrap hw
          · rw [List.getD_eq_getElem?_getD, List.getElem?_eq_none (by simpa using hk)]
            decide
        refine Calls.mono (codes_walk b off (List.length xs) c w ((show List CfgTy.den from xs).map fun c => c.1) (fun j => (xs.getD j CfgTy.dflt).2.1) (fun j => (xs.getD j CfgTy.dflt).2.2.1) (fun j => (xs.getD j CfgTy.dflt).2.2.2.1) (fun j => (xs.getD j CfgTy.dflt).2.2.2.2.1) (fun j => (xs.getD j CfgTy.dflt).2.2.2.2.2.1) (fun j => (xs.getD j CfgTy.dflt).2.2.2.2.2.2.1) (fun j => (xs.getD j CfgTy.dflt).2.2.2.2.2.2.2.1) (himm b hI) (Nat.le_trans q1 q2) (by simp) hwf
          (fun j hj => by rw [hget j hj]; exact hcl j 0 _ hj (by omega) rfl)
          (fun j hj => hcl j 1 _ hj (by omega) rfl) (fun j hj => hcl j 2 _ hj (by omega) rfl) (fun j hj => hcl j 3 _ hj (by omega) rfl) (fun j hj => hcl j 4 _ hj (by omega) rfl) (fun j hj => hcl j 5 _ hj (by omega) rfl) (fun j hj => hcl j 6 _ hj (by omega) rfl) (fun j hj => hcl j 7 _ hj (by omega) rfl)) ?_
        rintro e w' ⟨rfl, hbel⟩
        exact ⟨_, rfl, hbel, fin w'⟩
      · have h0 : List.length xs = 0 := by omega
        have hx := List.eq_nil_of_length_eq_zero h0
        rw [h0]
        refine Calls.mono (codes_none a c w) ?_
        rintro e w' ⟨rfl, hbel⟩
        refine ⟨_, rfl, hbel, ?_⟩
        have := fin w'
        rw [hx] at this ⊢
        exact this
end Go.Ev
namespace Go.Ev
open Go
abbrev Zd0 := (Ty.dflt (.pair (.int .i64) (.pair (.int .i64) (.pair (.int .i64) (.pair (.int .i64) (.pair (.int .i64) (.pair (.int .i64) (.pair .bool (.pair (.int .i64) .unit)))))))))
abbrev Zd1 := (Ty.dflt (.pair (.int .i64) (.pair (.int .i64) (.pair (.int .i64) (.pair (.int .i64) (.pair (.int .i64) (.pair (.slice (.int .i64)) (.pair (.int .i64) .unit))))))))
abbrev Zd2 := (Ty.dflt (.pair (.int .u32) (.pair (.slice (.int .u8)) .unit)))
abbrev Zi0 : Ty := (.pair (.int .i64) (.pair (.int .i64) (.pair (.int .i64) (.pair (.int .i64) (.pair (.int .i64) (.pair (.int .i64) (.pair .bool (.pair (.int .i64) .unit))))))))
abbrev Zi1 : Ty := (.pair (.int .i64) (.pair (.int .i64) (.pair (.int .i64) (.pair (.int .i64) (.pair (.int .i64) (.pair (.slice (.int .i64)) (.pair (.int .i64) .unit)))))))
abbrev Zi2 : Ty := (.pair (.int .i64) (.pair (.int .i64) (.pair (.int .i64) (.pair (.int .i64) (.pair (.int .i64) (.pair (.int .i64) .unit))))))
abbrev Zi3 : Ty := (.pair (.int .i64) (.pair .bool .unit))
noncomputable def jl (n : Nat) : List CV := List.replicate n .junk
abbrev op0 (d : Nat) (op : IOp) (args : List Opd) : IOper := ⟨some d, op, args, none, 0, []⟩
noncomputable def ir3_b2 : IC := (.seq (.seq (.region false 0 [ op0 119 .mov [.tmp 13]]) (.cond (.tmp 119) (.seq (.region false 2 [ op0 121 (.load true 4) [.tmp 2], op0 122 (.callS 16) [.tmp 121], op0 120 .mov [.tmp 122], op0 123 (.extract 0) [.tmp 120], op0 124 (.extract 1) [.tmp 120], ⟨some 14, .alloc 25 (.pair (.nil 58 Zi0) (.pair (.nil 60 Zi1) (.pure Zi3 (0, (false, ()))))), [], none, 0, []⟩, ⟨none, .store 4, [.tmp 14, .tmp 123], none, 0, []⟩, op0 15 .mov [.tmp 124]]) (.seq (.region false 1 [ op0 125 .mov [.tmp 15], op0 126 (.bin .neq) [.tmp 125, .cst (.int .i64 0)], op0 127 .mov [.tmp 126], ⟨some 128, .mov, [.tmp 9], some (127, false), 0, []⟩, ⟨some 129, .bin .eql, [.tmp 128, .cst (.int .i64 1)], some (127, false), 0, []⟩, op0 130 .pick [.tmp 127, .cst (.bool true), .tmp 129], op0 131 .mov [.tmp 130], ⟨some 132, .load true 4, [.tmp 11], some (131, false), 0, []⟩, ⟨some 133, .load true 4, [.tmp 14], some (131, false), 0, []⟩, ⟨some 134, .callS 17, [.tmp 132, .tmp 133], some (131, false), 0, []⟩, ⟨some 135, .not, [.tmp 134], some (131, false), 0, []⟩, op0 136 .pick [.tmp 131, .cst (.bool true), .tmp 135]]) (.cond (.tmp 136) (.seq (.region false 0 [ op0 4 .mov [.cst (.bool false)]]) (.cut [4] (.ret))) (.skip)))) (.seq (.region false 1 [ op0 137 (.load true 4) [.tmp 2], op0 138 (.load true 4) [.tmp 11], op0 139 (.callS 17) [.tmp 137, .tmp 138], op0 140 .not [.tmp 139]]) (.cond (.tmp 140) (.seq (.region false 0 [ op0 4 .mov [.cst (.bool false)]]) (.cut [4] (.ret))) (.skip))))) (.region true 0 [ op0 141 (.load true 6) [.tmp 10], op0 142 (.load true 4) [.tmp 11], ⟨none, .store 6, [.tmp 5, .tmp 141], none, 0, [0]⟩, ⟨none, .store 4, [.tmp 2, .tmp 142], none, 0, [1, 2, 0]⟩]))
noncomputable def ir3_v2 : List Nat := [2, 5, 6, 9, 10, 11, 13, 32, 33, 34]
noncomputable def ir3_b1 : IC := (.seq (.region false 0 [ op0 110 .mov [.tmp 12], op0 111 .len [.tmp 110], op0 112 (.bin .eql) [.tmp 111, .cst (.int .i64 1)], op0 113 .mov [.tmp 112], ⟨some 114, .mov, [.tmp 12], some (113, true), 0, []⟩, ⟨some 115, .idxSl 1, [.tmp 114, .cst (.int .i64 0)], some (113, true), 0, []⟩, ⟨some 116, .load false 1, [.tmp 115], some (113, true), 0, []⟩, ⟨some 117, .bin .eql, [.tmp 116, .cst (.int .u8 84)], some (113, true), 0, []⟩, op0 118 .pick [.tmp 113, .tmp 117, .cst (.bool false)], op0 13 .mov [.tmp 118]]) (.cut ir3_v2 ir3_b2))
noncomputable def ir3_v1 : List Nat := [2, 5, 6, 9, 10, 11, 12, 32, 33, 34]
noncomputable def ir3_bt1 {R : Type} (o2 : St → (Ex → St → Option R) → Option R) : LT R := (.node .nil (.orc o2))
noncomputable def ir3_b0 : IC := (.seq (.region false 0 [ op0 35 (.bin .lss) [.tmp 34, .tmp 33]]) (.seq (.cond (.tmp 35) (.skip) (.cut [] (.exit 0))) (.seq (.block 1 (.seq (.region false 1 [ op0 36 (.idxSl 2) [.tmp 32, .tmp 34], op0 37 (.load true 2) [.tmp 36], ⟨some 8, .alloc 36 (.pair (.int .u32 0) (.pair (.nil 5 (.int .u8)) (.pure .unit ()))), [], none, 0, []⟩, ⟨none, .store 2, [.tmp 8, .tmp 37], none, 0, []⟩]) (.seq (.region false 0 [ op0 38 .mov [.tmp 6], op0 39 (.fieldAddr 0 0) [.tmp 8], op0 40 (.load false 1) [.tmp 39], op0 41 (.conv .i64) [.tmp 40], op0 42 (.bin .add) [.tmp 38, .tmp 41], op0 6 .mov [.tmp 42]]) (.seq (.region false 1 [ op0 43 (.load true 6) [.tmp 5], op0 44 .mov [.tmp 6], op0 45 (.callS 13) [.tmp 43, .tmp 44], op0 46 (.field 0 0 false 1) [.tmp 45], op0 9 .mov [.tmp 46]]) (.seq (.region false 3 [ op0 48 (.load true 6) [.tmp 5], op0 49 (.load true 4) [.tmp 2], op0 50 (.fieldAddr 1 1) [.tmp 8], op0 51 (.load false 1) [.tmp 50], op0 52 .mov [.tmp 6], op0 53 (.callS 14) [.tmp 48, .tmp 49, .tmp 51, .tmp 52], op0 47 .mov [.tmp 53], op0 54 (.extract 0) [.tmp 47], op0 55 (.extract 1) [.tmp 47], op0 56 (.extract 2) [.tmp 47], ⟨some 10, .alloc 31 (.pure Zi2 (0, (0, (0, (0, (0, (0, ()))))))), [], none, 0, []⟩, ⟨some 11, .alloc 25 (.pair (.nil 58 Zi0) (.pair (.nil 60 Zi1) (.pure Zi3 (0, (false, ()))))), [], none, 0, []⟩, ⟨none, .store 6, [.tmp 10, .tmp 54], none, 0, []⟩, ⟨none, .store 4, [.tmp 11, .tmp 55], none, 0, []⟩, op0 12 .mov [.tmp 56]]) (.seq (.seq (.region false 2 [ op0 57 (.load true 6) [.tmp 10], op0 58 (.callS 15) [.tmp 57], op0 59 .not [.tmp 58], op0 60 .mov [.tmp 59], ⟨some 61, .load true 4, [.tmp 11], some (60, false), 0, []⟩, ⟨some 62, .callS 10, [.tmp 61], some (60, false), 0, []⟩, ⟨some 63, .not, [.tmp 62], some (60, false), 0, []⟩, op0 64 .pick [.tmp 60, .cst (.bool true), .tmp 63], op0 65 .mov [.tmp 64], ⟨some 66, .mov, [.tmp 12], some (65, false), 0, []⟩, ⟨some 67, .len, [.tmp 66], some (65, false), 0, []⟩, ⟨some 68, .bin .gtr, [.tmp 67, .cst (.int .i64 1023)], some (65, false), 0, []⟩, op0 69 .pick [.tmp 65, .cst (.bool true), .tmp 68]]) (.cond (.tmp 69) (.seq (.region false 0 [ op0 4 .mov [.cst (.bool false)]]) (.cut [4] (.ret))) (.skip))) (.seq (.seq (.region false 0 [ op0 70 .mov [.tmp 12], op0 71 .len [.tmp 70], op0 72 (.bin .gtr) [.tmp 71, .cst (.int .i64 0)]]) (.cond (.tmp 72) (.seq (.region true 0 [ op0 73 (.fieldAddr 1 1) [.tmp 8], ⟨some 74, .load false 1, [.tmp 73], none, 0, [0]⟩, ⟨some 75, .len, [.tmp 74], none, 0, [1, 0]⟩, ⟨some 76, .bin .eql, [.tmp 75, .cst (.int .i64 0)], none, 0, [2, 1, 0]⟩, ⟨some 77, .mov, [.tmp 76], none, 0, [3, 2, 1, 0]⟩, ⟨some 78, .mov, [.tmp 12], some (77, false), 0, [4, 3, 2, 1, 0]⟩, ⟨some 79, .idxSl 1, [.tmp 78, .cst (.int .i64 0)], some (77, false), 0, [5, 4, 3, 2, 1, 0]⟩, ⟨some 80, .load false 1, [.tmp 79], some (77, false), 0, [6, 5, 4, 3, 2, 1, 0]⟩, ⟨some 81, .fieldAddr 1 1, [.tmp 8], some (77, false), 0, [4, 3, 2, 1, 0]⟩, ⟨some 82, .load false 1, [.tmp 81], some (77, false), 0, [8, 4, 3, 2, 1, 0]⟩, ⟨some 83, .idxSl 1, [.tmp 82, .cst (.int .i64 0)], some (77, false), 0, [9, 8, 4, 3, 2, 1, 0]⟩, ⟨some 84, .load false 1, [.tmp 83], some (77, false), 0, [10, 9, 8, 4, 3, 2, 1, 0]⟩, ⟨some 85, .bin .add, [.tmp 84, .cst (.int .u8 64)], some (77, false), 0, [11, 10, 9, 8, 4, 3, 2, 1, 0]⟩, ⟨some 86, .bin .eql, [.tmp 80, .tmp 85], some (77, false), 0, [7, 6, 5, 4, 3, 2, 1, 0, 12, 11, 10, 9, 8]⟩, ⟨some 87, .mov, [.tmp 86], some (77, false), 0, [13, 7, 6, 5, 4, 3, 2, 1, 0, 12, 11, 10, 9, 8]⟩, ⟨some 88, .mov, [.tmp 12], some (87, false), 0, [14, 13, 7, 6, 5, 4, 3, 2, 1, 0, 12, 11, 10, 9, 8]⟩, ⟨some 89, .len, [.tmp 88], some (87, false), 0, [15, 14, 13, 7, 6, 5, 4, 3, 2, 1, 0, 12, 11, 10, 9, 8]⟩, ⟨some 90, .bin .eql, [.tmp 89, .cst (.int .i64 3)], some (87, false), 0, [16, 15, 14, 13, 7, 6, 5, 4, 3, 2, 1, 0, 12, 11, 10, 9, 8]⟩, ⟨some 91, .mov, [.tmp 90], some (87, false), 0, [17, 16, 15, 14, 13, 7, 6, 5, 4, 3, 2, 1, 0, 12, 11, 10, 9, 8]⟩, ⟨some 92, .mov, [.tmp 12], some (91, true), 0, [18, 17, 16, 15, 14, 13, 7, 6, 5, 4, 3, 2, 1, 0, 12, 11, 10, 9, 8]⟩, ⟨some 93, .idxSl 1, [.tmp 92, .cst (.int .i64 0)], some (91, true), 0, [19, 18, 17, 16, 15, 14, 13, 7, 6, 5, 4, 3, 2, 1, 0, 12, 11, 10, 9, 8]⟩, ⟨some 94, .load false 1, [.tmp 93], some (91, true), 0, [20, 19, 18, 17, 16, 15, 14, 13, 7, 6, 5, 4, 3, 2, 1, 0, 12, 11, 10, 9, 8]⟩, ⟨some 95, .bin .eql, [.tmp 94, .cst (.int .u8 127)], some (91, true), 0, [21, 20, 19, 18, 17, 16, 15, 14, 13, 7, 6, 5, 4, 3, 2, 1, 0, 12, 11, 10, 9, 8]⟩, ⟨some 96, .pick, [.tmp 91, .tmp 95, .cst (.bool false)], some (87, false), 0, [18, 17, 16, 15, 14, 13, 7, 6, 5, 4, 3, 2, 1, 0, 12, 11, 10, 9, 8, 22, 21, 20, 19]⟩, ⟨some 97, .mov, [.tmp 96], some (87, false), 0, [23, 18, 17, 16, 15, 14, 13, 7, 6, 5, 4, 3, 2, 1, 0, 12, 11, 10, 9, 8, 22, 21, 20, 19]⟩, ⟨some 98, .mov, [.tmp 12], some (97, true), 0, [24, 23, 18, 17, 16, 15, 14, 13, 7, 6, 5, 4, 3, 2, 1, 0, 12, 11, 10, 9, 8, 22, 21, 20, 19]⟩, ⟨some 99, .idxSl 1, [.tmp 98, .cst (.int .i64 1)], some (97, true), 0, [25, 24, 23, 18, 17, 16, 15, 14, 13, 7, 6, 5, 4, 3, 2, 1, 0, 12, 11, 10, 9, 8, 22, 21, 20, 19]⟩, ⟨some 100, .load false 1, [.tmp 99], some (97, true), 0, [26, 25, 24, 23, 18, 17, 16, 15, 14, 13, 7, 6, 5, 4, 3, 2, 1, 0, 12, 11, 10, 9, 8, 22, 21, 20, 19]⟩, ⟨some 101, .fieldAddr 1 1, [.tmp 8], some (97, true), 0, [24, 23, 18, 17, 16, 15, 14, 13, 7, 6, 5, 4, 3, 2, 1, 0, 12, 11, 10, 9, 8, 22, 21, 20, 19]⟩, ⟨some 102, .load false 1, [.tmp 101], some (97, true), 0, [28, 24, 23, 18, 17, 16, 15, 14, 13, 7, 6, 5, 4, 3, 2, 1, 0, 12, 11, 10, 9, 8, 22, 21, 20, 19]⟩, ⟨some 103, .idxSl 1, [.tmp 102, .cst (.int .i64 0)], some (97, true), 0, [29, 28, 24, 23, 18, 17, 16, 15, 14, 13, 7, 6, 5, 4, 3, 2, 1, 0, 12, 11, 10, 9, 8, 22, 21, 20, 19]⟩, ⟨some 104, .load false 1, [.tmp 103], some (97, true), 0, [30, 29, 28, 24, 23, 18, 17, 16, 15, 14, 13, 7, 6, 5, 4, 3, 2, 1, 0, 12, 11, 10, 9, 8, 22, 21, 20, 19]⟩, ⟨some 105, .bin .eql, [.tmp 100, .tmp 104], some (97, true), 0, [27, 26, 25, 24, 23, 18, 17, 16, 15, 14, 13, 7, 6, 5, 4, 3, 2, 1, 0, 12, 11, 10, 9, 8, 22, 21, 20, 19, 31, 30, 29, 28]⟩, ⟨some 106, .pick, [.tmp 97, .tmp 105, .cst (.bool false)], some (87, false), 0, [24, 23, 18, 17, 16, 15, 14, 13, 7, 6, 5, 4, 3, 2, 1, 0, 12, 11, 10, 9, 8, 22, 21, 20, 19, 32, 27, 26, 25, 31, 30, 29, 28]⟩, ⟨some 107, .pick, [.tmp 87, .cst (.bool true), .tmp 106], some (77, false), 0, [14, 13, 7, 6, 5, 4, 3, 2, 1, 0, 12, 11, 10, 9, 8, 33, 24, 23, 18, 17, 16, 15, 22, 21, 20, 19, 32, 27, 26, 25, 31, 30, 29, 28]⟩, ⟨some 108, .not, [.tmp 107], some (77, false), 0, [34, 14, 13, 7, 6, 5, 4, 3, 2, 1, 0, 12, 11, 10, 9, 8, 33, 24, 23, 18, 17, 16, 15, 22, 21, 20, 19, 32, 27, 26, 25, 31, 30, 29, 28]⟩, ⟨some 109, .pick, [.tmp 77, .cst (.bool true), .tmp 108], none, 0, [4, 3, 2, 1, 0, 35, 34, 14, 13, 7, 6, 5, 12, 11, 10, 9, 8, 33, 24, 23, 18, 17, 16, 15, 22, 21, 20, 19, 32, 27, 26, 25, 31, 30, 29, 28]⟩]) (.cond (.tmp 109) (.seq (.region false 0 [ op0 4 .mov [.cst (.bool false)]]) (.cut [4] (.ret))) (.skip))) (.skip))) (.cut ir3_v1 ir3_b1)))))))) (.region false 0 [ op0 143 (.bin .add) [.tmp 34, .cst (.int .i64 1)], op0 34 .mov [.tmp 143]]))))
noncomputable def ir3_v0 : List Nat := [2, 5, 6, 32, 33, 34]
noncomputable def ir3_bt0 {R : Type} (o1 : St → (Ex → St → Option R) → Option R) : LT R := (.node .nil (.node .nil (.node (.node (.node .nil (.node .nil (.node .nil (.node .nil (.node .nil (.node .nil (.orc o1))))))) .nil) .nil)))
noncomputable def ir3_t {R : Type} (o0 : St → (Ex → St → Option R) → Option R) : LT R := (.node .nil (.node .nil (.node .nil (.node .nil (.node (.node .nil (.node (.orc o0) .nil)) .nil)))))
noncomputable def ir3 : IFn := { ntmps := 144, results := [.inl 4], body := (.seq (.region false 1 [ op0 2 (.box 25) [.tmp 0], op0 4 .mov [.cst (.bool false)]]) (.seq (.seq (.region false 1 [ op0 16 (.callS 8) [], op0 17 .not [.tmp 16]]) (.cond (.tmp 17) (.seq (.region false 0 [ op0 4 .mov [.cst (.bool false)]]) (.cut [4] (.ret))) (.skip))) (.seq (.seq (.region false 3 [ op0 18 (.load true 4) [.tmp 2], op0 19 (.callS 9) [.tmp 18], op0 20 .not [.tmp 19], op0 21 .mov [.tmp 20], ⟨some 22, .load true 4, [.tmp 2], some (21, false), 0, []⟩, ⟨some 23, .callS 10, [.tmp 22], some (21, false), 0, []⟩, ⟨some 24, .not, [.tmp 23], some (21, false), 0, []⟩, op0 25 .pick [.tmp 21, .cst (.bool true), .tmp 24], op0 26 .mov [.tmp 25], ⟨some 27, .mov, [.tmp 1], some (26, false), 0, []⟩, ⟨some 28, .callS 11, [.tmp 27], some (26, false), 0, []⟩, ⟨some 29, .not, [.tmp 28], some (26, false), 0, []⟩, op0 30 .pick [.tmp 26, .cst (.bool true), .tmp 29]]) (.cond (.tmp 30) (.seq (.region false 0 [ op0 4 .mov [.cst (.bool true)]]) (.cut [4] (.ret))) (.skip))) (.seq (.region false 2 [ op0 31 (.callS 12) [], ⟨some 5, .alloc 31 (.pure Zi2 (0, (0, (0, (0, (0, (0, ()))))))), [], none, 0, []⟩, ⟨none, .store 6, [.tmp 5, .tmp 31], none, 0, []⟩, op0 6 .mov [.cst (.int .i64 0)]]) (.seq (.seq (.region false 0 [ op0 32 .mov [.tmp 1], op0 33 .len [.tmp 32], op0 34 .mov [.cst (.int .i64 0)]]) (.block 0 (.loop ir3_v0 ir3_b0))) (.seq (.region false 0 [ op0 4 .mov [.cst (.bool true)]]) (.cut [4] (.ret)))))))) }
theorem ir3_bt1ok {R : Type} {summ : Nat → Option Summ} {fu : Nat} {call : Nat → List CV → List Blk → (CV → List Blk → Option R) → Option R} {o2 : St → (Ex → St → Option R) → Option R} (h2 : ∀ T k r, o2 T k = some r → evCode summ fu call ir3_b2 T k = some r) : LTok summ fu call (ir3_bt1 o2) ir3_b1 := ⟨trivial, h2⟩
theorem ir3_bt0ok {R : Type} {summ : Nat → Option Summ} {fu : Nat} {call : Nat → List CV → List Blk → (CV → List Blk → Option R) → Option R} {o1 : St → (Ex → St → Option R) → Option R} (h1 : ∀ T k r, o1 T k = some r → evCode summ fu call ir3_b1 T k = some r) : LTok summ fu call (ir3_bt0 o1) ir3_b0 := ⟨trivial, ⟨trivial, ⟨⟨trivial, ⟨trivial, ⟨trivial, ⟨trivial, ⟨trivial, ⟨trivial, h1⟩⟩⟩⟩⟩⟩, trivial⟩⟩⟩
theorem ir3_tok {R : Type} {summ : Nat → Option Summ} {fu : Nat} {call : Nat → List CV → List Blk → (CV → List Blk → Option R) → Option R} {o0 : St → (Ex → St → Option R) → Option R} (h0 : ∀ T k r, o0 T k = some r → evLoopN (evCode summ fu call ir3_b0) (St.norm ir3_v0) fu T k = some r) : LTok summ fu call (ir3_t o0) ir3.body := ⟨trivial, ⟨trivial, ⟨trivial, ⟨trivial, ⟨⟨trivial, h0⟩, trivial⟩⟩⟩⟩⟩


noncomputable def ir8 : IFn := { ntmps := 63, results := [.inl 0], body := (.seq (.region false 0 [ op0 0 .mov [.cst (.bool false)]]) (.seq (.region false 5 [ op0 9 (.callS 12) [], ⟨some 10, .build [((.nil 58 Zi0), 1), ((.nil 60 Zi1), 1), ((.int .i64 0), 1), ((.bool false), 1)] [], [], none, 0, []⟩, ⟨some 11, .buildSl 5 (.int .u8) 2, [.cst (.int .u8 39), .cst (.int .u8 1)], none, 0, []⟩, op0 12 (.callS 14) [.tmp 9, .tmp 10, .tmp 11, .cst (.int .i64 0)], op0 8 .mov [.tmp 12], op0 13 (.extract 0) [.tmp 8], op0 14 (.extract 1) [.tmp 8], op0 15 (.extract 2) [.tmp 8], ⟨some 1, .alloc 31 (.pure Zi2 (0, (0, (0, (0, (0, (0, ()))))))), [], none, 0, []⟩, ⟨some 2, .alloc 25 (.pair (.nil 58 Zi0) (.pair (.nil 60 Zi1) (.pure Zi3 (0, (false, ()))))), [], none, 0, []⟩, ⟨none, .store 6, [.tmp 1, .tmp 13], none, 0, []⟩, ⟨none, .store 4, [.tmp 2, .tmp 14], none, 0, []⟩, op0 3 .mov [.tmp 15]]) (.seq (.region false 2 [ op0 17 (.load true 6) [.tmp 1], op0 18 (.load true 4) [.tmp 2], ⟨some 19, .buildSl 5 (.int .u8) 2, [.cst (.int .u8 16), .cst (.int .u8 3)], none, 0, []⟩, op0 20 (.callS 14) [.tmp 17, .tmp 18, .tmp 19, .cst (.int .i64 0)], op0 16 .mov [.tmp 20], op0 21 (.extract 0) [.tmp 16], op0 22 (.extract 1) [.tmp 16], op0 23 (.extract 2) [.tmp 16], ⟨none, .store 6, [.tmp 1, .tmp 21], none, 0, []⟩, ⟨none, .store 4, [.tmp 2, .tmp 22], none, 0, []⟩, op0 4 .mov [.tmp 23]]) (.seq (.region false 2 [ op0 25 (.load true 6) [.tmp 1], op0 26 (.load true 4) [.tmp 2], ⟨some 27, .buildSl 5 (.int .u8) 2, [.cst (.int .u8 39), .cst (.int .u8 1)], none, 0, []⟩, op0 28 (.callS 14) [.tmp 25, .tmp 26, .tmp 27, .cst (.int .i64 0)], op0 24 .mov [.tmp 28], op0 29 (.extract 0) [.tmp 24], op0 30 (.extract 1) [.tmp 24], op0 31 (.extract 2) [.tmp 24], ⟨none, .store 6, [.tmp 1, .tmp 29], none, 0, []⟩, ⟨none, .store 4, [.tmp 2, .tmp 30], none, 0, []⟩, op0 5 .mov [.tmp 31]]) (.seq (.region false 3 [ op0 33 (.load true 6) [.tmp 1], op0 34 (.load true 4) [.tmp 2], ⟨some 35, .buildSl 5 (.int .u8) 4, [.cst (.int .u8 39), .cst (.int .u8 2), .cst (.int .u8 241), .cst (.int .u8 12)], none, 0, []⟩, op0 36 (.callS 14) [.tmp 33, .tmp 34, .tmp 35, .cst (.int .i64 0)], op0 32 .mov [.tmp 36], op0 37 (.extract 0) [.tmp 32], op0 38 (.extract 1) [.tmp 32], op0 39 (.extract 2) [.tmp 32], ⟨some 6, .alloc 25 (.pair (.nil 58 Zi0) (.pair (.nil 60 Zi1) (.pure Zi3 (0, (false, ()))))), [], none, 0, []⟩, ⟨none, .store 6, [.tmp 1, .tmp 37], none, 0, []⟩, ⟨none, .store 4, [.tmp 6, .tmp 38], none, 0, []⟩, op0 7 .mov [.tmp 39]]) (.seq (.region false 8 [ op0 40 .mov [.tmp 3], ⟨some 41, .buildSl 5 (.int .u8) 3, [.cst (.int .u8 127), .cst (.int .u8 39), .cst (.int .u8 127)], none, 0, []⟩, op0 42 (.callS 18) [.tmp 40, .tmp 41], op0 43 .mov [.tmp 42], ⟨some 44, .mov, [.tmp 4], some (43, true), 0, []⟩, ⟨some 45, .buildSl 5 (.int .u8) 2, [.cst (.int .u8 80), .cst (.int .u8 3)], some (43, true), 0, []⟩, ⟨some 46, .callS 18, [.tmp 44, .tmp 45], some (43, true), 0, []⟩, op0 47 .pick [.tmp 43, .tmp 46, .cst (.bool false)], op0 48 .mov [.tmp 47], ⟨some 49, .mov, [.tmp 5], some (48, true), 0, []⟩, ⟨some 50, .buildSl 5 (.int .u8) 4, [.cst (.int .u8 103), .cst (.int .u8 1), .cst (.int .u8 0), .cst (.int .u8 1)], some (48, true), 0, []⟩, ⟨some 51, .callS 18, [.tmp 49, .tmp 50], some (48, true), 0, []⟩, op0 52 .pick [.tmp 48, .tmp 51, .cst (.bool false)], op0 53 .mov [.tmp 52], ⟨some 54, .mov, [.tmp 7], some (53, true), 0, []⟩, ⟨some 55, .buildSl 5 (.int .u8) 2, [.cst (.int .u8 103), .cst (.int .u8 2)], some (53, true), 0, []⟩, ⟨some 56, .callS 18, [.tmp 54, .tmp 55], some (53, true), 0, []⟩, op0 57 .pick [.tmp 53, .tmp 56, .cst (.bool false)], op0 58 .mov [.tmp 57], ⟨some 59, .fieldAddr 2 2, [.tmp 1], some (58, true), 0, []⟩, ⟨some 60, .load false 1, [.tmp 59], some (58, true), 0, []⟩, ⟨some 61, .bin .eql, [.tmp 60, .cst (.int .i64 1)], some (58, true), 0, []⟩, op0 62 .pick [.tmp 58, .tmp 61, .cst (.bool false)], op0 0 .mov [.tmp 62]]) (.cut [0] (.ret)))))))) }


noncomputable def ir9 : IFn := { ntmps := 19, results := [.inl 2], body := (.seq (.region false 1 [ op0 1 (.box 25) [.tmp 0], op0 2 .mov [.cst (.bool false)]]) (.seq (.region false 0 [ op0 3 (.fieldAddr 0 0) [.tmp 1], op0 4 (.load false 1) [.tmp 3], op0 5 .len [.tmp 4], op0 6 (.bin .leq) [.tmp 5, .cst (.int .i64 70)], op0 7 .mov [.tmp 6], ⟨some 8, .fieldAddr 1 1, [.tmp 1], some (7, true), 0, []⟩, ⟨some 9, .load false 1, [.tmp 8], some (7, true), 0, []⟩, ⟨some 10, .len, [.tmp 9], some (7, true), 0, []⟩, ⟨some 11, .bin .leq, [.tmp 10, .cst (.int .i64 70)], some (7, true), 0, []⟩, op0 12 .pick [.tmp 7, .tmp 11, .cst (.bool false)], op0 13 .mov [.tmp 12], ⟨some 14, .fieldAddr 1 1, [.tmp 1], some (13, true), 0, []⟩, ⟨some 15, .load false 1, [.tmp 14], some (13, true), 0, []⟩, ⟨some 16, .call 22, [.tmp 15, .cst (.clo 23 (.pure .unit ()))], some (13, true), 0, []⟩, ⟨some 17, .not, [.tmp 16], some (13, true), 0, []⟩, op0 18 .pick [.tmp 13, .tmp 17, .cst (.bool false)], op0 2 .mov [.tmp 18]]) (.cut [2] (.ret)))) }


noncomputable def ir10_b1 : IC := (.seq (.region false 0 [ op0 48 (.bin .lss) [.tmp 47, .tmp 46]]) (.seq (.cond (.tmp 48) (.skip) (.cut [] (.exit 0))) (.seq (.block 1 (.seq (.region false 1 [ op0 49 .mov [.tmp 47], op0 50 (.idxSl 7) [.tmp 45, .tmp 47], op0 51 (.load true 7) [.tmp 50], ⟨some 4, .alloc 60 (.pair (.int .i64 0) (.pair (.int .i64 0) (.pair (.int .i64 0) (.pair (.int .i64 0) (.pair (.int .i64 0) (.pair (.nil 3 (.int .i64)) (.pure (.pair (.int .i64) .unit) (0, ())))))))), [], none, 0, []⟩, op0 3 .mov [.tmp 49], ⟨none, .store 7, [.tmp 4, .tmp 51], none, 0, []⟩]) (.seq (.region true 1 [ op0 52 (.fieldAddr 0 0) [.tmp 1], ⟨some 53, .load false 1, [.tmp 52], none, 0, [0]⟩, op0 54 .mov [.tmp 3], ⟨some 55, .idxSl 8, [.tmp 53, .tmp 54], none, 0, [1, 0, 2]⟩, ⟨some 56, .load true 8, [.tmp 55], none, 0, [3, 1, 0, 2]⟩, op0 57 (.load true 7) [.tmp 4], op0 58 (.fieldAddr 2 2) [.tmp 1], ⟨some 59, .load false 1, [.tmp 58], none, 0, [6]⟩, ⟨some 60, .callS 28, [.tmp 56, .tmp 57, .tmp 59], none, 0, [4, 3, 1, 0, 2, 5, 7, 6]⟩, ⟨some 61, .not, [.tmp 60], none, 1, [8, 4, 3, 1, 0, 2, 5, 7, 6]⟩]) (.cond (.tmp 61) (.seq (.region false 0 [ op0 2 .mov [.cst (.bool false)]]) (.cut [2] (.ret))) (.skip))))) (.region false 0 [ op0 62 (.bin .add) [.tmp 47, .cst (.int .i64 1)], op0 47 .mov [.tmp 62]]))))
noncomputable def ir10_v1 : List Nat := [1, 45, 46, 47]
noncomputable def ir10_b0 : IC := (.seq (.seq (.region false 0 [ op0 44 (.fieldAddr 1 1) [.tmp 1], op0 45 (.load false 1) [.tmp 44], op0 46 .len [.tmp 45], op0 47 .mov [.cst (.int .i64 0)]]) (.block 0 (.loop ir10_v1 ir10_b1))) (.seq (.region false 0 [ op0 2 .mov [.cst (.bool true)]]) (.cut [2] (.ret))))
noncomputable def ir10_v0 : List Nat := [1]
noncomputable def ir10_bt0 {R : Type} (o1 : St → (Ex → St → Option R) → Option R) : LT R := (.node (.node .nil (.node (.orc o1) .nil)) .nil)
noncomputable def ir10_t {R : Type} (o0 : St → (Ex → St → Option R) → Option R) : LT R := (.node .nil (.node .nil (.orc o0)))
noncomputable def ir10 : IFn := { ntmps := 63, results := [.inl 2], body := (.seq (.region false 1 [ op0 1 (.box 25) [.tmp 0], op0 2 .mov [.cst (.bool false)]]) (.seq (.seq (.region false 2 [ op0 5 (.fieldAddr 0 0) [.tmp 1], op0 6 (.load false 1) [.tmp 5], op0 7 .len [.tmp 6], op0 8 (.bin .gtr) [.tmp 7, .cst (.int .i64 64)], op0 9 .mov [.tmp 8], ⟨some 10, .fieldAddr 0 0, [.tmp 1], some (9, false), 0, []⟩, ⟨some 11, .load false 1, [.tmp 10], some (9, false), 0, []⟩, ⟨some 12, .call 24, [.tmp 11, .cst (.clo 25 (.pure .unit ()))], some (9, false), 0, []⟩, op0 13 .pick [.tmp 9, .cst (.bool true), .tmp 12], op0 14 .mov [.tmp 13], ⟨some 15, .fieldAddr 0 0, [.tmp 1], some (14, false), 0, []⟩, ⟨some 16, .load false 1, [.tmp 15], some (14, false), 0, []⟩, ⟨some 17, .callS 26, [.tmp 16], some (14, false), 0, []⟩, ⟨some 18, .not, [.tmp 17], some (14, false), 0, []⟩, op0 19 .pick [.tmp 14, .cst (.bool true), .tmp 18], op0 20 .mov [.tmp 19], ⟨some 21, .fieldAddr 1 1, [.tmp 1], some (20, false), 0, []⟩, ⟨some 22, .load false 1, [.tmp 21], some (20, false), 0, []⟩, ⟨some 23, .len, [.tmp 22], some (20, false), 0, []⟩, ⟨some 24, .fieldAddr 0 0, [.tmp 1], some (20, false), 0, []⟩, ⟨some 25, .load false 1, [.tmp 24], some (20, false), 0, []⟩, ⟨some 26, .len, [.tmp 25], some (20, false), 0, []⟩, ⟨some 27, .bin .neq, [.tmp 23, .tmp 26], some (20, false), 0, []⟩, op0 28 .pick [.tmp 20, .cst (.bool true), .tmp 27], op0 29 .mov [.tmp 28], ⟨some 30, .fieldAddr 2 2, [.tmp 1], some (29, false), 0, []⟩, ⟨some 31, .load false 1, [.tmp 30], some (29, false), 0, []⟩, ⟨some 32, .callS 27, [.tmp 31, .cst (.int .i64 0), .cst (.int .i64 1073741824)], some (29, false), 0, []⟩, ⟨some 33, .not, [.tmp 32], some (29, false), 0, []⟩, op0 34 .pick [.tmp 29, .cst (.bool true), .tmp 33], op0 35 .mov [.tmp 34], ⟨some 36, .fieldAddr 3 3, [.tmp 1], some (35, false), 0, []⟩, ⟨some 37, .load false 1, [.tmp 36], some (35, false), 0, []⟩, ⟨some 38, .mov, [.tmp 37], some (35, false), 0, []⟩, ⟨some 39, .fieldAddr 2 2, [.tmp 1], some (38, true), 0, []⟩, ⟨some 40, .load false 1, [.tmp 39], some (38, true), 0, []⟩, ⟨some 41, .bin .lss, [.tmp 40, .cst (.int .i64 1)], some (38, true), 0, []⟩, ⟨some 42, .pick, [.tmp 38, .tmp 41, .cst (.bool false)], some (35, false), 0, []⟩, op0 43 .pick [.tmp 35, .cst (.bool true), .tmp 42]]) (.cond (.tmp 43) (.seq (.region false 0 [ op0 2 .mov [.cst (.bool false)]]) (.cut [2] (.ret))) (.skip))) (.cut ir10_v0 ir10_b0))) }
theorem ir10_bt0ok {R : Type} {summ : Nat → Option Summ} {fu : Nat} {call : Nat → List CV → List Blk → (CV → List Blk → Option R) → Option R} {o1 : St → (Ex → St → Option R) → Option R} (h1 : ∀ T k r, o1 T k = some r → evLoopN (evCode summ fu call ir10_b1) (St.norm ir10_v1) fu T k = some r) : LTok summ fu call (ir10_bt0 o1) ir10_b0 := ⟨⟨trivial, h1⟩, trivial⟩
theorem ir10_tok {R : Type} {summ : Nat → Option Summ} {fu : Nat} {call : Nat → List CV → List Blk → (CV → List Blk → Option R) → Option R} {o0 : St → (Ex → St → Option R) → Option R} (h0 : ∀ T k r, o0 T k = some r → evCode summ fu call ir10_b0 T k = some r) : LTok summ fu call (ir10_t o0) ir10.body := ⟨trivial, ⟨trivial, h0⟩⟩


noncomputable def ir11 : IFn := { ntmps := 11, results := [.inl 2], body := (.seq (.region false 0 [ op0 2 .mov [.cst (.bool false)]]) (.seq (.region false 0 [ op0 3 .mov [.tmp 0], op0 4 .len [.tmp 3], op0 5 (.bin .leq) [.tmp 4, .cst (.int .i64 40)], op0 6 .mov [.tmp 5], ⟨some 7, .mov, [.tmp 0], some (6, true), 0, []⟩, ⟨some 8, .call 29, [.tmp 7, .cst (.clo 30 (.pure .unit ()))], some (6, true), 0, []⟩, ⟨some 9, .not, [.tmp 8], some (6, true), 0, []⟩, op0 10 .pick [.tmp 6, .tmp 9, .cst (.bool false)], op0 2 .mov [.tmp 10]]) (.cut [2] (.ret)))) }


noncomputable def ir12 : IFn := { ntmps := 2, results := [.inr (0, true, 6)], body := (.seq (.region false 1 [ ⟨some 0, .alloc 31 (.pure Zi2 (0, (0, (0, (0, (0, (0, ()))))))), [], none, 0, []⟩]) (.seq (.region false 0 [ ⟨some 1, .build [((.int .i64 0), 1), ((.int .i64 0), 1), ((.int .i64 0), 1), ((.int .i64 0), 1), ((.int .i64 0), 1), ((.int .i64 0), 1)] [0], [.cst (.int .i64 1)], none, 0, []⟩, ⟨none, .store 6, [.tmp 0, .tmp 1], none, 0, []⟩]) (.cut [0] (.ret)))) }


noncomputable def ir13 : IFn := { ntmps := 27, results := [.inr (4, true, 6)], body := (.seq (.region false 2 [ op0 2 (.box 31) [.tmp 0], ⟨some 4, .alloc 31 (.pure Zi2 (0, (0, (0, (0, (0, (0, ()))))))), [], none, 0, []⟩]) (.seq (.seq (.region false 2 [ op0 5 (.load true 6) [.tmp 2], op0 6 (.callS 15) [.tmp 5], op0 7 .not [.tmp 6], op0 8 .mov [.tmp 7], ⟨some 9, .mov, [.tmp 1], some (8, false), 0, []⟩, ⟨some 10, .callS 31, [.tmp 9, .cst (.int .i64 0), .cst (.int .i64 1099511627776)], some (8, false), 0, []⟩, ⟨some 11, .not, [.tmp 10], some (8, false), 0, []⟩, op0 12 .pick [.tmp 8, .cst (.bool true), .tmp 11], op0 13 .mov [.tmp 12], ⟨some 14, .fieldAddr 0 0, [.tmp 2], some (13, false), 0, []⟩, ⟨some 15, .load false 1, [.tmp 14], some (13, false), 0, []⟩, ⟨some 16, .bin .eql, [.tmp 15, .cst (.int .i64 1)], some (13, false), 0, []⟩, op0 17 .pick [.tmp 13, .cst (.bool true), .tmp 16], op0 18 .mov [.tmp 17], ⟨some 19, .mov, [.tmp 1], some (18, false), 0, []⟩, ⟨some 20, .fieldAddr 5 5, [.tmp 2], some (18, false), 0, []⟩, ⟨some 21, .load false 1, [.tmp 20], some (18, false), 0, []⟩, ⟨some 22, .bin .lss, [.tmp 19, .tmp 21], some (18, false), 0, []⟩, op0 23 .pick [.tmp 18, .cst (.bool true), .tmp 22]]) (.cond (.tmp 23) (.seq (.region false 0 [ op0 24 (.load true 6) [.tmp 2], ⟨none, .store 6, [.tmp 4, .tmp 24], none, 0, []⟩]) (.cut [4] (.ret))) (.skip))) (.seq (.region false 1 [ op0 25 (.load true 6) [.tmp 2], op0 26 (.callS 32) [.tmp 25, .cst (.int .i64 1)], ⟨none, .store 6, [.tmp 4, .tmp 26], none, 0, []⟩]) (.cut [4] (.ret))))) }


noncomputable def ir14_b0 : IC := (.cond (.tmp 32) (.seq (.region true 0 [ op0 33 (.load true 6) [.tmp 4], op0 34 (.load true 4) [.tmp 5], ⟨none, .store 6, [.tmp 8, .tmp 33], none, 0, [0]⟩, ⟨none, .store 4, [.tmp 9, .tmp 34], none, 0, [1, 2, 0]⟩, ⟨some 10, .mov, [.cst (.nil 5 (.int .u8))], none, 0, [3, 1, 2, 0]⟩]) (.cut [8, 9, 10] (.ret))) (.skip))
noncomputable def ir14_v0 : List Nat := [2, 3, 4, 5, 8, 9, 32]
noncomputable def ir14_b4 : IC := (.seq (.region true 0 [ op0 72 .mov [.tmp 11], ⟨some 73, .nilck, [.tmp 72], none, 0, [0]⟩, ⟨some 74, .fieldAddr 0 0, [.tmp 73], none, 0, [1, 0]⟩, ⟨some 75, .load true 6, [.tmp 74], none, 0, [2, 1, 0]⟩, op0 76 .mov [.tmp 11], ⟨some 77, .nilck, [.tmp 76], none, 0, [4]⟩, ⟨some 78, .fieldAddr 1 6, [.tmp 77], none, 0, [5, 4]⟩, ⟨some 79, .load true 4, [.tmp 78], none, 0, [6, 5, 4]⟩, op0 80 .mov [.tmp 12], ⟨none, .store 6, [.tmp 8, .tmp 75], none, 0, [3, 2, 1, 0]⟩, ⟨none, .store 4, [.tmp 9, .tmp 79], none, 0, [7, 6, 5, 4, 9, 3, 2, 1, 0]⟩, ⟨some 10, .mov, [.tmp 80], none, 0, [8, 10, 7, 6, 5, 4, 9, 3, 2, 1, 0]⟩]) (.cut [8, 9, 10] (.ret)))
noncomputable def ir14_v4 : List Nat := [8, 9, 11, 12]
noncomputable def ir14_b3 : IC := (.seq (.region false 0 [ op0 56 .mov [.tmp 11], op0 57 .nilck [.tmp 56], op0 58 (.fieldAddr 0 0) [.tmp 57], op0 59 (.fieldAddr 5 5) [.tmp 58], ⟨none, .store 1, [.tmp 59, .cst (.int .i64 0)], none, 0, []⟩]) (.seq (.seq (.region false 0 [ op0 60 .mov [.tmp 11], op0 61 .nilck [.tmp 60], op0 62 (.fieldAddr 0 0) [.tmp 61], op0 63 (.fieldAddr 0 0) [.tmp 62], op0 64 (.load false 1) [.tmp 63], op0 65 (.bin .neq) [.tmp 64, .cst (.int .i64 1)]]) (.cond (.tmp 65) (.region false 0 [ op0 66 .mov [.tmp 11], op0 67 .mov [.tmp 3], op0 68 (.bin .add) [.tmp 67, .cst (.int .i64 5000000)], op0 69 .nilck [.tmp 66], op0 70 (.fieldAddr 0 0) [.tmp 69], op0 71 (.fieldAddr 5 5) [.tmp 70], ⟨none, .store 1, [.tmp 71, .tmp 68], none, 0, []⟩]) (.skip))) (.cut ir14_v4 ir14_b4)))
noncomputable def ir14_v3 : List Nat := [3, 8, 9, 11, 12]
noncomputable def ir14_bt3 {R : Type} (o4 : St → (Ex → St → Option R) → Option R) : LT R := (.node .nil (.node .nil (.orc o4)))
noncomputable def ir14_b2 : IC := (.seq (.seq (.region false 0 [ op0 48 .mov [.tmp 13], op0 49 (.bin .neq) [.tmp 48, .cst (.int .i64 0)]]) (.cond (.tmp 49) (.region false 1 [ op0 50 .mov [.tmp 2], op0 51 (.idxSl 1) [.tmp 50, .cst (.int .i64 0)], op0 52 (.load false 1) [.tmp 51], op0 53 .mov [.tmp 13], op0 54 (.conv .u8) [.tmp 53], ⟨some 55, .buildSl 5 (.int .u8) 3, [.cst (.int .u8 127), .tmp 52, .tmp 54], none, 0, []⟩, op0 12 .mov [.tmp 55]]) (.skip))) (.cut ir14_v3 ir14_b3))
noncomputable def ir14_v2 : List Nat := [2, 3, 8, 9, 11, 12, 13]
noncomputable def ir14_bt2 {R : Type} (o3 : St → (Ex → St → Option R) → Option R) : LT R := (.node .nil (.orc o3))
noncomputable def ir14_b1 : IC := (.seq (.region true 2 [ op0 35 (.load true 6) [.tmp 4], op0 36 .mov [.tmp 3], ⟨some 37, .callS 13, [.tmp 35, .tmp 36], none, 0, [0, 1]⟩, ⟨some 38, .load true 4, [.tmp 5], none, 1, []⟩, ⟨some 39, .mov, [.tmp 3], none, 1, []⟩, ⟨some 40, .build [((.pure Zi2 (0, (0, (0, (0, (0, (0, ()))))))), 6), ((.pair (.nil 58 Zi0) (.pair (.nil 60 Zi1) (.pure Zi3 (0, (false, ()))))), 4), ((.int .i64 0), 1)] [0, 1, 2], [.tmp 37, .tmp 38, .tmp 39], none, 1, [2, 0, 1, 3, 4]⟩, ⟨some 41, .box 75, [.tmp 40], none, 1, [5, 2, 0, 1, 3, 4]⟩, ⟨some 11, .mov, [.tmp 41], none, 2, [6, 5, 2, 0, 1, 3, 4]⟩]) (.seq (.region false 0 [ op0 43 .mov [.tmp 11], op0 44 .mov [.tmp 2], op0 45 (.call 33) [.tmp 43, .tmp 44], op0 42 .mov [.tmp 45], op0 46 (.extract 0) [.tmp 42], op0 47 (.extract 1) [.tmp 42], op0 12 .mov [.tmp 46], op0 13 .mov [.tmp 47]]) (.cut ir14_v2 ir14_b2)))
noncomputable def ir14_v1 : List Nat := [2, 3, 4, 5, 8, 9]
noncomputable def ir14_bt1 {R : Type} (o2 : St → (Ex → St → Option R) → Option R) : LT R := (.node .nil (.node .nil (.orc o2)))
noncomputable def ir14_t {R : Type} (o0 o1 : St → (Ex → St → Option R) → Option R) : LT R := (.node .nil (.node (.node .nil (.orc o0)) (.orc o1)))
noncomputable def ir14 : IFn := { ntmps := 81, results := [.inr (8, true, 6), .inr (9, true, 4), .inl 10], body := (.seq (.region false 4 [ op0 4 (.box 31) [.tmp 0], op0 5 (.box 25) [.tmp 1], ⟨some 8, .alloc 31 (.pure Zi2 (0, (0, (0, (0, (0, (0, ()))))))), [], none, 0, []⟩, ⟨some 9, .alloc 25 (.pair (.nil 58 Zi0) (.pair (.nil 60 Zi1) (.pure Zi3 (0, (false, ()))))), [], none, 0, []⟩, op0 10 .mov [.cst (.nil 5 (.int .u8))]]) (.seq (.seq (.region false 4 [ op0 14 (.load true 6) [.tmp 4], op0 15 (.callS 15) [.tmp 14], op0 16 .not [.tmp 15], op0 17 .mov [.tmp 16], ⟨some 18, .load true 4, [.tmp 5], some (17, false), 0, []⟩, ⟨some 19, .callS 10, [.tmp 18], some (17, false), 0, []⟩, ⟨some 20, .not, [.tmp 19], some (17, false), 0, []⟩, op0 21 .pick [.tmp 17, .cst (.bool true), .tmp 20], op0 22 .mov [.tmp 21], ⟨some 23, .mov, [.tmp 3], some (22, false), 0, []⟩, ⟨some 24, .callS 31, [.tmp 23, .cst (.int .i64 0), .cst (.int .i64 1099511627776)], some (22, false), 0, []⟩, ⟨some 25, .not, [.tmp 24], some (22, false), 0, []⟩, op0 26 .pick [.tmp 22, .cst (.bool true), .tmp 25], op0 27 .mov [.tmp 26], ⟨some 28, .mov, [.tmp 2], some (27, false), 0, []⟩, ⟨some 29, .len, [.tmp 28], some (27, false), 0, []⟩, ⟨some 30, .callS 31, [.tmp 29, .cst (.int .i64 1), .cst (.int .i64 1023)], some (27, false), 0, []⟩, ⟨some 31, .not, [.tmp 30], some (27, false), 0, []⟩, op0 32 .pick [.tmp 27, .cst (.bool true), .tmp 31]]) (.cut ir14_v0 ir14_b0)) (.cut ir14_v1 ir14_b1))) }
theorem ir14_bt3ok {R : Type} {summ : Nat → Option Summ} {fu : Nat} {call : Nat → List CV → List Blk → (CV → List Blk → Option R) → Option R} {o4 : St → (Ex → St → Option R) → Option R} (h4 : ∀ T k r, o4 T k = some r → evCode summ fu call ir14_b4 T k = some r) : LTok summ fu call (ir14_bt3 o4) ir14_b3 := ⟨trivial, ⟨trivial, h4⟩⟩
theorem ir14_bt2ok {R : Type} {summ : Nat → Option Summ} {fu : Nat} {call : Nat → List CV → List Blk → (CV → List Blk → Option R) → Option R} {o3 : St → (Ex → St → Option R) → Option R} (h3 : ∀ T k r, o3 T k = some r → evCode summ fu call ir14_b3 T k = some r) : LTok summ fu call (ir14_bt2 o3) ir14_b2 := ⟨trivial, h3⟩
theorem ir14_bt1ok {R : Type} {summ : Nat → Option Summ} {fu : Nat} {call : Nat → List CV → List Blk → (CV → List Blk → Option R) → Option R} {o2 : St → (Ex → St → Option R) → Option R} (h2 : ∀ T k r, o2 T k = some r → evCode summ fu call ir14_b2 T k = some r) : LTok summ fu call (ir14_bt1 o2) ir14_b1 := ⟨trivial, ⟨trivial, h2⟩⟩
theorem ir14_tok {R : Type} {summ : Nat → Option Summ} {fu : Nat} {call : Nat → List CV → List Blk → (CV → List Blk → Option R) → Option R} {o0 o1 : St → (Ex → St → Option R) → Option R} (h0 : ∀ T k r, o0 T k = some r → evCode summ fu call ir14_b0 T k = some r) (h1 : ∀ T k r, o1 T k = some r → evCode summ fu call ir14_b1 T k = some r) : LTok summ fu call (ir14_t o0 o1) ir14.body := ⟨trivial, ⟨⟨trivial, h0⟩, h1⟩⟩


noncomputable def ir15 : IFn := { ntmps := 55, results := [.inl 2], body := (.seq (.region false 1 [ op0 1 (.box 31) [.tmp 0], op0 2 .mov [.cst (.bool false)]]) (.seq (.seq (.region false 6 [ op0 3 (.fieldAddr 0 0) [.tmp 1], op0 4 (.load false 1) [.tmp 3], op0 5 (.callS 31) [.tmp 4, .cst (.int .i64 1), .cst (.int .i64 3)], op0 6 .not [.tmp 5], op0 7 .mov [.tmp 6], ⟨some 8, .fieldAddr 1 1, [.tmp 1], some (7, false), 0, []⟩, ⟨some 9, .load false 1, [.tmp 8], some (7, false), 0, []⟩, ⟨some 10, .callS 31, [.tmp 9, .cst (.int .i64 0), .cst (.int .i64 65535)], some (7, false), 0, []⟩, ⟨some 11, .not, [.tmp 10], some (7, false), 0, []⟩, op0 12 .pick [.tmp 7, .cst (.bool true), .tmp 11], op0 13 .mov [.tmp 12], ⟨some 14, .fieldAddr 2 2, [.tmp 1], some (13, false), 0, []⟩, ⟨some 15, .load false 1, [.tmp 14], some (13, false), 0, []⟩, ⟨some 16, .callS 31, [.tmp 15, .cst (.int .i64 0), .cst (.int .i64 1)], some (13, false), 0, []⟩, ⟨some 17, .not, [.tmp 16], some (13, false), 0, []⟩, op0 18 .pick [.tmp 13, .cst (.bool true), .tmp 17], op0 19 .mov [.tmp 18], ⟨some 20, .fieldAddr 3 3, [.tmp 1], some (19, false), 0, []⟩, ⟨some 21, .load false 1, [.tmp 20], some (19, false), 0, []⟩, ⟨some 22, .callS 31, [.tmp 21, .cst (.int .i64 0), .cst (.int .i64 2)], some (19, false), 0, []⟩, ⟨some 23, .not, [.tmp 22], some (19, false), 0, []⟩, op0 24 .pick [.tmp 19, .cst (.bool true), .tmp 23], op0 25 .mov [.tmp 24], ⟨some 26, .fieldAddr 4 4, [.tmp 1], some (25, false), 0, []⟩, ⟨some 27, .load false 1, [.tmp 26], some (25, false), 0, []⟩, ⟨some 28, .callS 31, [.tmp 27, .cst (.int .i64 0), .cst (.int .i64 1099521627776)], some (25, false), 0, []⟩, ⟨some 29, .not, [.tmp 28], some (25, false), 0, []⟩, op0 30 .pick [.tmp 25, .cst (.bool true), .tmp 29], op0 31 .mov [.tmp 30], ⟨some 32, .fieldAddr 5 5, [.tmp 1], some (31, false), 0, []⟩, ⟨some 33, .load false 1, [.tmp 32], some (31, false), 0, []⟩, ⟨some 34, .callS 31, [.tmp 33, .cst (.int .i64 0), .cst (.int .i64 1099521627776)], some (31, false), 0, []⟩, ⟨some 35, .not, [.tmp 34], some (31, false), 0, []⟩, op0 36 .pick [.tmp 31, .cst (.bool true), .tmp 35]]) (.cond (.tmp 36) (.seq (.region false 0 [ op0 2 .mov [.cst (.bool false)]]) (.cut [2] (.ret))) (.skip))) (.seq (.region false 0 [ op0 37 (.fieldAddr 0 0) [.tmp 1], op0 38 (.load false 1) [.tmp 37], op0 39 (.bin .neq) [.tmp 38, .cst (.int .i64 1)], op0 40 .mov [.tmp 39], ⟨some 41, .fieldAddr 1 1, [.tmp 1], some (40, false), 0, []⟩, ⟨some 42, .load false 1, [.tmp 41], some (40, false), 0, []⟩, ⟨some 43, .bin .eql, [.tmp 42, .cst (.int .i64 0)], some (40, false), 0, []⟩, ⟨some 44, .mov, [.tmp 43], some (40, false), 0, []⟩, ⟨some 45, .fieldAddr 2 2, [.tmp 1], some (44, true), 0, []⟩, ⟨some 46, .load false 1, [.tmp 45], some (44, true), 0, []⟩, ⟨some 47, .bin .eql, [.tmp 46, .cst (.int .i64 0)], some (44, true), 0, []⟩, ⟨some 48, .pick, [.tmp 44, .tmp 47, .cst (.bool false)], some (40, false), 0, []⟩, ⟨some 49, .mov, [.tmp 48], some (40, false), 0, []⟩, ⟨some 50, .fieldAddr 5 5, [.tmp 1], some (49, true), 0, []⟩, ⟨some 51, .load false 1, [.tmp 50], some (49, true), 0, []⟩, ⟨some 52, .bin .eql, [.tmp 51, .cst (.int .i64 0)], some (49, true), 0, []⟩, ⟨some 53, .pick, [.tmp 49, .tmp 52, .cst (.bool false)], some (40, false), 0, []⟩, op0 54 .pick [.tmp 40, .cst (.bool true), .tmp 53], op0 2 .mov [.tmp 54]]) (.cut [2] (.ret))))) }


noncomputable def ir16 : IFn := { ntmps := 14, results := [.inr (2, true, 4), .inl 3], body := (.seq (.region false 2 [ op0 1 (.box 25) [.tmp 0], ⟨some 2, .alloc 25 (.pair (.nil 58 Zi0) (.pair (.nil 60 Zi1) (.pure Zi3 (0, (false, ()))))), [], none, 0, []⟩, op0 3 .mov [.cst (.int .i64 0)]]) (.seq (.seq (.region false 1 [ op0 4 (.load true 4) [.tmp 1], op0 5 (.callS 10) [.tmp 4], op0 6 .not [.tmp 5]]) (.cond (.tmp 6) (.seq (.region false 0 [ ⟨some 7, .build [((.nil 58 Zi0), 1), ((.nil 60 Zi1), 1), ((.int .i64 0), 1), ((.bool false), 1)] [], [], none, 0, []⟩, ⟨none, .store 4, [.tmp 2, .tmp 7], none, 0, []⟩, op0 3 .mov [.cst (.int .i64 1)]]) (.cut [2, 3] (.ret))) (.skip))) (.seq (.region false 1 [ op0 8 (.fieldAddr 1 1) [.tmp 1], op0 9 (.load false 1) [.tmp 8], op0 10 .len [.tmp 9], op0 11 (.mkSlice 60 Zi1 72) [.tmp 10, .tmp 10], op0 12 (.fieldAddr 1 1) [.tmp 1], ⟨none, .store 1, [.tmp 12, .tmp 11], none, 0, []⟩]) (.seq (.region false 0 [ op0 13 (.load true 4) [.tmp 1], ⟨none, .store 4, [.tmp 2, .tmp 13], none, 0, []⟩, op0 3 .mov [.cst (.int .i64 0)]]) (.cut [2, 3] (.ret)))))) }


noncomputable def ir17_b0 : IC := (.seq (.seq (.region false 0 [ op0 37 .mov [.tmp 5], op0 38 (.fieldAddr 0 0) [.tmp 2], op0 39 (.load false 1) [.tmp 38], op0 40 .len [.tmp 39], op0 41 (.bin .lss) [.tmp 37, .tmp 40]]) (.cond (.tmp 41) (.skip) (.cut [2, 3] (.exit 0)))) (.seq (.block 1 (.seq (.region true 0 [ op0 44 (.fieldAddr 0 0) [.tmp 2], ⟨some 45, .load false 1, [.tmp 44], none, 0, [0]⟩, op0 46 .mov [.tmp 5], ⟨some 47, .idxSl 8, [.tmp 45, .tmp 46], none, 0, [1, 0, 2]⟩, ⟨some 48, .load true 8, [.tmp 47], none, 0, [3, 1, 0, 2]⟩, op0 49 (.fieldAddr 0 0) [.tmp 3], ⟨some 50, .load false 1, [.tmp 49], none, 0, [5]⟩, op0 51 .mov [.tmp 5], ⟨some 52, .idxSl 8, [.tmp 50, .tmp 51], none, 0, [6, 5, 7]⟩, ⟨some 53, .load true 8, [.tmp 52], none, 0, [8, 6, 5, 7]⟩, ⟨some 54, .eqb true Zi0, [.tmp 48, .tmp 53], none, 0, [4, 3, 1, 0, 2, 9, 8, 6, 5, 7]⟩]) (.cond (.tmp 54) (.seq (.region false 0 [ op0 4 .mov [.cst (.bool false)]]) (.cut [4] (.ret))) (.skip)))) (.region false 0 [ op0 42 .mov [.tmp 5], op0 43 (.bin .add) [.tmp 42, .cst (.int .i64 1)], op0 5 .mov [.tmp 43]])))
noncomputable def ir17_v0 : List Nat := [2, 3, 5]
noncomputable def ir17_b1 : IC := (.seq (.seq (.region false 0 [ op0 55 .mov [.tmp 6], op0 56 (.fieldAddr 1 1) [.tmp 2], op0 57 (.load false 1) [.tmp 56], op0 58 .len [.tmp 57], op0 59 (.bin .lss) [.tmp 55, .tmp 58]]) (.cond (.tmp 59) (.skip) (.cut [] (.exit 2)))) (.seq (.block 3 (.seq (.region true 1 [ op0 62 (.fieldAddr 1 1) [.tmp 2], ⟨some 63, .load false 1, [.tmp 62], none, 0, [0]⟩, op0 64 .mov [.tmp 6], ⟨some 65, .idxSl 7, [.tmp 63, .tmp 64], none, 0, [1, 0, 2]⟩, ⟨some 66, .load true 7, [.tmp 65], none, 0, [3, 1, 0, 2]⟩, op0 67 (.fieldAddr 1 1) [.tmp 3], ⟨some 68, .load false 1, [.tmp 67], none, 0, [5]⟩, op0 69 .mov [.tmp 6], ⟨some 70, .idxSl 7, [.tmp 68, .tmp 69], none, 0, [6, 5, 7]⟩, ⟨some 71, .load true 7, [.tmp 70], none, 0, [8, 6, 5, 7]⟩, ⟨some 72, .callS 34, [.tmp 66, .tmp 71], none, 0, [4, 3, 1, 0, 2, 9, 8, 6, 5, 7]⟩, ⟨some 73, .not, [.tmp 72], none, 1, [10, 4, 3, 1, 0, 2, 9, 8, 6, 5, 7]⟩]) (.cond (.tmp 73) (.seq (.region false 0 [ op0 4 .mov [.cst (.bool false)]]) (.cut [4] (.ret))) (.skip)))) (.region false 0 [ op0 60 .mov [.tmp 6], op0 61 (.bin .add) [.tmp 60, .cst (.int .i64 1)], op0 6 .mov [.tmp 61]])))
noncomputable def ir17_v1 : List Nat := [2, 3, 6]
noncomputable def ir17_t {R : Type} (o0 o1 : St → (Ex → St → Option R) → Option R) : LT R := (.node .nil (.node .nil (.node (.node .nil (.node (.orc o0) .nil)) (.node (.node .nil (.node (.orc o1) .nil)) .nil))))
noncomputable def ir17 : IFn := { ntmps := 74, results := [.inl 4], body := (.seq (.region false 2 [ op0 2 (.box 25) [.tmp 0], op0 3 (.box 25) [.tmp 1], op0 4 .mov [.cst (.bool false)]]) (.seq (.seq (.region false 0 [ op0 7 (.fieldAddr 0 0) [.tmp 2], op0 8 (.load false 1) [.tmp 7], op0 9 .len [.tmp 8], op0 10 (.fieldAddr 0 0) [.tmp 3], op0 11 (.load false 1) [.tmp 10], op0 12 .len [.tmp 11], op0 13 (.bin .neq) [.tmp 9, .tmp 12], op0 14 .mov [.tmp 13], ⟨some 15, .fieldAddr 1 1, [.tmp 2], some (14, false), 0, []⟩, ⟨some 16, .load false 1, [.tmp 15], some (14, false), 0, []⟩, ⟨some 17, .len, [.tmp 16], some (14, false), 0, []⟩, ⟨some 18, .fieldAddr 1 1, [.tmp 3], some (14, false), 0, []⟩, ⟨some 19, .load false 1, [.tmp 18], some (14, false), 0, []⟩, ⟨some 20, .len, [.tmp 19], some (14, false), 0, []⟩, ⟨some 21, .bin .neq, [.tmp 17, .tmp 20], some (14, false), 0, []⟩, op0 22 .pick [.tmp 14, .cst (.bool true), .tmp 21], op0 23 .mov [.tmp 22], ⟨some 24, .fieldAddr 2 2, [.tmp 2], some (23, false), 0, []⟩, ⟨some 25, .load false 1, [.tmp 24], some (23, false), 0, []⟩, ⟨some 26, .fieldAddr 2 2, [.tmp 3], some (23, false), 0, []⟩, ⟨some 27, .load false 1, [.tmp 26], some (23, false), 0, []⟩, ⟨some 28, .bin .neq, [.tmp 25, .tmp 27], some (23, false), 0, []⟩, op0 29 .pick [.tmp 23, .cst (.bool true), .tmp 28], op0 30 .mov [.tmp 29], ⟨some 31, .fieldAddr 3 3, [.tmp 2], some (30, false), 0, []⟩, ⟨some 32, .load false 1, [.tmp 31], some (30, false), 0, []⟩, ⟨some 33, .fieldAddr 3 3, [.tmp 3], some (30, false), 0, []⟩, ⟨some 34, .load false 1, [.tmp 33], some (30, false), 0, []⟩, ⟨some 35, .eqb true .bool, [.tmp 32, .tmp 34], some (30, false), 0, []⟩, op0 36 .pick [.tmp 30, .cst (.bool true), .tmp 35]]) (.cond (.tmp 36) (.seq (.region false 0 [ op0 4 .mov [.cst (.bool false)]]) (.cut [4] (.ret))) (.skip))) (.seq (.seq (.region false 0 [ op0 5 .mov [.cst (.int .i64 0)]]) (.block 0 (.loop ir17_v0 ir17_b0))) (.seq (.seq (.region false 0 [ op0 6 .mov [.cst (.int .i64 0)]]) (.block 2 (.loop ir17_v1 ir17_b1))) (.seq (.region false 0 [ op0 4 .mov [.cst (.bool true)]]) (.cut [4] (.ret))))))) }
theorem ir17_tok {R : Type} {summ : Nat → Option Summ} {fu : Nat} {call : Nat → List CV → List Blk → (CV → List Blk → Option R) → Option R} {o0 o1 : St → (Ex → St → Option R) → Option R} (h0 : ∀ T k r, o0 T k = some r → evLoopN (evCode summ fu call ir17_b0) (St.norm ir17_v0) fu T k = some r) (h1 : ∀ T k r, o1 T k = some r → evLoopN (evCode summ fu call ir17_b1) (St.norm ir17_v1) fu T k = some r) : LTok summ fu call (ir17_t o0 o1) ir17.body := ⟨trivial, ⟨trivial, ⟨⟨trivial, h0⟩, ⟨⟨trivial, h1⟩, trivial⟩⟩⟩⟩


noncomputable def ir18_b0 : IC := (.seq (.region false 0 [ op0 14 (.bin .lss) [.tmp 13, .tmp 12]]) (.seq (.cond (.tmp 14) (.skip) (.cut [] (.exit 0))) (.seq (.block 1 (.seq (.region false 0 [ op0 15 .mov [.tmp 13], op0 5 .mov [.tmp 15]]) (.seq (.region true 0 [ op0 16 .mov [.tmp 0], op0 17 .mov [.tmp 5], ⟨some 18, .idxSl 1, [.tmp 16, .tmp 17], none, 0, [0, 1]⟩, ⟨some 19, .load false 1, [.tmp 18], none, 0, [2, 0, 1]⟩, op0 20 .mov [.tmp 1], op0 21 .mov [.tmp 5], ⟨some 22, .idxSl 1, [.tmp 20, .tmp 21], none, 0, [4, 5]⟩, ⟨some 23, .load false 1, [.tmp 22], none, 0, [6, 4, 5]⟩, ⟨some 24, .bin .neq, [.tmp 19, .tmp 23], none, 0, [3, 2, 0, 1, 7, 6, 4, 5]⟩]) (.cond (.tmp 24) (.seq (.region false 0 [ op0 4 .mov [.cst (.bool false)]]) (.cut [4] (.ret))) (.skip))))) (.region false 0 [ op0 25 (.bin .add) [.tmp 13, .cst (.int .i64 1)], op0 13 .mov [.tmp 25]]))))
noncomputable def ir18_v0 : List Nat := [0, 1, 12, 13]
noncomputable def ir18_t {R : Type} (o0 : St → (Ex → St → Option R) → Option R) : LT R := (.node .nil (.node .nil (.node (.node .nil (.node (.orc o0) .nil)) .nil)))
noncomputable def ir18 : IFn := { ntmps := 26, results := [.inl 4], body := (.seq (.region false 0 [ op0 4 .mov [.cst (.bool false)]]) (.seq (.seq (.region false 0 [ op0 6 .mov [.tmp 0], op0 7 .len [.tmp 6], op0 8 .mov [.tmp 1], op0 9 .len [.tmp 8], op0 10 (.bin .neq) [.tmp 7, .tmp 9]]) (.cond (.tmp 10) (.seq (.region false 0 [ op0 4 .mov [.cst (.bool false)]]) (.cut [4] (.ret))) (.skip))) (.seq (.seq (.region false 0 [ op0 11 .mov [.tmp 0], op0 12 .len [.tmp 11], op0 13 .mov [.cst (.int .i64 0)]]) (.block 0 (.loop ir18_v0 ir18_b0))) (.seq (.region false 0 [ op0 4 .mov [.cst (.bool true)]]) (.cut [4] (.ret)))))) }
theorem ir18_tok {R : Type} {summ : Nat → Option Summ} {fu : Nat} {call : Nat → List CV → List Blk → (CV → List Blk → Option R) → Option R} {o0 : St → (Ex → St → Option R) → Option R} (h0 : ∀ T k r, o0 T k = some r → evLoopN (evCode summ fu call ir18_b0) (St.norm ir18_v0) fu T k = some r) : LTok summ fu call (ir18_t o0) ir18.body := ⟨trivial, ⟨trivial, ⟨⟨trivial, h0⟩, trivial⟩⟩⟩


noncomputable def ir19 : IFn := { ntmps := 20, results := [.inl 4], body := (.seq (.region false 0 [ op0 4 .mov [.cst (.int .i64 0)]]) (.seq (.seq (.region false 2 [ op0 5 .mov [.tmp 0], op0 6 (.callS 31) [.tmp 5, .cst (.int .i64 0), .cst (.int .i64 65535)], op0 7 .not [.tmp 6], op0 8 .mov [.tmp 7], ⟨some 9, .mov, [.tmp 1], some (8, false), 0, []⟩, ⟨some 10, .callS 31, [.tmp 9, .cst (.int .i64 0), .cst (.int .i64 1)], some (8, false), 0, []⟩, ⟨some 11, .not, [.tmp 10], some (8, false), 0, []⟩, op0 12 .pick [.tmp 8, .cst (.bool true), .tmp 11]]) (.cond (.tmp 12) (.seq (.region false 0 [ op0 4 .mov [.cst (.int .i64 0)]]) (.cut [4] (.ret))) (.skip))) (.seq (.region false 0 [ op0 13 .mov [.tmp 0], op0 14 (.bin .xor) [.tmp 13, .cst (.int .i64 23130)], op0 15 (.bin .mul) [.tmp 14, .cst (.int .i64 31)], op0 16 .mov [.tmp 1], op0 17 (.bin .mul) [.cst (.int .i64 7), .tmp 16], op0 18 (.bin .add) [.tmp 15, .tmp 17], op0 19 (.bin .and) [.tmp 18, .cst (.int .i64 65535)], op0 4 .mov [.tmp 19]]) (.cut [4] (.ret))))) }


noncomputable def ir22 : IFn := { ntmps := 9, results := [.inl 4], body := (.seq (.region false 0 [ op0 4 .mov [.cst (.bool false)]]) (.seq (.region false 0 [ op0 5 .mov [.tmp 0], op0 6 .mov [.tmp 1], op0 7 (.call 37) [.tmp 5, .tmp 6], op0 8 (.bin .geq) [.tmp 7, .cst (.int .i64 0)], op0 4 .mov [.tmp 8]]) (.cut [4] (.ret)))) }


noncomputable def ir23 : IFn := { ntmps := 7, results := [.inl 2], body := (.seq (.region false 1 [ op0 1 (.box 60) [.tmp 0], op0 2 .mov [.cst (.bool false)]]) (.seq (.region false 0 [ op0 3 (.fieldAddr 5 5) [.tmp 1], op0 4 (.load false 1) [.tmp 3], op0 5 .len [.tmp 4], op0 6 (.bin .gtr) [.tmp 5, .cst (.int .i64 20)], op0 2 .mov [.tmp 6]]) (.cut [2] (.ret)))) }


noncomputable def ir24 : IFn := { ntmps := 9, results := [.inl 4], body := (.seq (.region false 0 [ op0 4 .mov [.cst (.bool false)]]) (.seq (.region false 0 [ op0 5 .mov [.tmp 0], op0 6 .mov [.tmp 1], op0 7 (.call 35) [.tmp 5, .tmp 6], op0 8 (.bin .geq) [.tmp 7, .cst (.int .i64 0)], op0 4 .mov [.tmp 8]]) (.cut [4] (.ret)))) }


noncomputable def ir25 : IFn := { ntmps := 6, results := [.inl 2], body := (.seq (.region false 1 [ op0 1 (.box 58) [.tmp 0], op0 2 .mov [.cst (.bool false)]]) (.seq (.region false 1 [ op0 3 (.load true 8) [.tmp 1], op0 4 (.callS 38) [.tmp 3], op0 5 .not [.tmp 4], op0 2 .mov [.tmp 5]]) (.cut [2] (.ret)))) }


noncomputable def ir27 : IFn := { ntmps := 15, results := [.inl 6], body := (.seq (.region false 0 [ op0 6 .mov [.cst (.bool false)]]) (.seq (.region false 0 [ op0 7 .mov [.tmp 0], op0 8 .mov [.tmp 1], op0 9 (.bin .geq) [.tmp 7, .tmp 8], op0 10 .mov [.tmp 9], ⟨some 11, .mov, [.tmp 0], some (10, true), 0, []⟩, ⟨some 12, .mov, [.tmp 2], some (10, true), 0, []⟩, ⟨some 13, .bin .leq, [.tmp 11, .tmp 12], some (10, true), 0, []⟩, op0 14 .pick [.tmp 10, .tmp 13, .cst (.bool false)], op0 6 .mov [.tmp 14]]) (.cut [6] (.ret)))) }


noncomputable def ir28_b3 : IC := (.seq (.region false 1 [ op0 106 (.load true 7) [.tmp 4], op0 107 (.callS 41) [.tmp 106], op0 105 .mov [.tmp 107]]) (.cond (.tmp 105) (.seq (.region false 0 [ op0 108 (.fieldAddr 4 4) [.tmp 4], op0 109 (.load false 1) [.tmp 108], op0 110 (.bin .geq) [.tmp 109, .cst (.int .i64 1)], op0 111 .mov [.tmp 110], ⟨some 112, .fieldAddr 2 2, [.tmp 4], some (111, true), 0, []⟩, ⟨some 113, .load false 1, [.tmp 112], some (111, true), 0, []⟩, ⟨some 114, .bin .geq, [.tmp 113, .cst (.int .i64 1)], some (111, true), 0, []⟩, op0 115 .pick [.tmp 111, .tmp 114, .cst (.bool false)], op0 116 .mov [.tmp 115], ⟨some 117, .fieldAddr 6 6, [.tmp 4], some (116, true), 0, []⟩, ⟨some 118, .load false 1, [.tmp 117], some (116, true), 0, []⟩, ⟨some 119, .bin .geq, [.tmp 118, .cst (.int .i64 1)], some (116, true), 0, []⟩, op0 120 .pick [.tmp 116, .tmp 119, .cst (.bool false)], op0 121 .mov [.tmp 120], ⟨some 122, .fieldAddr 5 5, [.tmp 4], some (121, true), 0, []⟩, ⟨some 123, .load false 1, [.tmp 122], some (121, true), 0, []⟩, ⟨some 124, .len, [.tmp 123], some (121, true), 0, []⟩, ⟨some 125, .fieldAddr 7 7, [.tmp 3], some (121, true), 0, []⟩, ⟨some 126, .load false 1, [.tmp 125], some (121, true), 0, []⟩, ⟨some 127, .bin .eql, [.tmp 124, .tmp 126], some (121, true), 0, []⟩, op0 128 .pick [.tmp 121, .tmp 127, .cst (.bool false)], op0 6 .mov [.tmp 128]]) (.cut [6] (.ret))) (.skip)))
noncomputable def ir28_v3 : List Nat := [3, 4]
noncomputable def ir28_b2 : IC := (.seq (.region false 1 [ op0 98 (.load true 7) [.tmp 4], op0 99 (.callS 40) [.tmp 98, .cst (.int .i64 2)], op0 100 .mov [.tmp 99], ⟨some 101, .fieldAddr 3 3, [.tmp 4], some (100, true), 0, []⟩, ⟨some 102, .load false 1, [.tmp 101], some (100, true), 0, []⟩, ⟨some 103, .bin .neq, [.tmp 102, .cst (.int .i64 0)], some (100, true), 0, []⟩, op0 104 .pick [.tmp 100, .tmp 103, .cst (.bool false)], op0 97 .mov [.tmp 104]]) (.cond (.tmp 97) (.seq (.region false 0 [ op0 6 .mov [.cst (.bool false)]]) (.cut [6] (.ret))) (.cut ir28_v3 ir28_b3)))
noncomputable def ir28_v2 : List Nat := [3, 4]
noncomputable def ir28_bt2 {R : Type} (o3 : St → (Ex → St → Option R) → Option R) : LT R := (.node .nil (.node .nil (.orc o3)))
noncomputable def ir28_b1 : IC := (.seq (.region true 1 [ op0 78 (.load true 7) [.tmp 4], ⟨some 79, .callS 40, [.tmp 78, .cst (.int .i64 4)], none, 0, [0]⟩, ⟨some 80, .fieldAddr 2 2, [.tmp 4], none, 1, []⟩, ⟨some 81, .load false 1, [.tmp 80], none, 1, [2]⟩, ⟨some 82, .bin .eql, [.tmp 81, .cst (.int .i64 2)], none, 1, [3, 2]⟩, ⟨some 83, .eqb true .bool, [.tmp 79, .tmp 82], none, 1, [1, 0, 4, 3, 2]⟩, ⟨some 77, .mov, [.tmp 83], none, 1, [5, 1, 0, 4, 3, 2]⟩]) (.cond (.tmp 77) (.seq (.region false 0 [ op0 6 .mov [.cst (.bool false)]]) (.cut [6] (.ret))) (.seq (.region false 2 [ op0 85 (.load true 7) [.tmp 4], op0 86 (.callS 40) [.tmp 85, .cst (.int .i64 16)], op0 87 .mov [.tmp 86], ⟨some 88, .load true 7, [.tmp 4], some (87, true), 0, []⟩, ⟨some 89, .callS 40, [.tmp 88, .cst (.int .i64 4)], some (87, true), 0, []⟩, ⟨some 90, .not, [.tmp 89], some (87, true), 0, []⟩, ⟨some 91, .mov, [.tmp 90], some (87, true), 0, []⟩, ⟨some 92, .fieldAddr 6 6, [.tmp 3], some (91, false), 0, []⟩, ⟨some 93, .load false 1, [.tmp 92], some (91, false), 0, []⟩, ⟨some 94, .not, [.tmp 93], some (91, false), 0, []⟩, ⟨some 95, .pick, [.tmp 91, .cst (.bool true), .tmp 94], some (87, true), 0, []⟩, op0 96 .pick [.tmp 87, .tmp 95, .cst (.bool false)], op0 84 .mov [.tmp 96]]) (.cond (.tmp 84) (.seq (.region false 0 [ op0 6 .mov [.cst (.bool false)]]) (.cut [6] (.ret))) (.cut ir28_v2 ir28_b2)))))
noncomputable def ir28_v1 : List Nat := [3, 4]
noncomputable def ir28_bt1 {R : Type} (o2 : St → (Ex → St → Option R) → Option R) : LT R := (.node .nil (.node .nil (.node .nil (.node .nil (.orc o2)))))
noncomputable def ir28_b0 : IC := (.seq (.block 0 (.seq (.region false 2 [ op0 64 (.load true 7) [.tmp 4], op0 65 (.callS 40) [.tmp 64, .cst (.int .i64 1)], op0 66 .mov [.tmp 65], ⟨some 67, .load true 7, [.tmp 4], some (66, true), 0, []⟩, ⟨some 68, .callS 40, [.tmp 67, .cst (.int .i64 10)], some (66, true), 0, []⟩, ⟨some 69, .not, [.tmp 68], some (66, true), 0, []⟩, ⟨some 70, .mov, [.tmp 69], some (66, true), 0, []⟩, ⟨some 71, .fieldAddr 6 6, [.tmp 4], some (70, false), 0, []⟩, ⟨some 72, .load false 1, [.tmp 71], some (70, false), 0, []⟩, ⟨some 73, .mov, [.tmp 2], some (70, false), 0, []⟩, ⟨some 74, .bin .neq, [.tmp 72, .tmp 73], some (70, false), 0, []⟩, ⟨some 75, .pick, [.tmp 70, .cst (.bool true), .tmp 74], some (66, true), 0, []⟩, op0 76 .pick [.tmp 66, .tmp 75, .cst (.bool false)], op0 63 .mov [.tmp 76]]) (.cond (.tmp 63) (.seq (.region false 0 [ op0 6 .mov [.cst (.bool false)]]) (.cut [6] (.ret))) (.cut ir28_v1 ir28_b1)))) (.seq (.region false 0 [ op0 129 (.fieldAddr 2 2) [.tmp 4], op0 130 (.load false 1) [.tmp 129], op0 131 (.bin .eql) [.tmp 130, .cst (.int .i64 0)], op0 132 .mov [.tmp 131], ⟨some 133, .fieldAddr 3 3, [.tmp 4], some (132, true), 0, []⟩, ⟨some 134, .load false 1, [.tmp 133], some (132, true), 0, []⟩, ⟨some 135, .bin .eql, [.tmp 134, .cst (.int .i64 0)], some (132, true), 0, []⟩, op0 136 .pick [.tmp 132, .tmp 135, .cst (.bool false)], op0 137 .mov [.tmp 136], ⟨some 138, .fieldAddr 4 4, [.tmp 4], some (137, true), 0, []⟩, ⟨some 139, .load false 1, [.tmp 138], some (137, true), 0, []⟩, ⟨some 140, .bin .eql, [.tmp 139, .cst (.int .i64 0)], some (137, true), 0, []⟩, op0 141 .pick [.tmp 137, .tmp 140, .cst (.bool false)], op0 142 .mov [.tmp 141], ⟨some 143, .fieldAddr 6 6, [.tmp 4], some (142, true), 0, []⟩, ⟨some 144, .load false 1, [.tmp 143], some (142, true), 0, []⟩, ⟨some 145, .bin .eql, [.tmp 144, .cst (.int .i64 0)], some (142, true), 0, []⟩, op0 146 .pick [.tmp 142, .tmp 145, .cst (.bool false)], op0 147 .mov [.tmp 146], ⟨some 148, .fieldAddr 5 5, [.tmp 4], some (147, true), 0, []⟩, ⟨some 149, .load false 1, [.tmp 148], some (147, true), 0, []⟩, ⟨some 150, .len, [.tmp 149], some (147, true), 0, []⟩, ⟨some 151, .bin .eql, [.tmp 150, .cst (.int .i64 0)], some (147, true), 0, []⟩, op0 152 .pick [.tmp 147, .tmp 151, .cst (.bool false)], op0 6 .mov [.tmp 152]]) (.cut [6] (.ret))))
noncomputable def ir28_v0 : List Nat := [2, 3, 4]
noncomputable def ir28_bt0 {R : Type} (o1 : St → (Ex → St → Option R) → Option R) : LT R := (.node (.node (.node .nil (.node .nil (.orc o1))) .nil) .nil)
noncomputable def ir28_t {R : Type} (o0 : St → (Ex → St → Option R) → Option R) : LT R := (.node .nil (.node .nil (.orc o0)))
noncomputable def ir28 : IFn := { ntmps := 153, results := [.inl 6], body := (.seq (.region false 2 [ op0 3 (.box 58) [.tmp 0], op0 4 (.box 60) [.tmp 1], op0 6 .mov [.cst (.bool false)]]) (.seq (.seq (.region false 7 [ op0 7 (.fieldAddr 0 0) [.tmp 4], op0 8 (.load false 1) [.tmp 7], op0 9 (.callS 27) [.tmp 8, .cst (.int .i64 0), .cst (.int .i64 31)], op0 10 .not [.tmp 9], op0 11 .mov [.tmp 10], ⟨some 12, .fieldAddr 1 1, [.tmp 4], some (11, false), 0, []⟩, ⟨some 13, .load false 1, [.tmp 12], some (11, false), 0, []⟩, ⟨some 14, .fieldAddr 2 2, [.tmp 3], some (11, false), 0, []⟩, ⟨some 15, .load false 1, [.tmp 14], some (11, false), 0, []⟩, ⟨some 16, .neg, [.tmp 15], some (11, false), 0, []⟩, ⟨some 17, .fieldAddr 1 1, [.tmp 3], some (11, false), 0, []⟩, ⟨some 18, .load false 1, [.tmp 17], some (11, false), 0, []⟩, ⟨some 19, .callS 27, [.tmp 13, .tmp 16, .tmp 18], some (11, false), 0, []⟩, ⟨some 20, .not, [.tmp 19], some (11, false), 0, []⟩, op0 21 .pick [.tmp 11, .cst (.bool true), .tmp 20], op0 22 .mov [.tmp 21], ⟨some 23, .fieldAddr 2 2, [.tmp 4], some (22, false), 0, []⟩, ⟨some 24, .load false 1, [.tmp 23], some (22, false), 0, []⟩, ⟨some 25, .callS 27, [.tmp 24, .cst (.int .i64 0), .cst (.int .i64 2)], some (22, false), 0, []⟩, ⟨some 26, .not, [.tmp 25], some (22, false), 0, []⟩, op0 27 .pick [.tmp 22, .cst (.bool true), .tmp 26], op0 28 .mov [.tmp 27], ⟨some 29, .fieldAddr 3 3, [.tmp 4], some (28, false), 0, []⟩, ⟨some 30, .load false 1, [.tmp 29], some (28, false), 0, []⟩, ⟨some 31, .fieldAddr 4 4, [.tmp 3], some (28, false), 0, []⟩, ⟨some 32, .load false 1, [.tmp 31], some (28, false), 0, []⟩, ⟨some 33, .bin .sub, [.tmp 32, .cst (.int .i64 1)], some (28, false), 0, []⟩, ⟨some 34, .callS 27, [.tmp 30, .cst (.int .i64 0), .tmp 33], some (28, false), 0, []⟩, ⟨some 35, .not, [.tmp 34], some (28, false), 0, []⟩, op0 36 .pick [.tmp 28, .cst (.bool true), .tmp 35], op0 37 .mov [.tmp 36], ⟨some 38, .fieldAddr 4 4, [.tmp 4], some (37, false), 0, []⟩, ⟨some 39, .load false 1, [.tmp 38], some (37, false), 0, []⟩, ⟨some 40, .callS 27, [.tmp 39, .cst (.int .i64 0), .cst (.int .i64 255)], some (37, false), 0, []⟩, ⟨some 41, .not, [.tmp 40], some (37, false), 0, []⟩, op0 42 .pick [.tmp 37, .cst (.bool true), .tmp 41], op0 43 .mov [.tmp 42], ⟨some 44, .fieldAddr 6 6, [.tmp 4], some (43, false), 0, []⟩, ⟨some 45, .load false 1, [.tmp 44], some (43, false), 0, []⟩, ⟨some 46, .mov, [.tmp 2], some (43, false), 0, []⟩, ⟨some 47, .callS 27, [.tmp 45, .cst (.int .i64 0), .tmp 46], some (43, false), 0, []⟩, ⟨some 48, .not, [.tmp 47], some (43, false), 0, []⟩, op0 49 .pick [.tmp 43, .cst (.bool true), .tmp 48], op0 50 .mov [.tmp 49], ⟨some 51, .fieldAddr 5 5, [.tmp 4], some (50, false), 0, []⟩, ⟨some 52, .load false 1, [.tmp 51], some (50, false), 0, []⟩, ⟨some 53, .len, [.tmp 52], some (50, false), 0, []⟩, ⟨some 54, .bin .gtr, [.tmp 53, .cst (.int .i64 0)], some (50, false), 0, []⟩, ⟨some 55, .mov, [.tmp 54], some (50, false), 0, []⟩, ⟨some 56, .load true 8, [.tmp 3], some (55, true), 0, []⟩, ⟨some 57, .fieldAddr 5 5, [.tmp 4], some (55, true), 0, []⟩, ⟨some 58, .load false 1, [.tmp 57], some (55, true), 0, []⟩, ⟨some 59, .callS 39, [.tmp 56, .tmp 58], some (55, true), 0, []⟩, ⟨some 60, .not, [.tmp 59], some (55, true), 0, []⟩, ⟨some 61, .pick, [.tmp 55, .tmp 60, .cst (.bool false)], some (50, false), 0, []⟩, op0 62 .pick [.tmp 50, .cst (.bool true), .tmp 61]]) (.cond (.tmp 62) (.seq (.region false 0 [ op0 6 .mov [.cst (.bool false)]]) (.cut [6] (.ret))) (.skip))) (.cut ir28_v0 ir28_b0))) }
theorem ir28_bt2ok {R : Type} {summ : Nat → Option Summ} {fu : Nat} {call : Nat → List CV → List Blk → (CV → List Blk → Option R) → Option R} {o3 : St → (Ex → St → Option R) → Option R} (h3 : ∀ T k r, o3 T k = some r → evCode summ fu call ir28_b3 T k = some r) : LTok summ fu call (ir28_bt2 o3) ir28_b2 := ⟨trivial, ⟨trivial, h3⟩⟩
theorem ir28_bt1ok {R : Type} {summ : Nat → Option Summ} {fu : Nat} {call : Nat → List CV → List Blk → (CV → List Blk → Option R) → Option R} {o2 : St → (Ex → St → Option R) → Option R} (h2 : ∀ T k r, o2 T k = some r → evCode summ fu call ir28_b2 T k = some r) : LTok summ fu call (ir28_bt1 o2) ir28_b1 := ⟨trivial, ⟨trivial, ⟨trivial, ⟨trivial, h2⟩⟩⟩⟩
theorem ir28_bt0ok {R : Type} {summ : Nat → Option Summ} {fu : Nat} {call : Nat → List CV → List Blk → (CV → List Blk → Option R) → Option R} {o1 : St → (Ex → St → Option R) → Option R} (h1 : ∀ T k r, o1 T k = some r → evCode summ fu call ir28_b1 T k = some r) : LTok summ fu call (ir28_bt0 o1) ir28_b0 := ⟨⟨trivial, ⟨trivial, h1⟩⟩, trivial⟩
theorem ir28_tok {R : Type} {summ : Nat → Option Summ} {fu : Nat} {call : Nat → List CV → List Blk → (CV → List Blk → Option R) → Option R} {o0 : St → (Ex → St → Option R) → Option R} (h0 : ∀ T k r, o0 T k = some r → evCode summ fu call ir28_b0 T k = some r) : LTok summ fu call (ir28_t o0) ir28.body := ⟨trivial, ⟨trivial, h0⟩⟩


noncomputable def ir29 : IFn := { ntmps := 9, results := [.inl 4], body := (.seq (.region false 0 [ op0 4 .mov [.cst (.bool false)]]) (.seq (.region false 0 [ op0 5 .mov [.tmp 0], op0 6 .mov [.tmp 1], op0 7 (.call 42) [.tmp 5, .tmp 6], op0 8 (.bin .geq) [.tmp 7, .cst (.int .i64 0)], op0 4 .mov [.tmp 8]]) (.cut [4] (.ret)))) }


noncomputable def ir30 : IFn := { ntmps := 7, results := [.inl 2], body := (.seq (.region false 1 [ op0 1 (.box 36) [.tmp 0], op0 2 .mov [.cst (.bool false)]]) (.seq (.region false 0 [ op0 3 (.fieldAddr 1 1) [.tmp 1], op0 4 (.load false 1) [.tmp 3], op0 5 .len [.tmp 4], op0 6 (.bin .gtr) [.tmp 5, .cst (.int .i64 8)], op0 2 .mov [.tmp 6]]) (.cut [2] (.ret)))) }


noncomputable def ir31 : IFn := { ntmps := 15, results := [.inl 6], body := (.seq (.region false 0 [ op0 6 .mov [.cst (.bool false)]]) (.seq (.region false 0 [ op0 7 .mov [.tmp 0], op0 8 .mov [.tmp 1], op0 9 (.bin .geq) [.tmp 7, .tmp 8], op0 10 .mov [.tmp 9], ⟨some 11, .mov, [.tmp 0], some (10, true), 0, []⟩, ⟨some 12, .mov, [.tmp 2], some (10, true), 0, []⟩, ⟨some 13, .bin .leq, [.tmp 11, .tmp 12], some (10, true), 0, []⟩, op0 14 .pick [.tmp 10, .tmp 13, .cst (.bool false)], op0 6 .mov [.tmp 14]]) (.cut [6] (.ret)))) }


noncomputable def ir32 : IFn := { ntmps := 13, results := [.inr (4, true, 6)], body := (.seq (.region false 2 [ op0 2 (.box 31) [.tmp 0], ⟨some 4, .alloc 31 (.pure Zi2 (0, (0, (0, (0, (0, (0, ()))))))), [], none, 0, []⟩]) (.seq (.region false 0 [ op0 5 .mov [.tmp 1], op0 6 (.fieldAddr 0 0) [.tmp 2], ⟨none, .store 1, [.tmp 6, .tmp 5], none, 0, []⟩, op0 7 (.fieldAddr 1 1) [.tmp 2], ⟨none, .store 1, [.tmp 7, .cst (.int .i64 0)], none, 0, []⟩, op0 8 (.fieldAddr 2 2) [.tmp 2], ⟨none, .store 1, [.tmp 8, .cst (.int .i64 0)], none, 0, []⟩]) (.seq (.seq (.region false 0 [ op0 9 .mov [.tmp 1], op0 10 (.bin .eql) [.tmp 9, .cst (.int .i64 1)]]) (.cond (.tmp 10) (.region false 0 [ op0 11 (.fieldAddr 5 5) [.tmp 2], ⟨none, .store 1, [.tmp 11, .cst (.int .i64 0)], none, 0, []⟩]) (.skip))) (.seq (.region false 0 [ op0 12 (.load true 6) [.tmp 2], ⟨none, .store 6, [.tmp 4, .tmp 12], none, 0, []⟩]) (.cut [4] (.ret)))))) }


noncomputable def ir33_b0 : IC := (.cond (.tmp 12) (.seq (.region false 0 [ op0 4 .mov [.cst (.nil 5 (.int .u8))], op0 5 .mov [.cst (.int .i64 127)]]) (.cut [4, 5] (.ret))) (.seq (.region false 0 [ op0 32 .mov [.tmp 1], op0 33 .len [.tmp 32], op0 34 .mov [.tmp 6], op0 35 (.bin .neq) [.tmp 33, .tmp 34], op0 31 .mov [.tmp 35]]) (.cond (.tmp 31) (.seq (.region false 0 [ op0 4 .mov [.cst (.nil 5 (.int .u8))], op0 5 .mov [.cst (.int .i64 19)]]) (.cut [4, 5] (.ret))) (.seq (.region false 1 [ op0 37 .mov [.tmp 1], op0 38 (.callS 44) [.tmp 37], op0 39 .not [.tmp 38], op0 36 .mov [.tmp 39]]) (.cond (.tmp 36) (.seq (.region false 0 [ op0 4 .mov [.cst (.nil 5 (.int .u8))], op0 5 .mov [.cst (.int .i64 18)]]) (.cut [4, 5] (.ret))) (.skip))))))
noncomputable def ir33_v0 : List Nat := [0, 1, 6, 12]
noncomputable def ir33_b2 : IC := (.seq (.region false 2 [ ⟨some 63, .buildSl 5 (.int .u8) 2, [.cst (.int .u8 81), .cst (.int .u8 1)], none, 0, []⟩, op0 64 (.callS 46) [.tmp 63], op0 65 (.extract 0) [.tmp 64], op0 66 (.extract 1) [.tmp 64], op0 4 .mov [.tmp 65], op0 5 .mov [.tmp 66]]) (.cut [4, 5] (.ret)))
noncomputable def ir33_v2 : List Nat := []
noncomputable def ir33_b3 : IC := (.seq (.seq (.region true 0 [ op0 107 .mov [.tmp 0], op0 108 .mov [.tmp 1], ⟨some 109, .idxSl 1, [.tmp 108, .cst (.int .i64 2)], none, 0, [1]⟩, ⟨some 110, .load false 1, [.tmp 109], none, 0, [2, 1]⟩, ⟨some 111, .conv .i64, [.tmp 110], none, 0, [3, 2, 1]⟩, ⟨some 112, .bin .shl, [.tmp 111, .cst (.int .u64 8)], none, 0, [4, 3, 2, 1]⟩, op0 113 .mov [.tmp 1], ⟨some 114, .idxSl 1, [.tmp 113, .cst (.int .i64 3)], none, 0, [6]⟩, ⟨some 115, .load false 1, [.tmp 114], none, 0, [7, 6]⟩, ⟨some 116, .conv .i64, [.tmp 115], none, 0, [8, 7, 6]⟩, ⟨some 117, .bin .or, [.tmp 112, .tmp 116], none, 0, [5, 4, 3, 2, 1, 9, 8, 7, 6]⟩]) (.seq (.region false 0 [ ⟨some 118, .call 51, [.tmp 107, .tmp 117], none, 0, [0, 10, 5, 4, 3, 2, 1, 9, 8, 7, 6]⟩]) (.region true 0 [ op0 119 (.extract 0) [.tmp 118], op0 120 (.extract 1) [.tmp 118], ⟨some 4, .mov, [.tmp 119], none, 0, [0, 1]⟩, ⟨some 5, .mov, [.tmp 120], none, 0, [1, 2, 0]⟩]))) (.cut [4, 5] (.ret)))
noncomputable def ir33_v3 : List Nat := [0, 1]
noncomputable def ir33_b4 : IC := (.seq (.seq (.region false 0 [ op0 121 .mov [.tmp 1], op0 122 (.idxSl 1) [.tmp 121, .cst (.int .i64 1)], op0 123 (.load false 1) [.tmp 122], op0 124 (.bin .eql) [.tmp 123, .cst (.int .u8 128)]]) (.cond (.tmp 124) (.seq (.region false 0 [ op0 4 .mov [.cst (.nil 5 (.int .u8))], op0 5 .mov [.cst (.int .i64 0)]]) (.cut [4, 5] (.ret))) (.skip))) (.seq (.region false 2 [ ⟨some 125, .buildSl 5 (.int .u8) 2, [.cst (.int .u8 126), .cst (.int .u8 0)], none, 0, []⟩, op0 126 (.callS 46) [.tmp 125], op0 127 (.extract 0) [.tmp 126], op0 128 (.extract 1) [.tmp 126], op0 4 .mov [.tmp 127], op0 5 .mov [.tmp 128]]) (.cut [4, 5] (.ret))))
noncomputable def ir33_v4 : List Nat := [1]
noncomputable def ir33_b1 : IC := (.seq (.seq (.region false 0 [ op0 40 .mov [.tmp 1], op0 41 (.idxSl 1) [.tmp 40, .cst (.int .i64 0)], op0 42 (.load false 1) [.tmp 41]]) (.block 1 (.seq (.region false 0 [ op0 44 (.bin .eql) [.tmp 42, .cst (.int .u8 16)], op0 43 .mov [.tmp 44]]) (.cond (.tmp 43) (.seq (.region false 0 [ op0 45 .mov [.tmp 0], op0 46 .mov [.tmp 1], op0 47 (.idxSl 1) [.tmp 46, .cst (.int .i64 1)], op0 48 (.load false 1) [.tmp 47], op0 49 (.conv .i64) [.tmp 48], op0 50 (.call 45) [.tmp 45, .tmp 49], op0 51 (.extract 0) [.tmp 50], op0 52 (.extract 1) [.tmp 50], op0 4 .mov [.tmp 51], op0 5 .mov [.tmp 52]]) (.cut [4, 5] (.ret))) (.seq (.region false 0 [ op0 54 (.bin .eql) [.tmp 42, .cst (.int .u8 17)], op0 53 .mov [.tmp 54]]) (.cond (.tmp 53) (.seq (.region false 1 [ op0 55 .mov [.tmp 0], op0 56 .mov [.tmp 0], op0 57 .nilck [.tmp 56], op0 58 (.fieldAddr 0 0) [.tmp 57], op0 59 (.load true 6) [.tmp 58], op0 60 (.callS 32) [.tmp 59, .cst (.int .i64 1)], op0 61 .nilck [.tmp 55], op0 62 (.fieldAddr 0 0) [.tmp 61], ⟨none, .store 6, [.tmp 62, .tmp 60], none, 0, []⟩]) (.cut ir33_v2 ir33_b2)) (.seq (.region false 0 [ op0 68 (.bin .eql) [.tmp 42, .cst (.int .u8 20)], op0 67 .mov [.tmp 68]]) (.cond (.tmp 67) (.seq (.region false 0 [ op0 69 .mov [.tmp 0], op0 70 .mov [.tmp 1], op0 71 (.slice 1 true false) [.tmp 70, .cst (.int .i64 1)], op0 72 (.call 47) [.tmp 69, .tmp 71], op0 73 (.extract 0) [.tmp 72], op0 74 (.extract 1) [.tmp 72], op0 4 .mov [.tmp 73], op0 5 .mov [.tmp 74]]) (.cut [4, 5] (.ret))) (.seq (.region false 0 [ op0 76 (.bin .eql) [.tmp 42, .cst (.int .u8 25)], op0 75 .mov [.tmp 76]]) (.cond (.tmp 75) (.seq (.region false 0 [ op0 77 .mov [.tmp 0], op0 78 .mov [.tmp 1], op0 79 (.idxSl 1) [.tmp 78, .cst (.int .i64 2)], op0 80 (.load false 1) [.tmp 79], op0 81 (.conv .i64) [.tmp 80], op0 82 (.call 48) [.tmp 77, .tmp 81], op0 83 (.extract 0) [.tmp 82], op0 84 (.extract 1) [.tmp 82], op0 4 .mov [.tmp 83], op0 5 .mov [.tmp 84]]) (.cut [4, 5] (.ret))) (.seq (.region false 0 [ op0 86 (.bin .eql) [.tmp 42, .cst (.int .u8 34)], op0 85 .mov [.tmp 86]]) (.cond (.tmp 85) (.seq (.seq (.region true 0 [ op0 87 .mov [.tmp 0], op0 88 .mov [.tmp 1], ⟨some 89, .idxSl 1, [.tmp 88, .cst (.int .i64 1)], none, 0, [1]⟩, ⟨some 90, .load false 1, [.tmp 89], none, 0, [2, 1]⟩, op0 91 .mov [.tmp 1], ⟨some 92, .idxSl 1, [.tmp 91, .cst (.int .i64 2)], none, 0, [4]⟩, ⟨some 93, .load false 1, [.tmp 92], none, 0, [5, 4]⟩]) (.seq (.region false 0 [ ⟨some 94, .call 49, [.tmp 87, .tmp 90, .tmp 93], none, 0, [0, 3, 2, 1, 6, 5, 4]⟩]) (.region true 0 [ op0 95 (.extract 0) [.tmp 94], op0 96 (.extract 1) [.tmp 94], ⟨some 4, .mov, [.tmp 95], none, 0, [0, 1]⟩, ⟨some 5, .mov, [.tmp 96], none, 0, [1, 2, 0]⟩]))) (.cut [4, 5] (.ret))) (.seq (.region false 0 [ op0 98 (.bin .eql) [.tmp 42, .cst (.int .u8 39)], op0 97 .mov [.tmp 98]]) (.cond (.tmp 97) (.seq (.seq (.region false 0 [ op0 99 .mov [.tmp 1], op0 100 (.idxSl 1) [.tmp 99, .cst (.int .i64 1)], op0 101 (.load false 1) [.tmp 100], op0 102 (.bin .eql) [.tmp 101, .cst (.int .u8 1)]]) (.cond (.tmp 102) (.seq (.region false 0 [ op0 103 .mov [.tmp 0], op0 104 (.call 50) [.tmp 103], op0 105 (.extract 0) [.tmp 104], op0 106 (.extract 1) [.tmp 104], op0 4 .mov [.tmp 105], op0 5 .mov [.tmp 106]]) (.cut [4, 5] (.ret))) (.skip))) (.cut ir33_v3 ir33_b3)) (.skip))))))))))))))) (.cut ir33_v4 ir33_b4))
noncomputable def ir33_v1 : List Nat := [0, 1]
noncomputable def ir33_bt1 {R : Type} (o2 o3 o4 : St → (Ex → St → Option R) → Option R) : LT R := (.node (.node .nil (.node (.node .nil (.node .nil (.node .nil (.node (.node .nil (.orc o2)) (.node .nil (.node .nil (.node .nil (.node .nil (.node .nil (.node .nil (.node .nil (.node (.node .nil (.orc o3)) .nil)))))))))))) .nil)) (.orc o4))
noncomputable def ir33_t {R : Type} (o0 o1 : St → (Ex → St → Option R) → Option R) : LT R := (.node .nil (.node .nil (.node (.node (.node .nil (.node .nil (.node .nil (.orc o0)))) .nil) (.orc o1))))
noncomputable def ir33 : IFn := { ntmps := 129, results := [.inl 4, .inl 5], body := (.seq (.region false 0 [ op0 4 .mov [.cst (.nil 5 (.int .u8))], op0 5 .mov [.cst (.int .i64 0)]]) (.seq (.region false 1 [ op0 7 .mov [.tmp 1], op0 8 (.callS 43) [.tmp 7], op0 6 .mov [.tmp 8]]) (.seq (.block 0 (.seq (.region false 0 [ op0 10 .mov [.tmp 6], op0 11 (.bin .eql) [.tmp 10, .cst (.int .i64 0)], op0 9 .mov [.tmp 11]]) (.cond (.tmp 9) (.seq (.region false 0 [ op0 4 .mov [.cst (.nil 5 (.int .u8))], op0 5 .mov [.cst (.int .i64 17)]]) (.cut [4, 5] (.ret))) (.seq (.region false 0 [ op0 13 .mov [.tmp 1], op0 14 (.idxSl 1) [.tmp 13, .cst (.int .i64 0)], op0 15 (.load false 1) [.tmp 14], op0 16 (.bin .eql) [.tmp 15, .cst (.int .u8 20)], op0 17 .mov [.tmp 16], ⟨some 18, .mov, [.tmp 1], some (17, false), 0, []⟩, ⟨some 19, .idxSl 1, [.tmp 18, .cst (.int .i64 0)], some (17, false), 0, []⟩, ⟨some 20, .load false 1, [.tmp 19], some (17, false), 0, []⟩, ⟨some 21, .bin .eql, [.tmp 20, .cst (.int .u8 39)], some (17, false), 0, []⟩, op0 22 .pick [.tmp 17, .cst (.bool true), .tmp 21], op0 23 .mov [.tmp 22], ⟨some 24, .mov, [.tmp 0], some (23, true), 0, []⟩, ⟨some 25, .nilck, [.tmp 24], some (23, true), 0, []⟩, ⟨some 26, .fieldAddr 0 0, [.tmp 25], some (23, true), 0, []⟩, ⟨some 27, .fieldAddr 0 0, [.tmp 26], some (23, true), 0, []⟩, ⟨some 28, .load false 1, [.tmp 27], some (23, true), 0, []⟩, ⟨some 29, .bin .eql, [.tmp 28, .cst (.int .i64 1)], some (23, true), 0, []⟩, op0 30 .pick [.tmp 23, .tmp 29, .cst (.bool false)], op0 12 .mov [.tmp 30]]) (.cut ir33_v0 ir33_b0))))) (.cut ir33_v1 ir33_b1)))) }
theorem ir33_bt1ok {R : Type} {summ : Nat → Option Summ} {fu : Nat} {call : Nat → List CV → List Blk → (CV → List Blk → Option R) → Option R} {o2 o3 o4 : St → (Ex → St → Option R) → Option R} (h2 : ∀ T k r, o2 T k = some r → evCode summ fu call ir33_b2 T k = some r) (h3 : ∀ T k r, o3 T k = some r → evCode summ fu call ir33_b3 T k = some r) (h4 : ∀ T k r, o4 T k = some r → evCode summ fu call ir33_b4 T k = some r) : LTok summ fu call (ir33_bt1 o2 o3 o4) ir33_b1 := ⟨⟨trivial, ⟨trivial, ⟨trivial, ⟨trivial, ⟨⟨trivial, h2⟩, ⟨trivial, ⟨trivial, ⟨trivial, ⟨trivial, ⟨trivial, ⟨trivial, ⟨trivial, ⟨⟨trivial, h3⟩, trivial⟩⟩⟩⟩⟩⟩⟩⟩⟩⟩⟩⟩⟩, h4⟩
theorem ir33_tok {R : Type} {summ : Nat → Option Summ} {fu : Nat} {call : Nat → List CV → List Blk → (CV → List Blk → Option R) → Option R} {o0 o1 : St → (Ex → St → Option R) → Option R} (h0 : ∀ T k r, o0 T k = some r → evCode summ fu call ir33_b0 T k = some r) (h1 : ∀ T k r, o1 T k = some r → evCode summ fu call ir33_b1 T k = some r) : LTok summ fu call (ir33_t o0 o1) ir33.body := ⟨trivial, ⟨trivial, ⟨⟨trivial, ⟨trivial, ⟨trivial, h0⟩⟩⟩, h1⟩⟩⟩


noncomputable def ir34 : IFn := { ntmps := 52, results := [.inl 4], body := (.seq (.region false 2 [ op0 2 (.box 60) [.tmp 0], op0 3 (.box 60) [.tmp 1], op0 4 .mov [.cst (.bool false)]]) (.seq (.region false 1 [ op0 5 (.fieldAddr 0 0) [.tmp 2], op0 6 (.load false 1) [.tmp 5], op0 7 (.fieldAddr 0 0) [.tmp 3], op0 8 (.load false 1) [.tmp 7], op0 9 (.bin .eql) [.tmp 6, .tmp 8], op0 10 .mov [.tmp 9], ⟨some 11, .fieldAddr 1 1, [.tmp 2], some (10, true), 0, []⟩, ⟨some 12, .load false 1, [.tmp 11], some (10, true), 0, []⟩, ⟨some 13, .fieldAddr 1 1, [.tmp 3], some (10, true), 0, []⟩, ⟨some 14, .load false 1, [.tmp 13], some (10, true), 0, []⟩, ⟨some 15, .bin .eql, [.tmp 12, .tmp 14], some (10, true), 0, []⟩, op0 16 .pick [.tmp 10, .tmp 15, .cst (.bool false)], op0 17 .mov [.tmp 16], ⟨some 18, .fieldAddr 2 2, [.tmp 2], some (17, true), 0, []⟩, ⟨some 19, .load false 1, [.tmp 18], some (17, true), 0, []⟩, ⟨some 20, .fieldAddr 2 2, [.tmp 3], some (17, true), 0, []⟩, ⟨some 21, .load false 1, [.tmp 20], some (17, true), 0, []⟩, ⟨some 22, .bin .eql, [.tmp 19, .tmp 21], some (17, true), 0, []⟩, op0 23 .pick [.tmp 17, .tmp 22, .cst (.bool false)], op0 24 .mov [.tmp 23], ⟨some 25, .fieldAddr 3 3, [.tmp 2], some (24, true), 0, []⟩, ⟨some 26, .load false 1, [.tmp 25], some (24, true), 0, []⟩, ⟨some 27, .fieldAddr 3 3, [.tmp 3], some (24, true), 0, []⟩, ⟨some 28, .load false 1, [.tmp 27], some (24, true), 0, []⟩, ⟨some 29, .bin .eql, [.tmp 26, .tmp 28], some (24, true), 0, []⟩, op0 30 .pick [.tmp 24, .tmp 29, .cst (.bool false)], op0 31 .mov [.tmp 30], ⟨some 32, .fieldAddr 4 4, [.tmp 2], some (31, true), 0, []⟩, ⟨some 33, .load false 1, [.tmp 32], some (31, true), 0, []⟩, ⟨some 34, .fieldAddr 4 4, [.tmp 3], some (31, true), 0, []⟩, ⟨some 35, .load false 1, [.tmp 34], some (31, true), 0, []⟩, ⟨some 36, .bin .eql, [.tmp 33, .tmp 35], some (31, true), 0, []⟩, op0 37 .pick [.tmp 31, .tmp 36, .cst (.bool false)], op0 38 .mov [.tmp 37], ⟨some 39, .fieldAddr 6 6, [.tmp 2], some (38, true), 0, []⟩, ⟨some 40, .load false 1, [.tmp 39], some (38, true), 0, []⟩, ⟨some 41, .fieldAddr 6 6, [.tmp 3], some (38, true), 0, []⟩, ⟨some 42, .load false 1, [.tmp 41], some (38, true), 0, []⟩, ⟨some 43, .bin .eql, [.tmp 40, .tmp 42], some (38, true), 0, []⟩, op0 44 .pick [.tmp 38, .tmp 43, .cst (.bool false)], op0 45 .mov [.tmp 44], ⟨some 46, .fieldAddr 5 5, [.tmp 2], some (45, true), 0, []⟩, ⟨some 47, .load false 1, [.tmp 46], some (45, true), 0, []⟩, ⟨some 48, .fieldAddr 5 5, [.tmp 3], some (45, true), 0, []⟩, ⟨some 49, .load false 1, [.tmp 48], some (45, true), 0, []⟩, ⟨some 50, .callS 52, [.tmp 47, .tmp 49], some (45, true), 0, []⟩, op0 51 .pick [.tmp 45, .tmp 50, .cst (.bool false)], op0 4 .mov [.tmp 51]]) (.cut [4] (.ret)))) }


noncomputable def ir35_b0 : IC := (.seq (.region false 0 [ op0 9 (.bin .lss) [.tmp 8, .tmp 7]]) (.seq (.cond (.tmp 9) (.skip) (.cut [] (.exit 0))) (.seq (.block 1 (.seq (.region false 0 [ op0 10 .mov [.tmp 8], op0 5 .mov [.tmp 10]]) (.seq (.region false 0 [ op0 11 .mov [.tmp 1], op0 12 .mov [.tmp 0], op0 13 .mov [.tmp 5], op0 14 (.idxSl 8) [.tmp 12, .tmp 13], op0 15 (.load true 8) [.tmp 14], op0 16 .callv [.tmp 11, .tmp 15]]) (.cond (.tmp 16) (.seq (.region false 0 [ op0 17 .mov [.tmp 5], op0 4 .mov [.tmp 17]]) (.cut [4] (.ret))) (.skip))))) (.region false 0 [ op0 18 (.bin .add) [.tmp 8, .cst (.int .i64 1)], op0 8 .mov [.tmp 18]]))))
noncomputable def ir35_v0 : List Nat := [0, 1, 7, 8]
noncomputable def ir35_t {R : Type} (o0 : St → (Ex → St → Option R) → Option R) : LT R := (.node .nil (.node (.node .nil (.node (.orc o0) .nil)) .nil))
noncomputable def ir35 : IFn := { ntmps := 19, results := [.inl 4], body := (.seq (.region false 0 [ op0 4 .mov [.cst (.int .i64 0)]]) (.seq (.seq (.region false 0 [ op0 6 .mov [.tmp 0], op0 7 .len [.tmp 6], op0 8 .mov [.cst (.int .i64 0)]]) (.block 0 (.loop ir35_v0 ir35_b0))) (.seq (.region false 0 [ op0 4 .mov [.cst (.int .i64 (-1))]]) (.cut [4] (.ret))))) }
theorem ir35_tok {R : Type} {summ : Nat → Option Summ} {fu : Nat} {call : Nat → List CV → List Blk → (CV → List Blk → Option R) → Option R} {o0 : St → (Ex → St → Option R) → Option R} (h0 : ∀ T k r, o0 T k = some r → evLoopN (evCode summ fu call ir35_b0) (St.norm ir35_v0) fu T k = some r) : LTok summ fu call (ir35_t o0) ir35.body := ⟨trivial, ⟨⟨trivial, h0⟩, trivial⟩⟩


noncomputable def ir37_b0 : IC := (.seq (.region false 0 [ op0 9 (.bin .lss) [.tmp 8, .tmp 7]]) (.seq (.cond (.tmp 9) (.skip) (.cut [] (.exit 0))) (.seq (.block 1 (.seq (.region false 0 [ op0 10 .mov [.tmp 8], op0 5 .mov [.tmp 10]]) (.seq (.region false 0 [ op0 11 .mov [.tmp 1], op0 12 .mov [.tmp 0], op0 13 .mov [.tmp 5], op0 14 (.idxSl 7) [.tmp 12, .tmp 13], op0 15 (.load true 7) [.tmp 14], op0 16 .callv [.tmp 11, .tmp 15]]) (.cond (.tmp 16) (.seq (.region false 0 [ op0 17 .mov [.tmp 5], op0 4 .mov [.tmp 17]]) (.cut [4] (.ret))) (.skip))))) (.region false 0 [ op0 18 (.bin .add) [.tmp 8, .cst (.int .i64 1)], op0 8 .mov [.tmp 18]]))))
noncomputable def ir37_v0 : List Nat := [0, 1, 7, 8]
noncomputable def ir37_t {R : Type} (o0 : St → (Ex → St → Option R) → Option R) : LT R := (.node .nil (.node (.node .nil (.node (.orc o0) .nil)) .nil))
noncomputable def ir37 : IFn := { ntmps := 19, results := [.inl 4], body := (.seq (.region false 0 [ op0 4 .mov [.cst (.int .i64 0)]]) (.seq (.seq (.region false 0 [ op0 6 .mov [.tmp 0], op0 7 .len [.tmp 6], op0 8 .mov [.cst (.int .i64 0)]]) (.block 0 (.loop ir37_v0 ir37_b0))) (.seq (.region false 0 [ op0 4 .mov [.cst (.int .i64 (-1))]]) (.cut [4] (.ret))))) }
theorem ir37_tok {R : Type} {summ : Nat → Option Summ} {fu : Nat} {call : Nat → List CV → List Blk → (CV → List Blk → Option R) → Option R} {o0 : St → (Ex → St → Option R) → Option R} (h0 : ∀ T k r, o0 T k = some r → evLoopN (evCode summ fu call ir37_b0) (St.norm ir37_v0) fu T k = some r) : LTok summ fu call (ir37_t o0) ir37.body := ⟨trivial, ⟨⟨trivial, h0⟩, trivial⟩⟩


noncomputable def ir38 : IFn := { ntmps := 38, results := [.inl 2], body := (.seq (.region false 1 [ op0 1 (.box 58) [.tmp 0], op0 2 .mov [.cst (.bool false)]]) (.seq (.region false 7 [ op0 3 (.fieldAddr 0 0) [.tmp 1], op0 4 (.load false 1) [.tmp 3], op0 5 (.callS 27) [.tmp 4, .cst (.int .i64 1), .cst (.int .i64 16777215)], op0 6 .mov [.tmp 5], ⟨some 7, .fieldAddr 1 1, [.tmp 1], some (6, true), 0, []⟩, ⟨some 8, .load false 1, [.tmp 7], some (6, true), 0, []⟩, ⟨some 9, .callS 27, [.tmp 8, .cst (.int .i64 1), .cst (.int .i64 100)], some (6, true), 0, []⟩, op0 10 .pick [.tmp 6, .tmp 9, .cst (.bool false)], op0 11 .mov [.tmp 10], ⟨some 12, .fieldAddr 2 2, [.tmp 1], some (11, true), 0, []⟩, ⟨some 13, .load false 1, [.tmp 12], some (11, true), 0, []⟩, ⟨some 14, .callS 27, [.tmp 13, .cst (.int .i64 1), .cst (.int .i64 100)], some (11, true), 0, []⟩, op0 15 .pick [.tmp 11, .tmp 14, .cst (.bool false)], op0 16 .mov [.tmp 15], ⟨some 17, .fieldAddr 3 3, [.tmp 1], some (16, true), 0, []⟩, ⟨some 18, .load false 1, [.tmp 17], some (16, true), 0, []⟩, ⟨some 19, .callS 27, [.tmp 18, .cst (.int .i64 1), .cst (.int .i64 100)], some (16, true), 0, []⟩, op0 20 .pick [.tmp 16, .tmp 19, .cst (.bool false)], op0 21 .mov [.tmp 20], ⟨some 22, .fieldAddr 4 4, [.tmp 1], some (21, true), 0, []⟩, ⟨some 23, .load false 1, [.tmp 22], some (21, true), 0, []⟩, ⟨some 24, .fieldAddr 3 3, [.tmp 1], some (21, true), 0, []⟩, ⟨some 25, .load false 1, [.tmp 24], some (21, true), 0, []⟩, ⟨some 26, .callS 27, [.tmp 23, .tmp 25, .cst (.int .i64 255)], some (21, true), 0, []⟩, op0 27 .pick [.tmp 21, .tmp 26, .cst (.bool false)], op0 28 .mov [.tmp 27], ⟨some 29, .fieldAddr 5 5, [.tmp 1], some (28, true), 0, []⟩, ⟨some 30, .load false 1, [.tmp 29], some (28, true), 0, []⟩, ⟨some 31, .callS 27, [.tmp 30, .cst (.int .i64 0), .cst (.int .i64 255)], some (28, true), 0, []⟩, op0 32 .pick [.tmp 28, .tmp 31, .cst (.bool false)], op0 33 .mov [.tmp 32], ⟨some 34, .fieldAddr 7 7, [.tmp 1], some (33, true), 0, []⟩, ⟨some 35, .load false 1, [.tmp 34], some (33, true), 0, []⟩, ⟨some 36, .callS 27, [.tmp 35, .cst (.int .i64 0), .cst (.int .i64 8)], some (33, true), 0, []⟩, op0 37 .pick [.tmp 33, .tmp 36, .cst (.bool false)], op0 2 .mov [.tmp 37]]) (.cut [2] (.ret)))) }


noncomputable def ir39 : IFn := { ntmps := 15, results := [.inl 4], body := (.seq (.region false 1 [ op0 2 (.box 58) [.tmp 0], op0 4 .mov [.cst (.bool false)]]) (.seq (.region false 0 [ op0 5 .mov [.tmp 1], op0 6 .len [.tmp 5], op0 7 (.fieldAddr 7 7) [.tmp 2], op0 8 (.load false 1) [.tmp 7], op0 9 (.bin .eql) [.tmp 6, .tmp 8], op0 10 .mov [.tmp 9], ⟨some 11, .mov, [.tmp 1], some (10, true), 0, []⟩, ⟨some 12, .call 53, [.tmp 11, .cst (.clo 54 (.pure .unit ()))], some (10, true), 0, []⟩, ⟨some 13, .not, [.tmp 12], some (10, true), 0, []⟩, op0 14 .pick [.tmp 10, .tmp 13, .cst (.bool false)], op0 4 .mov [.tmp 14]]) (.cut [4] (.ret)))) }


noncomputable def ir40 : IFn := { ntmps := 11, results := [.inl 4], body := (.seq (.region false 1 [ op0 2 (.box 60) [.tmp 0], op0 4 .mov [.cst (.bool false)]]) (.seq (.region false 0 [ op0 5 (.fieldAddr 0 0) [.tmp 2], op0 6 (.load false 1) [.tmp 5], op0 7 .mov [.tmp 1], op0 8 (.bin .and) [.tmp 6, .tmp 7], op0 9 .mov [.tmp 1], op0 10 (.bin .eql) [.tmp 8, .tmp 9], op0 4 .mov [.tmp 10]]) (.cut [4] (.ret)))) }


noncomputable def ir41 : IFn := { ntmps := 7, results := [.inl 2], body := (.seq (.region false 1 [ op0 1 (.box 60) [.tmp 0], op0 2 .mov [.cst (.bool false)]]) (.seq (.region false 0 [ op0 3 (.fieldAddr 0 0) [.tmp 1], op0 4 (.load false 1) [.tmp 3], op0 5 (.bin .and) [.tmp 4, .cst (.int .i64 6)], op0 6 (.bin .neq) [.tmp 5, .cst (.int .i64 0)], op0 2 .mov [.tmp 6]]) (.cut [2] (.ret)))) }


noncomputable def ir42_b0 : IC := (.seq (.region false 0 [ op0 9 (.bin .lss) [.tmp 8, .tmp 7]]) (.seq (.cond (.tmp 9) (.skip) (.cut [] (.exit 0))) (.seq (.block 1 (.seq (.region false 0 [ op0 10 .mov [.tmp 8], op0 5 .mov [.tmp 10]]) (.seq (.region false 0 [ op0 11 .mov [.tmp 1], op0 12 .mov [.tmp 0], op0 13 .mov [.tmp 5], op0 14 (.idxSl 2) [.tmp 12, .tmp 13], op0 15 (.load true 2) [.tmp 14], op0 16 .callv [.tmp 11, .tmp 15]]) (.cond (.tmp 16) (.seq (.region false 0 [ op0 17 .mov [.tmp 5], op0 4 .mov [.tmp 17]]) (.cut [4] (.ret))) (.skip))))) (.region false 0 [ op0 18 (.bin .add) [.tmp 8, .cst (.int .i64 1)], op0 8 .mov [.tmp 18]]))))
noncomputable def ir42_v0 : List Nat := [0, 1, 7, 8]
noncomputable def ir42_t {R : Type} (o0 : St → (Ex → St → Option R) → Option R) : LT R := (.node .nil (.node (.node .nil (.node (.orc o0) .nil)) .nil))
noncomputable def ir42 : IFn := { ntmps := 19, results := [.inl 4], body := (.seq (.region false 0 [ op0 4 .mov [.cst (.int .i64 0)]]) (.seq (.seq (.region false 0 [ op0 6 .mov [.tmp 0], op0 7 .len [.tmp 6], op0 8 .mov [.cst (.int .i64 0)]]) (.block 0 (.loop ir42_v0 ir42_b0))) (.seq (.region false 0 [ op0 4 .mov [.cst (.int .i64 (-1))]]) (.cut [4] (.ret))))) }
theorem ir42_tok {R : Type} {summ : Nat → Option Summ} {fu : Nat} {call : Nat → List CV → List Blk → (CV → List Blk → Option R) → Option R} {o0 : St → (Ex → St → Option R) → Option R} (h0 : ∀ T k r, o0 T k = some r → evLoopN (evCode summ fu call ir42_b0) (St.norm ir42_v0) fu T k = some r) : LTok summ fu call (ir42_t o0) ir42.body := ⟨trivial, ⟨⟨trivial, h0⟩, trivial⟩⟩


noncomputable def ir43 : IFn := { ntmps := 26, results := [.inl 2], body := (.seq (.region false 0 [ op0 2 .mov [.cst (.int .i64 0)]]) (.seq (.seq (.region false 0 [ op0 3 .mov [.tmp 0], op0 4 (.idxSl 1) [.tmp 3, .cst (.int .i64 0)], op0 5 (.load false 1) [.tmp 4]]) (.block 0 (.seq (.seq (.region false 0 [ op0 7 (.bin .eql) [.tmp 5, .cst (.int .u8 16)], op0 6 .mov [.tmp 7]]) (.cond (.tmp 6) (.skip) (.seq (.region false 0 [ op0 8 (.bin .eql) [.tmp 5, .cst (.int .u8 17)], op0 6 .mov [.tmp 8]]) (.cond (.tmp 6) (.skip) (.region false 0 [ op0 9 (.bin .eql) [.tmp 5, .cst (.int .u8 62)], op0 6 .mov [.tmp 9]]))))) (.cond (.tmp 6) (.seq (.region false 0 [ op0 2 .mov [.cst (.int .i64 2)]]) (.cut [2] (.ret))) (.seq (.region false 0 [ op0 11 (.bin .eql) [.tmp 5, .cst (.int .u8 20)], op0 10 .mov [.tmp 11]]) (.cond (.tmp 10) (.seq (.region false 0 [ op0 2 .mov [.cst (.int .i64 4)]]) (.cut [2] (.ret))) (.seq (.seq (.region false 0 [ op0 13 (.bin .eql) [.tmp 5, .cst (.int .u8 25)], op0 12 .mov [.tmp 13]]) (.cond (.tmp 12) (.skip) (.region false 0 [ op0 14 (.bin .eql) [.tmp 5, .cst (.int .u8 34)], op0 12 .mov [.tmp 14]]))) (.cond (.tmp 12) (.seq (.region false 0 [ op0 2 .mov [.cst (.int .i64 3)]]) (.cut [2] (.ret))) (.seq (.region false 0 [ op0 16 (.bin .eql) [.tmp 5, .cst (.int .u8 39)], op0 15 .mov [.tmp 16]]) (.cond (.tmp 15) (.seq (.seq (.region false 0 [ op0 17 .mov [.tmp 0], op0 18 .len [.tmp 17], op0 19 (.bin .gtr) [.tmp 18, .cst (.int .i64 1)], op0 20 .mov [.tmp 19], ⟨some 21, .mov, [.tmp 0], some (20, true), 0, []⟩, ⟨some 22, .idxSl 1, [.tmp 21, .cst (.int .i64 1)], some (20, true), 0, []⟩, ⟨some 23, .load false 1, [.tmp 22], some (20, true), 0, []⟩, ⟨some 24, .bin .eql, [.tmp 23, .cst (.int .u8 2)], some (20, true), 0, []⟩, op0 25 .pick [.tmp 20, .tmp 24, .cst (.bool false)]]) (.cond (.tmp 25) (.seq (.region false 0 [ op0 2 .mov [.cst (.int .i64 4)]]) (.cut [2] (.ret))) (.skip))) (.seq (.region false 0 [ op0 2 .mov [.cst (.int .i64 2)]]) (.cut [2] (.ret)))) (.skip))))))))))) (.seq (.region false 0 [ op0 2 .mov [.cst (.int .i64 0)]]) (.cut [2] (.ret))))) }


noncomputable def ir44 : IFn := { ntmps := 54, results := [.inl 2], body := (.seq (.region false 0 [ op0 2 .mov [.cst (.bool false)]]) (.seq (.seq (.region false 0 [ op0 3 .mov [.tmp 0], op0 4 (.idxSl 1) [.tmp 3, .cst (.int .i64 0)], op0 5 (.load false 1) [.tmp 4]]) (.block 0 (.seq (.region false 0 [ op0 7 (.bin .eql) [.tmp 5, .cst (.int .u8 16)], op0 6 .mov [.tmp 7]]) (.cond (.tmp 6) (.seq (.region false 0 [ op0 8 .mov [.tmp 0], op0 9 (.idxSl 1) [.tmp 8, .cst (.int .i64 1)], op0 10 (.load false 1) [.tmp 9], op0 11 (.bin .geq) [.tmp 10, .cst (.int .u8 1)], op0 12 .mov [.tmp 11], ⟨some 13, .mov, [.tmp 0], some (12, true), 0, []⟩, ⟨some 14, .idxSl 1, [.tmp 13, .cst (.int .i64 1)], some (12, true), 0, []⟩, ⟨some 15, .load false 1, [.tmp 14], some (12, true), 0, []⟩, ⟨some 16, .bin .leq, [.tmp 15, .cst (.int .u8 3)], some (12, true), 0, []⟩, op0 17 .pick [.tmp 12, .tmp 16, .cst (.bool false)], op0 2 .mov [.tmp 17]]) (.cut [2] (.ret))) (.seq (.region false 0 [ op0 19 (.bin .eql) [.tmp 5, .cst (.int .u8 17)], op0 18 .mov [.tmp 19]]) (.cond (.tmp 18) (.seq (.region false 0 [ op0 20 .mov [.tmp 0], op0 21 (.idxSl 1) [.tmp 20, .cst (.int .i64 1)], op0 22 (.load false 1) [.tmp 21], op0 23 (.bin .eql) [.tmp 22, .cst (.int .u8 1)], op0 2 .mov [.tmp 23]]) (.cut [2] (.ret))) (.seq (.region false 0 [ op0 25 (.bin .eql) [.tmp 5, .cst (.int .u8 25)], op0 24 .mov [.tmp 25]]) (.cond (.tmp 24) (.seq (.region false 0 [ op0 26 .mov [.tmp 0], op0 27 (.idxSl 1) [.tmp 26, .cst (.int .i64 1)], op0 28 (.load false 1) [.tmp 27], op0 29 (.bin .eql) [.tmp 28, .cst (.int .u8 2)], op0 2 .mov [.tmp 29]]) (.cut [2] (.ret))) (.seq (.region false 0 [ op0 31 (.bin .eql) [.tmp 5, .cst (.int .u8 39)], op0 30 .mov [.tmp 31]]) (.cond (.tmp 30) (.seq (.region false 0 [ op0 32 .mov [.tmp 0], op0 33 (.idxSl 1) [.tmp 32, .cst (.int .i64 1)], op0 34 (.load false 1) [.tmp 33], op0 35 (.bin .eql) [.tmp 34, .cst (.int .u8 1)], op0 36 .mov [.tmp 35], ⟨some 37, .mov, [.tmp 0], some (36, false), 0, []⟩, ⟨some 38, .idxSl 1, [.tmp 37, .cst (.int .i64 1)], some (36, false), 0, []⟩, ⟨some 39, .load false 1, [.tmp 38], some (36, false), 0, []⟩, ⟨some 40, .bin .eql, [.tmp 39, .cst (.int .u8 2)], some (36, false), 0, []⟩, op0 41 .pick [.tmp 36, .cst (.bool true), .tmp 40], op0 2 .mov [.tmp 41]]) (.cut [2] (.ret))) (.seq (.region false 0 [ op0 43 (.bin .eql) [.tmp 5, .cst (.int .u8 62)], op0 42 .mov [.tmp 43]]) (.cond (.tmp 42) (.seq (.region false 0 [ op0 44 .mov [.tmp 0], op0 45 (.idxSl 1) [.tmp 44, .cst (.int .i64 1)], op0 46 (.load false 1) [.tmp 45], op0 47 (.bin .eql) [.tmp 46, .cst (.int .u8 0)], op0 48 .mov [.tmp 47], ⟨some 49, .mov, [.tmp 0], some (48, false), 0, []⟩, ⟨some 50, .idxSl 1, [.tmp 49, .cst (.int .i64 1)], some (48, false), 0, []⟩, ⟨some 51, .load false 1, [.tmp 50], some (48, false), 0, []⟩, ⟨some 52, .bin .eql, [.tmp 51, .cst (.int .u8 128)], some (48, false), 0, []⟩, op0 53 .pick [.tmp 48, .cst (.bool true), .tmp 52], op0 2 .mov [.tmp 53]]) (.cut [2] (.ret))) (.skip))))))))))))) (.seq (.region false 0 [ op0 2 .mov [.cst (.bool true)]]) (.cut [2] (.ret))))) }


noncomputable def ir45_b0 : IC := (.seq (.region false 1 [ op0 16 .mov [.tmp 0], op0 17 .mov [.tmp 0], op0 18 .nilck [.tmp 17], op0 19 (.fieldAddr 0 0) [.tmp 18], op0 20 (.load true 6) [.tmp 19], op0 21 .mov [.tmp 1], op0 22 (.callS 32) [.tmp 20, .tmp 21], op0 23 .nilck [.tmp 16], op0 24 (.fieldAddr 0 0) [.tmp 23], ⟨none, .store 6, [.tmp 24, .tmp 22], none, 0, []⟩]) (.seq (.region false 2 [ op0 25 .mov [.tmp 1], op0 26 (.conv .u8) [.tmp 25], ⟨some 27, .buildSl 5 (.int .u8) 2, [.cst (.int .u8 80), .tmp 26], none, 0, []⟩, op0 28 (.callS 46) [.tmp 27], op0 29 (.extract 0) [.tmp 28], op0 30 (.extract 1) [.tmp 28], op0 4 .mov [.tmp 29], op0 5 .mov [.tmp 30]]) (.cut [4, 5] (.ret))))
noncomputable def ir45_v0 : List Nat := [0, 1]
noncomputable def ir45_t {R : Type} (o0 : St → (Ex → St → Option R) → Option R) : LT R := (.node .nil (.node .nil (.orc o0)))
noncomputable def ir45 : IFn := { ntmps := 31, results := [.inl 4, .inl 5], body := (.seq (.region false 0 [ op0 4 .mov [.cst (.nil 5 (.int .u8))], op0 5 .mov [.cst (.int .i64 0)]]) (.seq (.seq (.region false 0 [ op0 6 .mov [.tmp 1], op0 7 (.bin .eql) [.tmp 6, .cst (.int .i64 2)], op0 8 .mov [.tmp 7], ⟨some 9, .mov, [.tmp 0], some (8, true), 0, []⟩, ⟨some 10, .nilck, [.tmp 9], some (8, true), 0, []⟩, ⟨some 11, .fieldAddr 0 0, [.tmp 10], some (8, true), 0, []⟩, ⟨some 12, .fieldAddr 0 0, [.tmp 11], some (8, true), 0, []⟩, ⟨some 13, .load false 1, [.tmp 12], some (8, true), 0, []⟩, ⟨some 14, .bin .eql, [.tmp 13, .cst (.int .i64 1)], some (8, true), 0, []⟩, op0 15 .pick [.tmp 8, .tmp 14, .cst (.bool false)]]) (.cond (.tmp 15) (.seq (.region false 0 [ op0 4 .mov [.cst (.nil 5 (.int .u8))], op0 5 .mov [.cst (.int .i64 34)]]) (.cut [4, 5] (.ret))) (.skip))) (.cut ir45_v0 ir45_b0))) }
theorem ir45_tok {R : Type} {summ : Nat → Option Summ} {fu : Nat} {call : Nat → List CV → List Blk → (CV → List Blk → Option R) → Option R} {o0 : St → (Ex → St → Option R) → Option R} (h0 : ∀ T k r, o0 T k = some r → evCode summ fu call ir45_b0 T k = some r) : LTok summ fu call (ir45_t o0) ir45.body := ⟨trivial, ⟨trivial, h0⟩⟩


noncomputable def ir46 : IFn := { ntmps := 5, results := [.inl 2, .inl 3], body := (.seq (.region false 0 [ op0 2 .mov [.cst (.nil 5 (.int .u8))], op0 3 .mov [.cst (.int .i64 0)]]) (.seq (.region false 0 [ op0 4 .mov [.tmp 0], op0 2 .mov [.tmp 4], op0 3 .mov [.cst (.int .i64 0)]]) (.cut [2, 3] (.ret)))) }


noncomputable def ir47_b0 : IC := (.seq (.region false 0 [ op0 13 (.bin .lss) [.tmp 12, .tmp 11]]) (.seq (.cond (.tmp 13) (.skip) (.cut [0] (.exit 0))) (.seq (.block 1 (.seq (.region false 0 [ op0 14 (.idxSl 1) [.tmp 10, .tmp 12], op0 15 (.load false 1) [.tmp 14], op0 7 .mov [.tmp 15]]) (.seq (.region false 0 [ op0 16 .mov [.tmp 7], op0 17 (.bin .neq) [.tmp 16, .cst (.int .u8 255)]]) (.cond (.tmp 17) (.seq (.region false 0 [ op0 4 .mov [.cst (.nil 5 (.int .u8))], op0 5 .mov [.cst (.int .i64 49)]]) (.cut [4, 5] (.ret))) (.skip))))) (.region false 0 [ op0 18 (.bin .add) [.tmp 12, .cst (.int .i64 1)], op0 12 .mov [.tmp 18]]))))
noncomputable def ir47_v0 : List Nat := [0, 10, 11, 12]
noncomputable def ir47_t {R : Type} (o0 : St → (Ex → St → Option R) → Option R) : LT R := (.node .nil (.node (.node .nil (.node (.orc o0) .nil)) .nil))
noncomputable def ir47 : IFn := { ntmps := 37, results := [.inl 4, .inl 5], body := (.seq (.region false 0 [ op0 4 .mov [.cst (.nil 5 (.int .u8))], op0 5 .mov [.cst (.int .i64 0)]]) (.seq (.seq (.region false 0 [ op0 10 .mov [.tmp 1], op0 11 .len [.tmp 10], op0 12 .mov [.cst (.int .i64 0)]]) (.block 0 (.loop ir47_v0 ir47_b0))) (.seq (.seq (.region false 2 [ op0 20 .mov [.tmp 0], op0 21 .nilck [.tmp 20], op0 22 (.fieldAddr 1 6) [.tmp 21], op0 23 (.load true 4) [.tmp 22], op0 24 (.callS 16) [.tmp 23], op0 19 .mov [.tmp 24], op0 25 (.extract 0) [.tmp 19], op0 26 (.extract 1) [.tmp 19], ⟨some 8, .alloc 25 (.pair (.nil 58 Zi0) (.pair (.nil 60 Zi1) (.pure Zi3 (0, (false, ()))))), [], none, 0, []⟩, ⟨none, .store 4, [.tmp 8, .tmp 25], none, 0, []⟩, op0 9 .mov [.tmp 26]]) (.seq (.region false 0 [ op0 27 .mov [.tmp 9], op0 28 (.bin .eql) [.tmp 27, .cst (.int .i64 0)]]) (.cond (.tmp 28) (.region false 0 [ op0 29 .mov [.tmp 0], op0 30 (.load true 4) [.tmp 8], op0 31 .nilck [.tmp 29], op0 32 (.fieldAddr 1 6) [.tmp 31], ⟨none, .store 4, [.tmp 32, .tmp 30], none, 0, []⟩]) (.skip)))) (.seq (.region false 2 [ ⟨some 33, .buildSl 5 (.int .u8) 1, [.cst (.int .u8 84)], none, 0, []⟩, op0 34 (.callS 46) [.tmp 33], op0 35 (.extract 0) [.tmp 34], op0 36 (.extract 1) [.tmp 34], op0 4 .mov [.tmp 35], op0 5 .mov [.tmp 36]]) (.cut [4, 5] (.ret)))))) }
theorem ir47_tok {R : Type} {summ : Nat → Option Summ} {fu : Nat} {call : Nat → List CV → List Blk → (CV → List Blk → Option R) → Option R} {o0 : St → (Ex → St → Option R) → Option R} (h0 : ∀ T k r, o0 T k = some r → evLoopN (evCode summ fu call ir47_b0) (St.norm ir47_v0) fu T k = some r) : LTok summ fu call (ir47_t o0) ir47.body := ⟨trivial, ⟨⟨trivial, h0⟩, trivial⟩⟩


noncomputable def ir48_b0 : IC := (.seq (.region false 0 [ op0 17 (.bin .lss) [.tmp 16, .tmp 15]]) (.seq (.cond (.tmp 17) (.skip) (.cut [6] (.exit 0))) (.seq (.block 1 (.seq (.region false 1 [ op0 18 .mov [.tmp 16], op0 19 (.idxSl 7) [.tmp 14, .tmp 16], op0 20 (.load true 7) [.tmp 19], ⟨some 8, .alloc 60 (.pair (.int .i64 0) (.pair (.int .i64 0) (.pair (.int .i64 0) (.pair (.int .i64 0) (.pair (.int .i64 0) (.pair (.nil 3 (.int .i64)) (.pure (.pair (.int .i64) .unit) (0, ())))))))), [], none, 0, []⟩, op0 7 .mov [.tmp 18], ⟨none, .store 7, [.tmp 8, .tmp 20], none, 0, []⟩]) (.seq (.region false 0 [ op0 21 (.fieldAddr 0 0) [.tmp 8], op0 22 (.load false 1) [.tmp 21], op0 23 .mov [.tmp 1], op0 24 (.bin .and) [.tmp 22, .tmp 23], op0 25 (.bin .neq) [.tmp 24, .cst (.int .i64 0)]]) (.cond (.tmp 25) (.region true 4 [ op0 26 .mov [.tmp 6], op0 27 .mov [.tmp 0], ⟨some 28, .nilck, [.tmp 27], none, 0, [1]⟩, ⟨some 29, .fieldAddr 1 6, [.tmp 28], none, 0, [2, 1]⟩, ⟨some 30, .fieldAddr 0 0, [.tmp 29], none, 0, [3, 2, 1]⟩, ⟨some 31, .load false 1, [.tmp 30], none, 0, [4, 3, 2, 1]⟩, op0 32 .mov [.tmp 7], ⟨some 33, .idxSl 8, [.tmp 31, .tmp 32], none, 0, [5, 4, 3, 2, 1, 6]⟩, ⟨some 34, .fieldAddr 0 0, [.tmp 33], none, 0, [7, 5, 4, 3, 2, 1, 6]⟩, ⟨some 35, .load false 1, [.tmp 34], none, 0, [8, 7, 5, 4, 3, 2, 1, 6]⟩, ⟨some 36, .callS 56, [.tmp 35, .cst (.int .i64 3)], none, 0, [9, 8, 7, 5, 4, 3, 2, 1, 6]⟩, ⟨some 37, .append 5 (.int .u8) 1, [.tmp 26, .tmp 36], none, 1, [0, 10, 9, 8, 7, 5, 4, 3, 2, 1, 6]⟩, ⟨some 38, .fieldAddr 0 0, [.tmp 8], none, 2, []⟩, ⟨some 39, .load false 1, [.tmp 38], none, 2, [12]⟩, ⟨some 40, .conv .u8, [.tmp 39], none, 2, [13, 12]⟩, ⟨some 41, .buildSl 5 (.int .u8) 1, [.tmp 40], none, 2, [14, 13, 12]⟩, ⟨some 42, .append 5 (.int .u8) 1, [.tmp 37, .tmp 41], none, 3, [11, 0, 10, 9, 8, 7, 5, 4, 3, 2, 1, 6, 15, 14, 13, 12]⟩, ⟨some 6, .mov, [.tmp 42], none, 4, [16, 11, 0, 10, 9, 8, 7, 5, 4, 3, 2, 1, 6, 15, 14, 13, 12]⟩]) (.skip))))) (.region false 0 [ op0 43 (.bin .add) [.tmp 16, .cst (.int .i64 1)], op0 16 .mov [.tmp 43]]))))
noncomputable def ir48_v0 : List Nat := [0, 1, 6, 14, 15, 16]
noncomputable def ir48_t {R : Type} (o0 : St → (Ex → St → Option R) → Option R) : LT R := (.node .nil (.node .nil (.node (.node .nil (.node (.orc o0) .nil)) .nil)))
noncomputable def ir48 : IFn := { ntmps := 45, results := [.inl 4, .inl 5], body := (.seq (.region false 0 [ op0 4 .mov [.cst (.nil 5 (.int .u8))], op0 5 .mov [.cst (.int .i64 0)]]) (.seq (.region false 1 [ ⟨some 9, .buildSl 5 (.int .u8) 3, [.cst (.int .u8 89), .cst (.int .u8 2), .cst (.int .u8 31)], none, 0, []⟩, op0 6 .mov [.tmp 9]]) (.seq (.seq (.region false 0 [ op0 10 .mov [.tmp 0], op0 11 .nilck [.tmp 10], op0 12 (.fieldAddr 1 6) [.tmp 11], op0 13 (.fieldAddr 1 1) [.tmp 12], op0 14 (.load false 1) [.tmp 13], op0 15 .len [.tmp 14], op0 16 .mov [.cst (.int .i64 0)]]) (.block 0 (.loop ir48_v0 ir48_b0))) (.seq (.region false 0 [ op0 44 .mov [.tmp 6], op0 4 .mov [.tmp 44], op0 5 .mov [.cst (.int .i64 0)]]) (.cut [4, 5] (.ret)))))) }
theorem ir48_tok {R : Type} {summ : Nat → Option Summ} {fu : Nat} {call : Nat → List CV → List Blk → (CV → List Blk → Option R) → Option R} {o0 : St → (Ex → St → Option R) → Option R} (h0 : ∀ T k r, o0 T k = some r → evLoopN (evCode summ fu call ir48_b0) (St.norm ir48_v0) fu T k = some r) : LTok summ fu call (ir48_t o0) ir48.body := ⟨trivial, ⟨trivial, ⟨⟨trivial, h0⟩, trivial⟩⟩⟩


noncomputable def ir49 : IFn := { ntmps := 53, results := [.inl 6, .inl 7], body := (.seq (.region false 0 [ op0 6 .mov [.cst (.nil 5 (.int .u8))], op0 7 .mov [.cst (.int .i64 0)]]) (.seq (.region false 0 [ op0 8 .mov [.cst (.nil 5 (.int .u8))]]) (.seq (.seq (.region false 0 [ op0 9 .mov [.tmp 1], op0 10 (.conv .i64) [.tmp 9], op0 11 (.bin .shl) [.tmp 10, .cst (.int .u64 8)], op0 12 .mov [.tmp 2], op0 13 (.conv .i64) [.tmp 12], op0 14 (.bin .or) [.tmp 11, .tmp 13]]) (.block 0 (.seq (.region false 0 [ op0 16 (.bin .eql) [.tmp 14, .cst (.int .i64 256)], op0 15 .mov [.tmp 16]]) (.cond (.tmp 15) (.region false 1 [ op0 17 .mov [.tmp 0], op0 18 .nilck [.tmp 17], op0 19 (.fieldAddr 0 0) [.tmp 18], op0 20 (.fieldAddr 0 0) [.tmp 19], op0 21 (.load false 1) [.tmp 20], op0 22 (.callS 56) [.tmp 21, .cst (.int .i64 1)], op0 8 .mov [.tmp 22]]) (.seq (.region false 0 [ op0 24 (.bin .eql) [.tmp 14, .cst (.int .i64 257)], op0 23 .mov [.tmp 24]]) (.cond (.tmp 23) (.region false 1 [ op0 25 .mov [.tmp 0], op0 26 .nilck [.tmp 25], op0 27 (.fieldAddr 1 6) [.tmp 26], op0 28 (.fieldAddr 1 1) [.tmp 27], op0 29 (.load false 1) [.tmp 28], op0 30 .len [.tmp 29], op0 31 (.callS 56) [.tmp 30, .cst (.int .i64 1)], op0 8 .mov [.tmp 31]]) (.seq (.region false 0 [ op0 33 (.bin .eql) [.tmp 14, .cst (.int .i64 258)], op0 32 .mov [.tmp 33]]) (.cond (.tmp 32) (.region false 1 [ op0 34 .mov [.tmp 0], op0 35 .nilck [.tmp 34], op0 36 (.fieldAddr 1 6) [.tmp 35], op0 37 (.fieldAddr 2 2) [.tmp 36], op0 38 (.load false 1) [.tmp 37], op0 39 (.callS 56) [.tmp 38, .cst (.int .i64 4)], op0 8 .mov [.tmp 39]]) (.seq (.region false 0 [ op0 41 (.bin .eql) [.tmp 14, .cst (.int .i64 259)], op0 40 .mov [.tmp 41]]) (.cond (.tmp 40) (.region false 1 [ op0 42 .mov [.tmp 0], op0 43 .nilck [.tmp 42], op0 44 (.fieldAddr 0 0) [.tmp 43], op0 45 (.fieldAddr 2 2) [.tmp 44], op0 46 (.load false 1) [.tmp 45], op0 47 (.callS 56) [.tmp 46, .cst (.int .i64 1)], op0 8 .mov [.tmp 47]]) (.seq (.region false 0 [ op0 6 .mov [.cst (.nil 5 (.int .u8))], op0 7 .mov [.cst (.int .i64 49)]]) (.cut [6, 7] (.ret))))))))))))) (.seq (.region false 2 [ op0 48 .mov [.tmp 1], op0 49 .mov [.tmp 2], ⟨some 50, .buildSl 5 (.int .u8) 3, [.cst (.int .u8 98), .tmp 48, .tmp 49], none, 0, []⟩, op0 51 .mov [.tmp 8], ⟨some 52, .append 5 (.int .u8) 1, [.tmp 50, .tmp 51], none, 0, []⟩, op0 6 .mov [.tmp 52], op0 7 .mov [.cst (.int .i64 0)]]) (.cut [6, 7] (.ret)))))) }


noncomputable def ir50_b1 : IC := (.seq (.region false 3 [ ⟨some 33, .buildSl 5 (.int .u8) 2, [.cst (.int .u8 103), .cst (.int .u8 1)], none, 0, []⟩, op0 34 .mov [.tmp 4], op0 35 (.callS 56) [.tmp 34, .cst (.int .i64 2)], ⟨some 36, .append 5 (.int .u8) 1, [.tmp 33, .tmp 35], none, 0, []⟩, op0 2 .mov [.tmp 36], op0 3 .mov [.cst (.int .i64 0)]]) (.cut [2, 3] (.ret)))
noncomputable def ir50_v1 : List Nat := [4]
noncomputable def ir50_b0 : IC := (.seq (.region false 0 [ op0 4 .mov [.cst (.int .i64 0)]]) (.seq (.seq (.region false 0 [ op0 15 .mov [.tmp 0], op0 16 .nilck [.tmp 15], op0 17 (.fieldAddr 0 0) [.tmp 16], op0 18 (.fieldAddr 2 2) [.tmp 17], op0 19 (.load false 1) [.tmp 18], op0 20 (.bin .eql) [.tmp 19, .cst (.int .i64 0)]]) (.cond (.tmp 20) (.seq (.region false 0 [ op0 21 .mov [.tmp 0], op0 22 .nilck [.tmp 21], op0 23 (.fieldAddr 2 10) [.tmp 22], op0 24 (.load false 1) [.tmp 23], op0 25 (.bin .mul) [.cst (.int .i64 40503), .tmp 24], op0 26 (.bin .rem) [.tmp 25, .cst (.int .i64 65535)], op0 27 (.bin .add) [.cst (.int .i64 1), .tmp 26], op0 4 .mov [.tmp 27]]) (.region false 0 [ op0 28 .mov [.tmp 0], op0 29 .mov [.tmp 4], op0 30 .nilck [.tmp 28], op0 31 (.fieldAddr 0 0) [.tmp 30], op0 32 (.fieldAddr 1 1) [.tmp 31], ⟨none, .store 1, [.tmp 32, .tmp 29], none, 0, []⟩])) (.skip))) (.cut ir50_v1 ir50_b1)))
noncomputable def ir50_v0 : List Nat := [0]
noncomputable def ir50_bt0 {R : Type} (o1 : St → (Ex → St → Option R) → Option R) : LT R := (.node .nil (.node .nil (.orc o1)))
noncomputable def ir50_t {R : Type} (o0 : St → (Ex → St → Option R) → Option R) : LT R := (.node .nil (.node .nil (.orc o0)))
noncomputable def ir50 : IFn := { ntmps := 37, results := [.inl 2, .inl 3], body := (.seq (.region false 0 [ op0 2 .mov [.cst (.nil 5 (.int .u8))], op0 3 .mov [.cst (.int .i64 0)]]) (.seq (.seq (.region true 0 [ op0 5 .mov [.tmp 0], ⟨some 6, .nilck, [.tmp 5], none, 0, [0]⟩, ⟨some 7, .fieldAddr 2 10, [.tmp 6], none, 0, [1, 0]⟩, ⟨some 8, .load false 1, [.tmp 7], none, 0, [2, 1, 0]⟩, op0 9 .mov [.tmp 0], ⟨some 10, .nilck, [.tmp 9], none, 0, [4]⟩, ⟨some 11, .fieldAddr 0 0, [.tmp 10], none, 0, [5, 4]⟩, ⟨some 12, .fieldAddr 4 4, [.tmp 11], none, 0, [6, 5, 4]⟩, ⟨some 13, .load false 1, [.tmp 12], none, 0, [7, 6, 5, 4]⟩, ⟨some 14, .bin .lss, [.tmp 8, .tmp 13], none, 0, [3, 2, 1, 0, 8, 7, 6, 5, 4]⟩]) (.cond (.tmp 14) (.seq (.region false 0 [ op0 2 .mov [.cst (.nil 5 (.int .u8))], op0 3 .mov [.cst (.int .i64 55)]]) (.cut [2, 3] (.ret))) (.skip))) (.cut ir50_v0 ir50_b0))) }
theorem ir50_bt0ok {R : Type} {summ : Nat → Option Summ} {fu : Nat} {call : Nat → List CV → List Blk → (CV → List Blk → Option R) → Option R} {o1 : St → (Ex → St → Option R) → Option R} (h1 : ∀ T k r, o1 T k = some r → evCode summ fu call ir50_b1 T k = some r) : LTok summ fu call (ir50_bt0 o1) ir50_b0 := ⟨trivial, ⟨trivial, h1⟩⟩
theorem ir50_tok {R : Type} {summ : Nat → Option Summ} {fu : Nat} {call : Nat → List CV → List Blk → (CV → List Blk → Option R) → Option R} {o0 : St → (Ex → St → Option R) → Option R} (h0 : ∀ T k r, o0 T k = some r → evCode summ fu call ir50_b0 T k = some r) : LTok summ fu call (ir50_t o0) ir50.body := ⟨trivial, ⟨trivial, h0⟩⟩


noncomputable def ir51_b2 : IC := (.seq (.region false 2 [ ⟨some 34, .buildSl 5 (.int .u8) 2, [.cst (.int .u8 103), .cst (.int .u8 2)], none, 0, []⟩, op0 35 (.callS 46) [.tmp 34], op0 36 (.extract 0) [.tmp 35], op0 37 (.extract 1) [.tmp 35], op0 4 .mov [.tmp 36], op0 5 .mov [.tmp 37]]) (.cut [4, 5] (.ret)))
noncomputable def ir51_v2 : List Nat := []
noncomputable def ir51_b5 : IC := (.seq (.region false 0 [ op0 53 .mov [.tmp 0], op0 54 .mov [.tmp 0], op0 55 .mov [.tmp 0], op0 56 .nilck [.tmp 55], op0 57 (.fieldAddr 2 10) [.tmp 56], op0 58 (.load false 1) [.tmp 57], op0 59 (.bin .add) [.tmp 58, .cst (.int .i64 10000000)], op0 60 .nilck [.tmp 53], op0 61 (.fieldAddr 0 0) [.tmp 60], op0 62 (.fieldAddr 3 3) [.tmp 61], ⟨none, .store 1, [.tmp 62, .cst (.int .i64 0)], none, 0, []⟩, op0 63 .nilck [.tmp 54], op0 64 (.fieldAddr 0 0) [.tmp 63], op0 65 (.fieldAddr 4 4) [.tmp 64], ⟨none, .store 1, [.tmp 65, .tmp 59], none, 0, []⟩]) (.seq (.region false 0 [ op0 4 .mov [.cst (.nil 5 (.int .u8))], op0 5 .mov [.cst (.int .i64 54)]]) (.cut [4, 5] (.ret))))
noncomputable def ir51_v5 : List Nat := [0]
noncomputable def ir51_b4 : IC := (.seq (.seq (.region false 0 [ op0 47 .mov [.tmp 0], op0 48 .nilck [.tmp 47], op0 49 (.fieldAddr 0 0) [.tmp 48], op0 50 (.fieldAddr 3 3) [.tmp 49], op0 51 (.load false 1) [.tmp 50], op0 52 (.bin .lss) [.tmp 51, .cst (.int .i64 3)]]) (.cond (.tmp 52) (.seq (.region false 0 [ op0 4 .mov [.cst (.nil 5 (.int .u8))], op0 5 .mov [.cst (.int .i64 53)]]) (.cut [4, 5] (.ret))) (.skip))) (.cut ir51_v5 ir51_b5))
noncomputable def ir51_v4 : List Nat := [0]
noncomputable def ir51_bt4 {R : Type} (o5 : St → (Ex → St → Option R) → Option R) : LT R := (.node .nil (.orc o5))
noncomputable def ir51_b3 : IC := (.seq (.region false 0 [ op0 38 .mov [.tmp 0], op0 39 .nilck [.tmp 38], op0 40 (.fieldAddr 0 0) [.tmp 39], op0 41 (.fieldAddr 3 3) [.tmp 40], op0 42 (.load false 1) [.tmp 41], op0 43 (.bin .add) [.tmp 42, .cst (.int .i64 1)], op0 44 .nilck [.tmp 38], op0 45 (.fieldAddr 0 0) [.tmp 44], op0 46 (.fieldAddr 3 3) [.tmp 45], ⟨none, .store 1, [.tmp 46, .tmp 43], none, 0, []⟩]) (.cut ir51_v4 ir51_b4))
noncomputable def ir51_v3 : List Nat := [0]
noncomputable def ir51_bt3 {R : Type} (o4 : St → (Ex → St → Option R) → Option R) : LT R := (.node .nil (.orc o4))
noncomputable def ir51_b1 : IC := (.seq (.region false 0 [ op0 21 .mov [.tmp 0], op0 22 .nilck [.tmp 21], op0 23 (.fieldAddr 0 0) [.tmp 22], op0 24 (.fieldAddr 1 1) [.tmp 23], ⟨none, .store 1, [.tmp 24, .cst (.int .i64 0)], none, 0, []⟩]) (.seq (.seq (.region false 0 [ op0 25 .mov [.tmp 6]]) (.cond (.tmp 25) (.seq (.region false 0 [ op0 26 .mov [.tmp 0], op0 27 .mov [.tmp 0], op0 28 .nilck [.tmp 26], op0 29 (.fieldAddr 0 0) [.tmp 28], op0 30 (.fieldAddr 2 2) [.tmp 29], ⟨none, .store 1, [.tmp 30, .cst (.int .i64 1)], none, 0, []⟩, op0 31 .nilck [.tmp 27], op0 32 (.fieldAddr 0 0) [.tmp 31], op0 33 (.fieldAddr 3 3) [.tmp 32], ⟨none, .store 1, [.tmp 33, .cst (.int .i64 0)], none, 0, []⟩]) (.cut ir51_v2 ir51_b2)) (.skip))) (.cut ir51_v3 ir51_b3)))
noncomputable def ir51_v1 : List Nat := [0, 6]
noncomputable def ir51_bt1 {R : Type} (o2 o3 : St → (Ex → St → Option R) → Option R) : LT R := (.node .nil (.node (.node .nil (.node (.node .nil (.orc o2)) .nil)) (.orc o3)))
noncomputable def ir51_b0 : IC := (.seq (.region false 1 [ op0 13 .mov [.tmp 1], op0 14 .mov [.tmp 0], op0 15 .nilck [.tmp 14], op0 16 (.fieldAddr 0 0) [.tmp 15], op0 17 (.fieldAddr 1 1) [.tmp 16], op0 18 (.load false 1) [.tmp 17], op0 19 (.callS 19) [.tmp 18, .cst (.int .i64 1)], op0 20 (.bin .eql) [.tmp 13, .tmp 19], op0 6 .mov [.tmp 20]]) (.cut ir51_v1 ir51_b1))
noncomputable def ir51_v0 : List Nat := [0, 1]
noncomputable def ir51_bt0 {R : Type} (o1 : St → (Ex → St → Option R) → Option R) : LT R := (.node .nil (.orc o1))
noncomputable def ir51_t {R : Type} (o0 : St → (Ex → St → Option R) → Option R) : LT R := (.node .nil (.node .nil (.orc o0)))
noncomputable def ir51 : IFn := { ntmps := 66, results := [.inl 4, .inl 5], body := (.seq (.region false 0 [ op0 4 .mov [.cst (.nil 5 (.int .u8))], op0 5 .mov [.cst (.int .i64 0)]]) (.seq (.seq (.region false 0 [ op0 7 .mov [.tmp 0], op0 8 .nilck [.tmp 7], op0 9 (.fieldAddr 0 0) [.tmp 8], op0 10 (.fieldAddr 1 1) [.tmp 9], op0 11 (.load false 1) [.tmp 10], op0 12 (.bin .eql) [.tmp 11, .cst (.int .i64 0)]]) (.cond (.tmp 12) (.seq (.region false 0 [ op0 4 .mov [.cst (.nil 5 (.int .u8))], op0 5 .mov [.cst (.int .i64 36)]]) (.cut [4, 5] (.ret))) (.skip))) (.cut ir51_v0 ir51_b0))) }
theorem ir51_bt4ok {R : Type} {summ : Nat → Option Summ} {fu : Nat} {call : Nat → List CV → List Blk → (CV → List Blk → Option R) → Option R} {o5 : St → (Ex → St → Option R) → Option R} (h5 : ∀ T k r, o5 T k = some r → evCode summ fu call ir51_b5 T k = some r) : LTok summ fu call (ir51_bt4 o5) ir51_b4 := ⟨trivial, h5⟩
theorem ir51_bt3ok {R : Type} {summ : Nat → Option Summ} {fu : Nat} {call : Nat → List CV → List Blk → (CV → List Blk → Option R) → Option R} {o4 : St → (Ex → St → Option R) → Option R} (h4 : ∀ T k r, o4 T k = some r → evCode summ fu call ir51_b4 T k = some r) : LTok summ fu call (ir51_bt3 o4) ir51_b3 := ⟨trivial, h4⟩
theorem ir51_bt1ok {R : Type} {summ : Nat → Option Summ} {fu : Nat} {call : Nat → List CV → List Blk → (CV → List Blk → Option R) → Option R} {o2 o3 : St → (Ex → St → Option R) → Option R} (h2 : ∀ T k r, o2 T k = some r → evCode summ fu call ir51_b2 T k = some r) (h3 : ∀ T k r, o3 T k = some r → evCode summ fu call ir51_b3 T k = some r) : LTok summ fu call (ir51_bt1 o2 o3) ir51_b1 := ⟨trivial, ⟨⟨trivial, ⟨⟨trivial, h2⟩, trivial⟩⟩, h3⟩⟩
theorem ir51_bt0ok {R : Type} {summ : Nat → Option Summ} {fu : Nat} {call : Nat → List CV → List Blk → (CV → List Blk → Option R) → Option R} {o1 : St → (Ex → St → Option R) → Option R} (h1 : ∀ T k r, o1 T k = some r → evCode summ fu call ir51_b1 T k = some r) : LTok summ fu call (ir51_bt0 o1) ir51_b0 := ⟨trivial, h1⟩
theorem ir51_tok {R : Type} {summ : Nat → Option Summ} {fu : Nat} {call : Nat → List CV → List Blk → (CV → List Blk → Option R) → Option R} {o0 : St → (Ex → St → Option R) → Option R} (h0 : ∀ T k r, o0 T k = some r → evCode summ fu call ir51_b0 T k = some r) : LTok summ fu call (ir51_t o0) ir51.body := ⟨trivial, ⟨trivial, h0⟩⟩


noncomputable def ir52_b0 : IC := (.seq (.seq (.region false 0 [ op0 11 .mov [.tmp 5], op0 12 .mov [.tmp 0], op0 13 .len [.tmp 12], op0 14 (.bin .lss) [.tmp 11, .tmp 13]]) (.cond (.tmp 14) (.skip) (.cut [] (.exit 0)))) (.seq (.block 1 (.seq (.region true 0 [ op0 17 .mov [.tmp 0], op0 18 .mov [.tmp 5], ⟨some 19, .idxSl 1, [.tmp 17, .tmp 18], none, 0, [0, 1]⟩, ⟨some 20, .load false 1, [.tmp 19], none, 0, [2, 0, 1]⟩, op0 21 .mov [.tmp 1], op0 22 .mov [.tmp 5], ⟨some 23, .idxSl 1, [.tmp 21, .tmp 22], none, 0, [4, 5]⟩, ⟨some 24, .load false 1, [.tmp 23], none, 0, [6, 4, 5]⟩, ⟨some 25, .bin .neq, [.tmp 20, .tmp 24], none, 0, [3, 2, 0, 1, 7, 6, 4, 5]⟩]) (.cond (.tmp 25) (.seq (.region false 0 [ op0 4 .mov [.cst (.bool false)]]) (.cut [4] (.ret))) (.skip)))) (.region false 0 [ op0 15 .mov [.tmp 5], op0 16 (.bin .add) [.tmp 15, .cst (.int .i64 1)], op0 5 .mov [.tmp 16]])))
noncomputable def ir52_v0 : List Nat := [0, 1, 5]
noncomputable def ir52_t {R : Type} (o0 : St → (Ex → St → Option R) → Option R) : LT R := (.node .nil (.node .nil (.node (.node .nil (.node (.orc o0) .nil)) .nil)))
noncomputable def ir52 : IFn := { ntmps := 26, results := [.inl 4], body := (.seq (.region false 0 [ op0 4 .mov [.cst (.bool false)]]) (.seq (.seq (.region false 0 [ op0 6 .mov [.tmp 0], op0 7 .len [.tmp 6], op0 8 .mov [.tmp 1], op0 9 .len [.tmp 8], op0 10 (.bin .neq) [.tmp 7, .tmp 9]]) (.cond (.tmp 10) (.seq (.region false 0 [ op0 4 .mov [.cst (.bool false)]]) (.cut [4] (.ret))) (.skip))) (.seq (.seq (.region false 0 [ op0 5 .mov [.cst (.int .i64 0)]]) (.block 0 (.loop ir52_v0 ir52_b0))) (.seq (.region false 0 [ op0 4 .mov [.cst (.bool true)]]) (.cut [4] (.ret)))))) }
theorem ir52_tok {R : Type} {summ : Nat → Option Summ} {fu : Nat} {call : Nat → List CV → List Blk → (CV → List Blk → Option R) → Option R} {o0 : St → (Ex → St → Option R) → Option R} (h0 : ∀ T k r, o0 T k = some r → evLoopN (evCode summ fu call ir52_b0) (St.norm ir52_v0) fu T k = some r) : LTok summ fu call (ir52_t o0) ir52.body := ⟨trivial, ⟨trivial, ⟨⟨trivial, h0⟩, trivial⟩⟩⟩


noncomputable def ir53 : IFn := { ntmps := 9, results := [.inl 4], body := (.seq (.region false 0 [ op0 4 .mov [.cst (.bool false)]]) (.seq (.region false 0 [ op0 5 .mov [.tmp 0], op0 6 .mov [.tmp 1], op0 7 (.call 57) [.tmp 5, .tmp 6], op0 8 (.bin .geq) [.tmp 7, .cst (.int .i64 0)], op0 4 .mov [.tmp 8]]) (.cut [4] (.ret)))) }


noncomputable def ir54 : IFn := { ntmps := 6, results := [.inl 2], body := (.seq (.region false 0 [ op0 2 .mov [.cst (.bool false)]]) (.seq (.region false 1 [ op0 3 .mov [.tmp 0], op0 4 (.callS 55) [.tmp 3], op0 5 .not [.tmp 4], op0 2 .mov [.tmp 5]]) (.cut [2] (.ret)))) }


noncomputable def ir55 : IFn := { ntmps := 5, results := [.inl 2], body := (.seq (.region false 0 [ op0 2 .mov [.cst (.bool false)]]) (.seq (.region false 1 [ op0 3 .mov [.tmp 0], op0 4 (.callS 27) [.tmp 3, .cst (.int .i64 (-1099511627776)), .cst (.int .i64 1099511627776)], op0 2 .mov [.tmp 4]]) (.cut [2] (.ret)))) }


noncomputable def ir56_b0 : IC := (.seq (.seq (.region false 0 [ op0 11 .mov [.tmp 6], op0 12 (.bin .geq) [.tmp 11, .cst (.int .i64 0)]]) (.cond (.tmp 12) (.skip) (.cut [5] (.exit 0)))) (.seq (.block 1 (.seq (.region false 0 [ op0 15 .mov [.tmp 5], op0 16 .mov [.tmp 6], op0 17 .mov [.tmp 0], op0 18 (.conv .u8) [.tmp 17], op0 19 (.idxSl 1) [.tmp 15, .tmp 16], ⟨none, .store 1, [.tmp 19, .tmp 18], none, 0, []⟩]) (.region false 0 [ op0 20 .mov [.tmp 0], op0 21 (.bin .shr) [.tmp 20, .cst (.int .u64 8)], op0 0 .mov [.tmp 21]]))) (.region false 0 [ op0 13 .mov [.tmp 6], op0 14 (.bin .sub) [.tmp 13, .cst (.int .i64 1)], op0 6 .mov [.tmp 14]])))
noncomputable def ir56_v0 : List Nat := [0, 5, 6]
noncomputable def ir56_t {R : Type} (o0 : St → (Ex → St → Option R) → Option R) : LT R := (.node .nil (.node .nil (.node (.node .nil (.node (.orc o0) .nil)) .nil)))
noncomputable def ir56 : IFn := { ntmps := 23, results := [.inl 4], body := (.seq (.region false 0 [ op0 4 .mov [.cst (.nil 5 (.int .u8))]]) (.seq (.region false 1 [ op0 7 .mov [.tmp 1], ⟨some 8, .mkSlice 5 (.int .u8) 1, [.tmp 7, .tmp 7], none, 0, []⟩, op0 5 .mov [.tmp 8]]) (.seq (.seq (.region false 0 [ op0 9 .mov [.tmp 1], op0 10 (.bin .sub) [.tmp 9, .cst (.int .i64 1)], op0 6 .mov [.tmp 10]]) (.block 0 (.loop ir56_v0 ir56_b0))) (.seq (.region false 0 [ op0 22 .mov [.tmp 5], op0 4 .mov [.tmp 22]]) (.cut [4] (.ret)))))) }
theorem ir56_tok {R : Type} {summ : Nat → Option Summ} {fu : Nat} {call : Nat → List CV → List Blk → (CV → List Blk → Option R) → Option R} {o0 : St → (Ex → St → Option R) → Option R} (h0 : ∀ T k r, o0 T k = some r → evLoopN (evCode summ fu call ir56_b0) (St.norm ir56_v0) fu T k = some r) : LTok summ fu call (ir56_t o0) ir56.body := ⟨trivial, ⟨trivial, ⟨⟨trivial, h0⟩, trivial⟩⟩⟩


noncomputable def ir57_b0 : IC := (.seq (.region false 0 [ op0 9 (.bin .lss) [.tmp 8, .tmp 7]]) (.seq (.cond (.tmp 9) (.skip) (.cut [] (.exit 0))) (.seq (.block 1 (.seq (.region false 0 [ op0 10 .mov [.tmp 8], op0 5 .mov [.tmp 10]]) (.seq (.region false 0 [ op0 11 .mov [.tmp 1], op0 12 .mov [.tmp 0], op0 13 .mov [.tmp 5], op0 14 (.idxSl 1) [.tmp 12, .tmp 13], op0 15 (.load false 1) [.tmp 14], op0 16 .callv [.tmp 11, .tmp 15]]) (.cond (.tmp 16) (.seq (.region false 0 [ op0 17 .mov [.tmp 5], op0 4 .mov [.tmp 17]]) (.cut [4] (.ret))) (.skip))))) (.region false 0 [ op0 18 (.bin .add) [.tmp 8, .cst (.int .i64 1)], op0 8 .mov [.tmp 18]]))))
noncomputable def ir57_v0 : List Nat := [0, 1, 7, 8]
noncomputable def ir57_t {R : Type} (o0 : St → (Ex → St → Option R) → Option R) : LT R := (.node .nil (.node (.node .nil (.node (.orc o0) .nil)) .nil))
noncomputable def ir57 : IFn := { ntmps := 19, results := [.inl 4], body := (.seq (.region false 0 [ op0 4 .mov [.cst (.int .i64 0)]]) (.seq (.seq (.region false 0 [ op0 6 .mov [.tmp 0], op0 7 .len [.tmp 6], op0 8 .mov [.cst (.int .i64 0)]]) (.block 0 (.loop ir57_v0 ir57_b0))) (.seq (.region false 0 [ op0 4 .mov [.cst (.int .i64 (-1))]]) (.cut [4] (.ret))))) }
theorem ir57_tok {R : Type} {summ : Nat → Option Summ} {fu : Nat} {call : Nat → List CV → List Blk → (CV → List Blk → Option R) → Option R} {o0 : St → (Ex → St → Option R) → Option R} (h0 : ∀ T k r, o0 T k = some r → evLoopN (evCode summ fu call ir57_b0) (St.norm ir57_v0) fu T k = some r) : LTok summ fu call (ir57_t o0) ir57.body := ⟨trivial, ⟨⟨trivial, h0⟩, trivial⟩⟩


noncomputable def fns : Nat → Option IFn | 3 => some ir3 | 8 => some ir8 | 9 => some ir9 | 10 => some ir10 | 11 => some ir11 | 12 => some ir12 | 13 => some ir13 | 14 => some ir14 | 15 => some ir15 | 16 => some ir16 | 17 => some ir17 | 18 => some ir18 | 19 => some ir19 | 22 => some ir22 | 23 => some ir23 | 24 => some ir24 | 25 => some ir25 | 27 => some ir27 | 28 => some ir28 | 29 => some ir29 | 30 => some ir30 | 31 => some ir31 | 32 => some ir32 | 33 => some ir33 | 34 => some ir34 | 35 => some ir35 | 37 => some ir37 | 38 => some ir38 | 39 => some ir39 | 40 => some ir40 | 41 => some ir41 | 42 => some ir42 | 43 => some ir43 | 44 => some ir44 | 45 => some ir45 | 46 => some ir46 | 47 => some ir47 | 48 => some ir48 | 49 => some ir49 | 50 => some ir50 | 51 => some ir51 | 52 => some ir52 | 53 => some ir53 | 54 => some ir54 | 55 => some ir55 | 56 => some ir56 | 57 => some ir57 | _ => none
end Go.Ev
namespace Go.Ev
open Go
set_option maxRecDepth 100000
set_option maxHeartbeats 4000000
set_option linter.unusedVariables false
noncomputable section

noncomputable def sm_12 : Nat → Option Summ := fun f => none


noncomputable def F_12  : Option ((Int × (Int × (Int × (Int × (Int × (Int × Unit)))))) × Unit) :=
  some (((1 : Int), (0 : Int), (0 : Int), (0 : Int), (0 : Int), (0 : Int), PUnit.unit), PUnit.unit)
theorem fn_12  : evFnL sm_12 FU (ovr noO (evFn sm_12 fns FU 0)) .nil ir12 (ofH [] (())) [] (pureK [(.pair (.int .i64) (.pair (.int .i64) (.pair (.int .i64) (.pair (.int .i64) (.pair (.int .i64) (.pair (.int .i64) .unit))))))]) = F_12 := by kernel_rfl
noncomputable def Sp.p_12  : Bool := (F_12).isSome
noncomputable def Sp.v_12  : (Int × (Int × (Int × (Int × (Int × (Int × Unit)))))) × Unit := (F_12).getD (dfH [(.pair (.int .i64) (.pair (.int .i64) (.pair (.int .i64) (.pair (.int .i64) (.pair (.int .i64) (.pair (.int .i64) .unit))))))])
noncomputable def s_12 : Summ := shN [] [(.pair (.int .i64) (.pair (.int .i64) (.pair (.int .i64) (.pair (.int .i64) (.pair (.int .i64) (.pair (.int .i64) .unit))))))] (fun x => Sp.p_12 ) (fun x => Sp.v_12 )
theorem pv_12  {y : (Int × (Int × (Int × (Int × (Int × (Int × Unit)))))) × Unit} (h : F_12 = some y) : Sp.p_12 = true ∧ Sp.v_12 = y := ⟨by rw [Sp.p_12, h]; rfl, by rw [Sp.v_12, h]; rfl⟩
theorem run_12 (x : HDen []) (y : HDen [(.pair (.int .i64) (.pair (.int .i64) (.pair (.int .i64) (.pair (.int .i64) (.pair (.int .i64) (.pair (.int .i64) .unit))))))]) (h : F_12  = some y) : evFn sm_12 fns FU 1 12 (ofH [] x) [] (pureK [(.pair (.int .i64) (.pair (.int .i64) (.pair (.int .i64) (.pair (.int .i64) (.pair (.int .i64) (.pair (.int .i64) .unit))))))]) = some y :=
  evFnL_sound (fn := ir12) (t := .nil) (o := noO) rfl noO_ok trivial ((fn_12).trans h)
end
end Go.Ev
namespace Go.Ev
open Go
set_option maxRecDepth 100000
set_option maxHeartbeats 4000000
set_option linter.unusedVariables false
noncomputable section

noncomputable def sm_27 : Nat → Option Summ := fun f => none


noncomputable def F_27 (a0 : Int) (a1 : Int) (a2 : Int) : Option (Bool × Unit) :=
  bif decide (a0 ≥ a1) then some (decide (a0 ≤ a2), PUnit.unit) else some (false, PUnit.unit)
theorem fn_27 (a0 : Int) (a1 : Int) (a2 : Int) : evFnL sm_27 FU (ovr noO (evFn sm_27 fns FU 0)) .nil ir27 (ofH [(.int .i64), (.int .i64), (.int .i64)] (a0, a1, a2, ())) [] (pureK [.bool]) = F_27 a0 a1 a2 := by kernel_rfl
noncomputable def Sp.p_27 (a0 : Int) (a1 : Int) (a2 : Int) : Bool := (F_27 a0 a1 a2).isSome
noncomputable def Sp.v_27 (a0 : Int) (a1 : Int) (a2 : Int) : Bool × Unit := (F_27 a0 a1 a2).getD (dfH [.bool])
noncomputable def s_27 : Summ := shN [(.int .i64), (.int .i64), (.int .i64)] [.bool] (fun x => Sp.p_27 x.1 x.2.1 x.2.2.1) (fun x => Sp.v_27 x.1 x.2.1 x.2.2.1)
theorem pv_27 (a0 : Int) (a1 : Int) (a2 : Int) {y : Bool × Unit} (h : F_27 a0 a1 a2 = some y) : Sp.p_27 a0 a1 a2 = true ∧ Sp.v_27 a0 a1 a2 = y := ⟨by rw [Sp.p_27, h]; rfl, by rw [Sp.v_27, h]; rfl⟩
theorem run_27 (x : HDen [(.int .i64), (.int .i64), (.int .i64)]) (y : HDen [.bool]) (h : F_27 x.1 x.2.1 x.2.2.1 = some y) : evFn sm_27 fns FU 1 27 (ofH [(.int .i64), (.int .i64), (.int .i64)] x) [] (pureK [.bool]) = some y :=
  evFnL_sound (fn := ir27) (t := .nil) (o := noO) rfl noO_ok trivial ((fn_27 _ _ _).trans h)
end
end Go.Ev
namespace Go.Ev
open Go
set_option maxRecDepth 100000
set_option maxHeartbeats 4000000
set_option linter.unusedVariables false
noncomputable section

noncomputable def sm_55 : Nat → Option Summ := fun f => bif Nat.beq f 27 then some s_27 else none


noncomputable def F_55 (a0 : Int) : Option (Bool × Unit) :=
  gd (Sp.p_27 a0 (-1099511627776 : Int) (1099511627776 : Int)) (some ((Sp.v_27 a0 (-1099511627776 : Int) (1099511627776 : Int)).1, PUnit.unit))
theorem fn_55 (a0 : Int) : evFnL sm_55 FU (ovr noO (evFn sm_55 fns FU 0)) .nil ir55 (ofH [(.int .i64)] (a0, ())) [] (pureK [.bool]) = F_55 a0 := by kernel_rfl
noncomputable def Sp.p_55 (a0 : Int) : Bool := (F_55 a0).isSome
noncomputable def Sp.v_55 (a0 : Int) : Bool × Unit := (F_55 a0).getD (dfH [.bool])
noncomputable def s_55 : Summ := shN [(.int .i64)] [.bool] (fun x => Sp.p_55 x.1) (fun x => Sp.v_55 x.1)
theorem pv_55 (a0 : Int) {y : Bool × Unit} (h : F_55 a0 = some y) : Sp.p_55 a0 = true ∧ Sp.v_55 a0 = y := ⟨by rw [Sp.p_55, h]; rfl, by rw [Sp.v_55, h]; rfl⟩
theorem run_55 (x : HDen [(.int .i64)]) (y : HDen [.bool]) (h : F_55 x.1 = some y) : evFn sm_55 fns FU 1 55 (ofH [(.int .i64)] x) [] (pureK [.bool]) = some y :=
  evFnL_sound (fn := ir55) (t := .nil) (o := noO) rfl noO_ok trivial ((fn_55 _).trans h)
end
end Go.Ev
namespace Go.Ev
open Go
set_option maxRecDepth 100000
set_option maxHeartbeats 4000000
set_option linter.unusedVariables false
noncomputable section
abbrev Zt39_0 : Type := Int × Int × Int × Int × Int × Int × Bool × Int × Unit
abbrev Zy39_1 : Ty := (Ty.pair (Ty.int IntKind.i64) (Ty.pair (Ty.int IntKind.i64) (Ty.pair (Ty.int IntKind.i64) (Ty.pair (Ty.int IntKind.i64) (Ty.pair (Ty.int IntKind.i64) (Ty.pair (Ty.int IntKind.i64) (Ty.pair Ty.bool (Ty.pair (Ty.int IntKind.i64) Ty.unit))))))))
abbrev Zy39_2 : Ty := (.pair (.int .i64) (.pair (.int .i64) (.pair (.int .i64) (.pair (.int .i64) (.pair (.int .i64) (.pair (.int .i64) (.pair .bool (.pair (.int .i64) .unit))))))))

noncomputable def sm_39 : Nat → Option Summ := fun f => bif Nat.beq f 55 then some s_55 else none
noncomputable def T_39_57_0_0 (p0 : List Int) (p1 : Int) (p2 : Int) (p3 : Zt39_0) : St := St.mk ([CV.pure (Ty.slice (Ty.int IntKind.i64)) p0, CV.clo (54 : Nat) (CV.pure Ty.unit PUnit.unit), jk, jk, jk, jk, jk, CV.int IntKind.i64 p1, CV.int IntKind.i64 p2] ++ (jl 10)) [Blk.mem (CV.pure Zy39_1 p3)] (1 : Nat)
noncomputable def X_39_57_0_0_0 (p2 : Int) (p3 : Zt39_0) : St := St.mk ([jk, jk, jk, jk, CV.int IntKind.i64 p2] ++ (jl 14)) [Blk.mem (CV.pure Zy39_1 p3)] (1 : Nat)
noncomputable def X_39_57_0_0_1 (p3 : Zt39_0) : St := St.mk (jl 19) [Blk.mem (CV.pure Zy39_1 p3)] (1 : Nat)
inductive Sp.E_39_57_0_0 where
  | e0 (p2 : Int) (p3 : Zt39_0)
  | e1 (p3 : Zt39_0)
noncomputable def Sp.B_39_57_0_0 {R : Type} (r : Option Sp.E_39_57_0_0) (k0 : (Int) → (Zt39_0) → Option R) (k1 : (Zt39_0) → Option R) : Option R := match r with
  | none => none
  | some (.e0 p2 p3) => k0 p2 p3
  | some (.e1 p3) => k1 p3
noncomputable def Sp.L_39_57_0_0 : Nat → (List Int) → (Int) → (Int) → (Int × Int × Int × Int × Int × Int × Bool × Int × Unit) → Option Sp.E_39_57_0_0
  | 0, _, _, _, _ => none
  | m + 1, p0, p1, p2, p3 => bif decide (p2 < p1) then gd (inB p2 (List.length p0)) (gd (Sp.p_55 (List.getD p0 (Int.toNat p2) (0 : Int))) (bif !(Sp.v_55 (List.getD p0 (Int.toNat p2) (0 : Int))).1 then some (Sp.E_39_57_0_0.e0 p2 p3) else Sp.L_39_57_0_0 m p0 p1 (IntKind.wrap IntKind.i64 (p2 + (1 : Int))) p3)) else some (Sp.E_39_57_0_0.e1 p3)
noncomputable def G_39_57_0_0 {R : Type} (p0 : List Int) (p1 : Int) (p2 : Int) (p3 : Zt39_0) (k : Ex → St → Option R) : Option R := Sp.B_39_57_0_0 (Sp.L_39_57_0_0 FU p0 p1 p2 p3) (fun p2 p3 => k Ex.ret (X_39_57_0_0_0 p2 p3)) (fun p3 => k (Ex.exit (0 : Nat)) (X_39_57_0_0_1 p3))
noncomputable def o_39_57_0_0 {R : Type} (G : (List Int) → (Int) → (Int) → (Zt39_0) → (Ex → St → Option R) → Option R) : St → (Ex → St → Option R) → Option R := fun T k => match T.sl.getD 0 .junk, T.sl.getD 1 .junk, T.sl.getD 7 .junk, T.sl.getD 8 .junk, T.hp with
  | CV.pure (Ty.slice (Ty.int IntKind.i64)) p0, CV.clo (54 : Nat) (CV.pure Ty.unit PUnit.unit), CV.int IntKind.i64 p1, CV.int IntKind.i64 p2, ((Blk.mem (CV.pure (Ty.pair (Ty.int IntKind.i64) (Ty.pair (Ty.int IntKind.i64) (Ty.pair (Ty.int IntKind.i64) (Ty.pair (Ty.int IntKind.i64) (Ty.pair (Ty.int IntKind.i64) (Ty.pair (Ty.int IntKind.i64) (Ty.pair Ty.bool (Ty.pair (Ty.int IntKind.i64) Ty.unit)))))))) p3)) :: []) => gd (shapeOK T 19 [0, 1, 7, 8] (1 : Nat)) (G p0 p1 p2 p3 k)
  | _, _, _, _, _ => none
theorem o_39_57_0_0_inv {R : Type} {G : (List Int) → (Int) → (Int) → (Zt39_0) → (Ex → St → Option R) → Option R} {T : St} {k : Ex → St → Option R} {r : R} (h : o_39_57_0_0 G T k = some r) : ∃ p0 p1 p2 p3, T = T_39_57_0_0 p0 p1 p2 p3 ∧ G p0 p1 p2 p3 k = some r := by
  unfold o_39_57_0_0 at h
  split at h
  · obtain ⟨hs, h'⟩ := gd_some h
    refine ⟨_, _, _, _, (st_of (asg := [(0, _), (1, _), (7, _), (8, _)]) hs ⟨by assumption, by assumption, by assumption, by assumption, trivial⟩ (by assumption)).trans ?_, h'⟩
    kernel_rfl
  · cases h
noncomputable def O_39_57_0 {R : Type} : St → (Ex → St → Option R) → Option R := fun T k => o_39_57_0_0 G_39_57_0_0 T k
noncomputable def g_39_57 {R : Type} : List CV → List Blk → (CV → List Blk → Option R) → Option R := evFnL sm_39 FU (ovr noO (evFn sm_39 fns FU 1)) (ir57_t O_39_57_0) ir57
noncomputable def g_39_53 {R : Type} : List CV → List Blk → (CV → List Blk → Option R) → Option R := evFnL sm_39 FU (ovr (fun f' => bif Nat.beq f' 57 then some (g_39_57) else none) (evFn sm_39 fns FU 2)) .nil ir53
theorem body_39_57_0_0 {R : Type} (K0 : St → Option R) (K1 : Ex → St → Option R) (p0 : List Int) (p1 : Int) (p2 : Int) (p3 : Zt39_0) : evLB (evCodeL sm_39 FU (ovr noO (evFn sm_39 fns FU 1)) .nil ir57_b0) (St.norm ir57_v0) (T_39_57_0_0 p0 p1 p2 p3) K0 K1 =
  bif decide (p2 < p1) then gd (inB p2 (List.length p0)) (gd (Sp.p_55 (List.getD p0 (Int.toNat p2) (0 : Int))) (bif !(Sp.v_55 (List.getD p0 (Int.toNat p2) (0 : Int))).1 then K1 Ex.ret (X_39_57_0_0_0 p2 p3) else K0 (T_39_57_0_0 p0 p1 (IntKind.wrap IntKind.i64 (p2 + (1 : Int))) p3))) else K1 (Ex.exit (0 : Nat)) (X_39_57_0_0_1 p3) := by kernel_rfl
theorem Bgd_39_57_0_0 {R : Type} {c : Bool} {x : Option R} {y : Option Sp.E_39_57_0_0} {k0 : (Int) → (Zt39_0) → Option R} {k1 : (Zt39_0) → Option R} (h : x = Sp.B_39_57_0_0 y k0 k1) : gd c x = Sp.B_39_57_0_0 (gd c y) k0 k1 := by cases c; rfl; exact h
theorem Bcond_39_57_0_0 {R : Type} {c : Bool} {x x' : Option R} {y y' : Option Sp.E_39_57_0_0} {k0 : (Int) → (Zt39_0) → Option R} {k1 : (Zt39_0) → Option R} (h : x = Sp.B_39_57_0_0 y k0 k1) (h' : x' = Sp.B_39_57_0_0 y' k0 k1) : (bif c then x else x') = Sp.B_39_57_0_0 (bif c then y else y') k0 k1 := by cases c; exact h'; exact h
theorem loop_39_57_0_0 {R : Type} (k : Ex → St → Option R) : ∀ (m : Nat) (p0 : List Int) (p1 : Int) (p2 : Int) (p3 : Zt39_0), evLoopN (evCodeL sm_39 FU (ovr noO (evFn sm_39 fns FU 1)) .nil ir57_b0) (St.norm ir57_v0) m (T_39_57_0_0 p0 p1 p2 p3) k = Sp.B_39_57_0_0 (Sp.L_39_57_0_0 m p0 p1 p2 p3) (fun p2 p3 => k Ex.ret (X_39_57_0_0_0 p2 p3)) (fun p3 => k (Ex.exit (0 : Nat)) (X_39_57_0_0_1 p3))
  | 0, _, _, _, _ => rfl
  | m + 1, p0, p1, p2, p3 => by
    rw [evLoopN_succ, body_39_57_0_0, Sp.L_39_57_0_0]
    repeat' first | apply Bgd_39_57_0_0 | apply Bcond_39_57_0_0 | exact loop_39_57_0_0 k m _ _ _ _ | rfl
theorem ok_39_57_0_0 {R : Type} (T : St) (k : Ex → St → Option R) (r : R) (h0 : o_39_57_0_0 G_39_57_0_0 T k = some r) : evLoopN (evCode sm_39 FU (evFn sm_39 fns FU 1) ir57_b0) (St.norm ir57_v0) FU T k = some r := by
  obtain ⟨p0, p1, p2, p3, rfl, h⟩ := o_39_57_0_0_inv h0
  refine evLoopN_L (t := .nil) noO_ok trivial _ _ _ _ ?_
  rw [loop_39_57_0_0]
  exact h
theorem OK_39_57_0 {R : Type} (T : St) (k : Ex → St → Option R) (r : R) (h : O_39_57_0 T k = some r) : evLoopN (evCode sm_39 FU (evFn sm_39 fns FU 1) ir57_b0) (St.norm ir57_v0) FU T k = some r := ok_39_57_0_0 T k r h
theorem g_39_57_ok {R : Type} (args : List CV) (hp : List Blk) (k : CV → List Blk → Option R) (r : R) (h : g_39_57 args hp k = some r) : evFn sm_39 fns FU 2 57 args hp k = some r :=
  evFnL_sound (fn := ir57) (t := (ir57_t O_39_57_0)) (o := noO) rfl noO_ok (ir57_tok (fun T k r => OK_39_57_0 T k r)) h
theorem ov_39_53_ok {R : Type} : OvrOK (R := R) (fun f' => bif Nat.beq f' 57 then some (g_39_57) else none) (evFn sm_39 fns FU 2) := by
  intro f' g h args hp k r hg
  dsimp only at h
  by_cases h57 : f' = 57
  · subst h57
    injection h with h
    subst h
    exact evFn_le 0 (g_39_57_ok _ _ _ _ hg)
  rw [nbeq_ne h57, cond_false] at h
  cases h
theorem g_39_53_ok {R : Type} (args : List CV) (hp : List Blk) (k : CV → List Blk → Option R) (r : R) (h : g_39_53 args hp k = some r) : evFn sm_39 fns FU 3 53 args hp k = some r :=
  evFnL_sound (fn := ir53) (t := .nil) (o := (fun f' => bif Nat.beq f' 57 then some (g_39_57) else none)) rfl ov_39_53_ok trivial h
theorem ov_39_39_ok {R : Type} : OvrOK (R := R) (fun f' => bif Nat.beq f' 53 then some (g_39_53) else none) (evFn sm_39 fns FU 3) := by
  intro f' g h args hp k r hg
  dsimp only at h
  by_cases h53 : f' = 53
  · subst h53
    injection h with h
    subst h
    exact evFn_le 0 (g_39_53_ok _ _ _ _ hg)
  rw [nbeq_ne h53, cond_false] at h
  cases h
noncomputable def F_39 (a0 : (Int × (Int × (Int × (Int × (Int × (Int × (Bool × (Int × Unit))))))))) (a1 : (List Int)) : Option (Bool × Unit) :=
  bif (↑(List.length a1) : Int) == a0.2.2.2.2.2.2.2.1 then Sp.B_39_57_0_0 (Sp.L_39_57_0_0 (4611686018427387904 : Nat) a1 (↑(List.length a1) : Int) (0 : Int) a0) (fun y3 y4 => some (!decide (y3 ≥ (0 : Int)), PUnit.unit)) fun y5 => some (true, PUnit.unit) else some (false, PUnit.unit)
theorem fn_39 (a0 : (Int × (Int × (Int × (Int × (Int × (Int × (Bool × (Int × Unit))))))))) (a1 : (List Int)) : evFnL sm_39 FU (ovr (fun f' => bif Nat.beq f' 53 then some (g_39_53) else none) (evFn sm_39 fns FU 3)) .nil ir39 (ofH [Zy39_2, (.slice (.int .i64))] (a0, a1, ())) [] (pureK [.bool]) = F_39 a0 a1 := by kernel_rfl
noncomputable def Sp.p_39 (a0 : (Int × (Int × (Int × (Int × (Int × (Int × (Bool × (Int × Unit))))))))) (a1 : (List Int)) : Bool := (F_39 a0 a1).isSome
noncomputable def Sp.v_39 (a0 : (Int × (Int × (Int × (Int × (Int × (Int × (Bool × (Int × Unit))))))))) (a1 : (List Int)) : Bool × Unit := (F_39 a0 a1).getD (dfH [.bool])
noncomputable def s_39 : Summ := shN [Zy39_2, (.slice (.int .i64))] [.bool] (fun x => Sp.p_39 x.1 x.2.1) (fun x => Sp.v_39 x.1 x.2.1)
theorem pv_39 (a0 : (Int × (Int × (Int × (Int × (Int × (Int × (Bool × (Int × Unit))))))))) (a1 : (List Int)) {y : Bool × Unit} (h : F_39 a0 a1 = some y) : Sp.p_39 a0 a1 = true ∧ Sp.v_39 a0 a1 = y := ⟨by rw [Sp.p_39, h]; rfl, by rw [Sp.v_39, h]; rfl⟩
theorem run_39 (x : HDen [Zy39_2, (.slice (.int .i64))]) (y : HDen [.bool]) (h : F_39 x.1 x.2.1 = some y) : evFn sm_39 fns FU 4 39 (ofH [Zy39_2, (.slice (.int .i64))] x) [] (pureK [.bool]) = some y :=
  evFnL_sound (fn := ir39) (t := .nil) (o := (fun f' => bif Nat.beq f' 53 then some (g_39_53) else none)) rfl ov_39_39_ok trivial ((fn_39 _ _).trans h)
end
end Go.Ev
namespace Go.Ev
open Go
set_option maxRecDepth 100000
set_option maxHeartbeats 4000000
set_option linter.unusedVariables false
noncomputable section

noncomputable def sm_40 : Nat → Option Summ := fun f => none


noncomputable def F_40 (a0 : (Int × (Int × (Int × (Int × (Int × ((List Int) × (Int × Unit)))))))) (a1 : Int) : Option (Bool × Unit) :=
  some (Sp.andI IntKind.i64 (a0.1) a1 == a1, PUnit.unit)
theorem fn_40 (a0 : (Int × (Int × (Int × (Int × (Int × ((List Int) × (Int × Unit)))))))) (a1 : Int) : evFnL sm_40 FU (ovr noO (evFn sm_40 fns FU 0)) .nil ir40 (ofH [(.pair (.int .i64) (.pair (.int .i64) (.pair (.int .i64) (.pair (.int .i64) (.pair (.int .i64) (.pair (.slice (.int .i64)) (.pair (.int .i64) .unit))))))), (.int .i64)] (a0, a1, ())) [] (pureK [.bool]) = F_40 a0 a1 := by kernel_rfl
noncomputable def Sp.p_40 (a0 : (Int × (Int × (Int × (Int × (Int × ((List Int) × (Int × Unit)))))))) (a1 : Int) : Bool := (F_40 a0 a1).isSome
noncomputable def Sp.v_40 (a0 : (Int × (Int × (Int × (Int × (Int × ((List Int) × (Int × Unit)))))))) (a1 : Int) : Bool × Unit := (F_40 a0 a1).getD (dfH [.bool])
noncomputable def s_40 : Summ := shN [(.pair (.int .i64) (.pair (.int .i64) (.pair (.int .i64) (.pair (.int .i64) (.pair (.int .i64) (.pair (.slice (.int .i64)) (.pair (.int .i64) .unit))))))), (.int .i64)] [.bool] (fun x => Sp.p_40 x.1 x.2.1) (fun x => Sp.v_40 x.1 x.2.1)
theorem pv_40 (a0 : (Int × (Int × (Int × (Int × (Int × ((List Int) × (Int × Unit)))))))) (a1 : Int) {y : Bool × Unit} (h : F_40 a0 a1 = some y) : Sp.p_40 a0 a1 = true ∧ Sp.v_40 a0 a1 = y := ⟨by rw [Sp.p_40, h]; rfl, by rw [Sp.v_40, h]; rfl⟩
theorem run_40 (x : HDen [(.pair (.int .i64) (.pair (.int .i64) (.pair (.int .i64) (.pair (.int .i64) (.pair (.int .i64) (.pair (.slice (.int .i64)) (.pair (.int .i64) .unit))))))), (.int .i64)]) (y : HDen [.bool]) (h : F_40 x.1 x.2.1 = some y) : evFn sm_40 fns FU 1 40 (ofH [(.pair (.int .i64) (.pair (.int .i64) (.pair (.int .i64) (.pair (.int .i64) (.pair (.int .i64) (.pair (.slice (.int .i64)) (.pair (.int .i64) .unit))))))), (.int .i64)] x) [] (pureK [.bool]) = some y :=
  evFnL_sound (fn := ir40) (t := .nil) (o := noO) rfl noO_ok trivial ((fn_40 _ _).trans h)
end
end Go.Ev
namespace Go.Ev
open Go
set_option maxRecDepth 100000
set_option maxHeartbeats 4000000
set_option linter.unusedVariables false
noncomputable section

noncomputable def sm_41 : Nat → Option Summ := fun f => none


noncomputable def F_41 (a0 : (Int × (Int × (Int × (Int × (Int × ((List Int) × (Int × Unit)))))))) : Option (Bool × Unit) :=
  some (Sp.andI IntKind.i64 (a0.1) (6 : Int) != (0 : Int), PUnit.unit)
theorem fn_41 (a0 : (Int × (Int × (Int × (Int × (Int × ((List Int) × (Int × Unit)))))))) : evFnL sm_41 FU (ovr noO (evFn sm_41 fns FU 0)) .nil ir41 (ofH [(.pair (.int .i64) (.pair (.int .i64) (.pair (.int .i64) (.pair (.int .i64) (.pair (.int .i64) (.pair (.slice (.int .i64)) (.pair (.int .i64) .unit)))))))] (a0, ())) [] (pureK [.bool]) = F_41 a0 := by kernel_rfl
noncomputable def Sp.p_41 (a0 : (Int × (Int × (Int × (Int × (Int × ((List Int) × (Int × Unit)))))))) : Bool := (F_41 a0).isSome
noncomputable def Sp.v_41 (a0 : (Int × (Int × (Int × (Int × (Int × ((List Int) × (Int × Unit)))))))) : Bool × Unit := (F_41 a0).getD (dfH [.bool])
noncomputable def s_41 : Summ := shN [(.pair (.int .i64) (.pair (.int .i64) (.pair (.int .i64) (.pair (.int .i64) (.pair (.int .i64) (.pair (.slice (.int .i64)) (.pair (.int .i64) .unit)))))))] [.bool] (fun x => Sp.p_41 x.1) (fun x => Sp.v_41 x.1)
theorem pv_41 (a0 : (Int × (Int × (Int × (Int × (Int × ((List Int) × (Int × Unit)))))))) {y : Bool × Unit} (h : F_41 a0 = some y) : Sp.p_41 a0 = true ∧ Sp.v_41 a0 = y := ⟨by rw [Sp.p_41, h]; rfl, by rw [Sp.v_41, h]; rfl⟩
theorem run_41 (x : HDen [(.pair (.int .i64) (.pair (.int .i64) (.pair (.int .i64) (.pair (.int .i64) (.pair (.int .i64) (.pair (.slice (.int .i64)) (.pair (.int .i64) .unit)))))))]) (y : HDen [.bool]) (h : F_41 x.1 = some y) : evFn sm_41 fns FU 1 41 (ofH [(.pair (.int .i64) (.pair (.int .i64) (.pair (.int .i64) (.pair (.int .i64) (.pair (.int .i64) (.pair (.slice (.int .i64)) (.pair (.int .i64) .unit)))))))] x) [] (pureK [.bool]) = some y :=
  evFnL_sound (fn := ir41) (t := .nil) (o := noO) rfl noO_ok trivial ((fn_41 _).trans h)
end
end Go.Ev
namespace Go.Ev
open Go
set_option maxRecDepth 100000
set_option maxHeartbeats 4000000
set_option linter.unusedVariables false
noncomputable section
abbrev Zt28_0 : Type := Int × Int × Int × Int × Int × List Int × Int × Unit
abbrev Zt28_1 : Type := Int × Int × Int × Int × Int × Int × Bool × Int × Unit
abbrev Zy28_2 : Ty := (Ty.pair (Ty.int IntKind.i64) (Ty.pair (Ty.int IntKind.i64) (Ty.pair (Ty.int IntKind.i64) (Ty.pair (Ty.int IntKind.i64) (Ty.pair (Ty.int IntKind.i64) (Ty.pair (Ty.slice (Ty.int IntKind.i64)) (Ty.pair (Ty.int IntKind.i64) Ty.unit)))))))
abbrev Zy28_3 : Ty := (Ty.pair (Ty.int IntKind.i64) (Ty.pair (Ty.int IntKind.i64) (Ty.pair (Ty.int IntKind.i64) (Ty.pair (Ty.int IntKind.i64) (Ty.pair (Ty.int IntKind.i64) (Ty.pair (Ty.int IntKind.i64) (Ty.pair Ty.bool (Ty.pair (Ty.int IntKind.i64) Ty.unit))))))))
abbrev Zy28_4 : Ty := (.pair (.int .i64) (.pair (.int .i64) (.pair (.int .i64) (.pair (.int .i64) (.pair (.int .i64) (.pair (.int .i64) (.pair .bool (.pair (.int .i64) .unit))))))))
abbrev Zy28_5 : Ty := (.pair (.int .i64) (.pair (.int .i64) (.pair (.int .i64) (.pair (.int .i64) (.pair (.int .i64) (.pair (.slice (.int .i64)) (.pair (.int .i64) .unit)))))))

noncomputable def sm_28 : Nat → Option Summ := fun f => bif Nat.beq f 27 then some s_27 else bif Nat.beq f 39 then some s_39 else bif Nat.beq f 40 then some s_40 else bif Nat.beq f 41 then some s_41 else none
noncomputable def T_28_3 (p0 : Zt28_1) (p1 : Zt28_0) : St := St.mk ([jk, jk, jk, CV.ptr (0 : Nat) [], CV.ptr (1 : Nat) []] ++ (jl 148)) [Blk.mem (CV.pure Zy28_3 p0), Blk.mem (CV.pure Zy28_2 p1)] (0 : Nat)
noncomputable def X_28_3_0 (p0 : Zt28_1) (p1 : Zt28_0) : St := St.mk (jl 6 ++ ([CV.bool ((↑(List.length (p1.2.2.2.2.2.1)) : Int) == p0.2.2.2.2.2.2.2.1)] ++ (jl 146))) [] (0 : Nat)
noncomputable def X_28_3_1 : St := St.mk (jl 6 ++ ([CV.bool false] ++ (jl 146))) [] (0 : Nat)
noncomputable def X_28_3_2 (p0 : Zt28_1) (p1 : Zt28_0) : St := St.mk ([jk, jk, jk, CV.ptr (0 : Nat) [], CV.ptr (1 : Nat) []] ++ (jl 100 ++ ([CV.bool false, CV.pure Zy28_2 p1, CV.bool ((Sp.v_41 p1).1)] ++ (jl 45)))) [Blk.mem (CV.pure Zy28_3 p0), Blk.mem (CV.pure Zy28_2 p1)] (0 : Nat)
inductive Sp.E_28_3 where
  | e0 (p0 : Zt28_1) (p1 : Zt28_0)
  | e1
  | e2 (p0 : Zt28_1) (p1 : Zt28_0)
noncomputable def Sp.B_28_3 {R : Type} (r : Option Sp.E_28_3) (k0 : (Zt28_1) → (Zt28_0) → Option R) (k1 : Option R) (k2 : (Zt28_1) → (Zt28_0) → Option R) : Option R := match r with
  | none => none
  | some (.e0 p0 p1) => k0 p0 p1
  | some (.e1) => k1
  | some (.e2 p0 p1) => k2 p0 p1
noncomputable def Sp.J_28_3 (p0 : Int × Int × Int × Int × Int × Int × Bool × Int × Unit) (p1 : Int × Int × Int × Int × Int × List Int × Int × Unit) : Option Sp.E_28_3 :=
  gd (Sp.p_41 p1) (bif (Sp.v_41 p1).1 then bif decide (p1.2.2.2.2.1 ≥ (1 : Int)) then bif decide (p1.2.2.1 ≥ (1 : Int)) then bif decide (p1.2.2.2.2.2.2.1 ≥ (1 : Int)) then some (Sp.E_28_3.e0 p0 p1) else some (Sp.E_28_3.e1) else some (Sp.E_28_3.e1) else some (Sp.E_28_3.e1) else some (Sp.E_28_3.e2 p0 p1))
noncomputable def G_28_3 {R : Type} (p0 : Zt28_1) (p1 : Zt28_0) (k : Ex → St → Option R) : Option R := Sp.B_28_3 (Sp.J_28_3 p0 p1) (fun p0 p1 => k Ex.ret (X_28_3_0 p0 p1)) (k Ex.ret (X_28_3_1)) (fun p0 p1 => k Ex.normal (X_28_3_2 p0 p1))
noncomputable def o_28_3 {R : Type} (G : (Zt28_1) → (Zt28_0) → (Ex → St → Option R) → Option R) : St → (Ex → St → Option R) → Option R := fun T k => match T.sl.getD 3 .junk, T.sl.getD 4 .junk, T.hp with
  | CV.ptr (0 : Nat) [], CV.ptr (1 : Nat) [], ((Blk.mem (CV.pure (Ty.pair (Ty.int IntKind.i64) (Ty.pair (Ty.int IntKind.i64) (Ty.pair (Ty.int IntKind.i64) (Ty.pair (Ty.int IntKind.i64) (Ty.pair (Ty.int IntKind.i64) (Ty.pair (Ty.int IntKind.i64) (Ty.pair Ty.bool (Ty.pair (Ty.int IntKind.i64) Ty.unit)))))))) p0)) :: (Blk.mem (CV.pure (Ty.pair (Ty.int IntKind.i64) (Ty.pair (Ty.int IntKind.i64) (Ty.pair (Ty.int IntKind.i64) (Ty.pair (Ty.int IntKind.i64) (Ty.pair (Ty.int IntKind.i64) (Ty.pair (Ty.slice (Ty.int IntKind.i64)) (Ty.pair (Ty.int IntKind.i64) Ty.unit))))))) p1)) :: []) => gd (shapeOK T 153 [3, 4] (0 : Nat)) (G p0 p1 k)
  | _, _, _ => none
theorem o_28_3_inv {R : Type} {G : (Zt28_1) → (Zt28_0) → (Ex → St → Option R) → Option R} {T : St} {k : Ex → St → Option R} {r : R} (h : o_28_3 G T k = some r) : ∃ p0 p1, T = T_28_3 p0 p1 ∧ G p0 p1 k = some r := by
  unfold o_28_3 at h
  split at h
  · obtain ⟨hs, h'⟩ := gd_some h
    refine ⟨_, _, (st_of (asg := [(3, _), (4, _)]) hs ⟨by assumption, by assumption, trivial⟩ (by assumption)).trans ?_, h'⟩
    kernel_rfl
  · cases h
noncomputable def T_28_2 (p0 : Zt28_1) (p1 : Zt28_0) : St := St.mk ([jk, jk, jk, CV.ptr (0 : Nat) [], CV.ptr (1 : Nat) []] ++ (jl 148)) [Blk.mem (CV.pure Zy28_3 p0), Blk.mem (CV.pure Zy28_2 p1)] (0 : Nat)
noncomputable def X_28_2_0 : St := St.mk (jl 6 ++ ([CV.bool false] ++ (jl 146))) [] (0 : Nat)
noncomputable def X_28_2_1 (y8 : Zt28_1) (y9 : Zt28_0) : St := St.mk (jl 6 ++ ([CV.bool ((↑(List.length (y9.2.2.2.2.2.1)) : Int) == y8.2.2.2.2.2.2.2.1)] ++ (jl 146))) [] (0 : Nat)
noncomputable def X_28_2_2 (y10 : Zt28_1) (y11 : Zt28_0) : St := St.mk ([jk, jk, jk, CV.ptr (0 : Nat) [], CV.ptr (1 : Nat) []] ++ (jl 100 ++ ([CV.bool false, CV.pure Zy28_2 y11, CV.bool ((Sp.v_41 y11).1)] ++ (jl 45)))) [Blk.mem (CV.pure Zy28_3 y10), Blk.mem (CV.pure Zy28_2 y11)] (0 : Nat)
inductive Sp.E_28_2 where
  | e0
  | e1 (y8 : Zt28_1) (y9 : Zt28_0)
  | e2 (y10 : Zt28_1) (y11 : Zt28_0)
noncomputable def Sp.B_28_2 {R : Type} (r : Option Sp.E_28_2) (k0 : Option R) (k1 : (Zt28_1) → (Zt28_0) → Option R) (k2 : (Zt28_1) → (Zt28_0) → Option R) : Option R := match r with
  | none => none
  | some (.e0) => k0
  | some (.e1 y8 y9) => k1 y8 y9
  | some (.e2 y10 y11) => k2 y10 y11
noncomputable def Sp.J_28_2 (p0 : Int × Int × Int × Int × Int × Int × Bool × Int × Unit) (p1 : Int × Int × Int × Int × Int × List Int × Int × Unit) : Option Sp.E_28_2 :=
  gd (Sp.p_40 p1 (2 : Int)) (bif (Sp.v_40 p1 (2 : Int)).1 then bif p1.2.2.2.1 != (0 : Int) then some (Sp.E_28_2.e0) else Sp.B_28_3 (Sp.J_28_3 p0 p1) (fun y8 y9 => some (Sp.E_28_2.e1 y8 y9)) (some (Sp.E_28_2.e0)) fun y10 y11 => some (Sp.E_28_2.e2 y10 y11) else Sp.B_28_3 (Sp.J_28_3 p0 p1) (fun y12 y13 => some (Sp.E_28_2.e1 y12 y13)) (some (Sp.E_28_2.e0)) fun y14 y15 => some (Sp.E_28_2.e2 y14 y15))
noncomputable def G_28_2 {R : Type} (p0 : Zt28_1) (p1 : Zt28_0) (k : Ex → St → Option R) : Option R := Sp.B_28_2 (Sp.J_28_2 p0 p1) (k Ex.ret (X_28_2_0)) (fun y8 y9 => k Ex.ret (X_28_2_1 y8 y9)) (fun y10 y11 => k Ex.normal (X_28_2_2 y10 y11))
noncomputable def o_28_2 {R : Type} (G : (Zt28_1) → (Zt28_0) → (Ex → St → Option R) → Option R) : St → (Ex → St → Option R) → Option R := fun T k => match T.sl.getD 3 .junk, T.sl.getD 4 .junk, T.hp with
  | CV.ptr (0 : Nat) [], CV.ptr (1 : Nat) [], ((Blk.mem (CV.pure (Ty.pair (Ty.int IntKind.i64) (Ty.pair (Ty.int IntKind.i64) (Ty.pair (Ty.int IntKind.i64) (Ty.pair (Ty.int IntKind.i64) (Ty.pair (Ty.int IntKind.i64) (Ty.pair (Ty.int IntKind.i64) (Ty.pair Ty.bool (Ty.pair (Ty.int IntKind.i64) Ty.unit)))))))) p0)) :: (Blk.mem (CV.pure (Ty.pair (Ty.int IntKind.i64) (Ty.pair (Ty.int IntKind.i64) (Ty.pair (Ty.int IntKind.i64) (Ty.pair (Ty.int IntKind.i64) (Ty.pair (Ty.int IntKind.i64) (Ty.pair (Ty.slice (Ty.int IntKind.i64)) (Ty.pair (Ty.int IntKind.i64) Ty.unit))))))) p1)) :: []) => gd (shapeOK T 153 [3, 4] (0 : Nat)) (G p0 p1 k)
  | _, _, _ => none
theorem o_28_2_inv {R : Type} {G : (Zt28_1) → (Zt28_0) → (Ex → St → Option R) → Option R} {T : St} {k : Ex → St → Option R} {r : R} (h : o_28_2 G T k = some r) : ∃ p0 p1, T = T_28_2 p0 p1 ∧ G p0 p1 k = some r := by
  unfold o_28_2 at h
  split at h
  · obtain ⟨hs, h'⟩ := gd_some h
    refine ⟨_, _, (st_of (asg := [(3, _), (4, _)]) hs ⟨by assumption, by assumption, trivial⟩ (by assumption)).trans ?_, h'⟩
    kernel_rfl
  · cases h
noncomputable def T_28_1 (p0 : Zt28_1) (p1 : Zt28_0) : St := St.mk ([jk, jk, jk, CV.ptr (0 : Nat) [], CV.ptr (1 : Nat) []] ++ (jl 148)) [Blk.mem (CV.pure Zy28_3 p0), Blk.mem (CV.pure Zy28_2 p1)] (0 : Nat)
noncomputable def X_28_1_0 : St := St.mk (jl 6 ++ ([CV.bool false] ++ (jl 146))) [] (0 : Nat)
noncomputable def X_28_1_1 (y8 : Zt28_1) (y9 : Zt28_0) : St := St.mk (jl 6 ++ ([CV.bool ((↑(List.length (y9.2.2.2.2.2.1)) : Int) == y8.2.2.2.2.2.2.2.1)] ++ (jl 146))) [] (0 : Nat)
noncomputable def X_28_1_2 (y10 : Zt28_1) (y11 : Zt28_0) : St := St.mk ([jk, jk, jk, CV.ptr (0 : Nat) [], CV.ptr (1 : Nat) []] ++ (jl 100 ++ ([CV.bool false, CV.pure Zy28_2 y11, CV.bool ((Sp.v_41 y11).1)] ++ (jl 45)))) [Blk.mem (CV.pure Zy28_3 y10), Blk.mem (CV.pure Zy28_2 y11)] (0 : Nat)
inductive Sp.E_28_1 where
  | e0
  | e1 (y8 : Zt28_1) (y9 : Zt28_0)
  | e2 (y10 : Zt28_1) (y11 : Zt28_0)
noncomputable def Sp.B_28_1 {R : Type} (r : Option Sp.E_28_1) (k0 : Option R) (k1 : (Zt28_1) → (Zt28_0) → Option R) (k2 : (Zt28_1) → (Zt28_0) → Option R) : Option R := match r with
  | none => none
  | some (.e0) => k0
  | some (.e1 y8 y9) => k1 y8 y9
  | some (.e2 y10 y11) => k2 y10 y11
noncomputable def Sp.J_28_1 (p0 : Int × Int × Int × Int × Int × Int × Bool × Int × Unit) (p1 : Int × Int × Int × Int × Int × List Int × Int × Unit) : Option Sp.E_28_1 :=
  gd (Sp.p_40 p1 (4 : Int)) (bif !(Sp.v_40 p1 (4 : Int)).1 == (p1.2.2.1 == (2 : Int)) then some (Sp.E_28_1.e0) else gd (Sp.p_40 p1 (16 : Int)) (bif (Sp.v_40 p1 (16 : Int)).1 then gd (Sp.p_40 p1 (4 : Int)) (bif !(Sp.v_40 p1 (4 : Int)).1 then some (Sp.E_28_1.e0) else bif !p0.2.2.2.2.2.2.1 then some (Sp.E_28_1.e0) else Sp.B_28_2 (Sp.J_28_2 p0 p1) (some (Sp.E_28_1.e0)) (fun y8 y9 => some (Sp.E_28_1.e1 y8 y9)) fun y10 y11 => some (Sp.E_28_1.e2 y10 y11)) else Sp.B_28_2 (Sp.J_28_2 p0 p1) (some (Sp.E_28_1.e0)) (fun y12 y13 => some (Sp.E_28_1.e1 y12 y13)) fun y14 y15 => some (Sp.E_28_1.e2 y14 y15)))
noncomputable def G_28_1 {R : Type} (p0 : Zt28_1) (p1 : Zt28_0) (k : Ex → St → Option R) : Option R := Sp.B_28_1 (Sp.J_28_1 p0 p1) (k Ex.ret (X_28_1_0)) (fun y8 y9 => k Ex.ret (X_28_1_1 y8 y9)) (fun y10 y11 => k Ex.normal (X_28_1_2 y10 y11))
noncomputable def o_28_1 {R : Type} (G : (Zt28_1) → (Zt28_0) → (Ex → St → Option R) → Option R) : St → (Ex → St → Option R) → Option R := fun T k => match T.sl.getD 3 .junk, T.sl.getD 4 .junk, T.hp with
  | CV.ptr (0 : Nat) [], CV.ptr (1 : Nat) [], ((Blk.mem (CV.pure (Ty.pair (Ty.int IntKind.i64) (Ty.pair (Ty.int IntKind.i64) (Ty.pair (Ty.int IntKind.i64) (Ty.pair (Ty.int IntKind.i64) (Ty.pair (Ty.int IntKind.i64) (Ty.pair (Ty.int IntKind.i64) (Ty.pair Ty.bool (Ty.pair (Ty.int IntKind.i64) Ty.unit)))))))) p0)) :: (Blk.mem (CV.pure (Ty.pair (Ty.int IntKind.i64) (Ty.pair (Ty.int IntKind.i64) (Ty.pair (Ty.int IntKind.i64) (Ty.pair (Ty.int IntKind.i64) (Ty.pair (Ty.int IntKind.i64) (Ty.pair (Ty.slice (Ty.int IntKind.i64)) (Ty.pair (Ty.int IntKind.i64) Ty.unit))))))) p1)) :: []) => gd (shapeOK T 153 [3, 4] (0 : Nat)) (G p0 p1 k)
  | _, _, _ => none
theorem o_28_1_inv {R : Type} {G : (Zt28_1) → (Zt28_0) → (Ex → St → Option R) → Option R} {T : St} {k : Ex → St → Option R} {r : R} (h : o_28_1 G T k = some r) : ∃ p0 p1, T = T_28_1 p0 p1 ∧ G p0 p1 k = some r := by
  unfold o_28_1 at h
  split at h
  · obtain ⟨hs, h'⟩ := gd_some h
    refine ⟨_, _, (st_of (asg := [(3, _), (4, _)]) hs ⟨by assumption, by assumption, trivial⟩ (by assumption)).trans ?_, h'⟩
    kernel_rfl
  · cases h
noncomputable def T_28_0 (p0 : Int) (p1 : Zt28_1) (p2 : Zt28_0) : St := St.mk ([jk, jk, CV.int IntKind.i64 p0, CV.ptr (0 : Nat) [], CV.ptr (1 : Nat) []] ++ (jl 148)) [Blk.mem (CV.pure Zy28_3 p1), Blk.mem (CV.pure Zy28_2 p2)] (0 : Nat)
noncomputable def X_28_0_0 : St := St.mk (jl 6 ++ ([CV.bool false] ++ (jl 146))) [] (0 : Nat)
noncomputable def X_28_0_1 (y8 : Zt28_1) (y9 : Zt28_0) : St := St.mk (jl 6 ++ ([CV.bool ((↑(List.length (y9.2.2.2.2.2.1)) : Int) == y8.2.2.2.2.2.2.2.1)] ++ (jl 146))) [] (0 : Nat)
noncomputable def X_28_0_2 (y11 : Zt28_0) : St := St.mk (jl 6 ++ ([CV.bool ((↑(List.length (y11.2.2.2.2.2.1)) : Int) == (0 : Int))] ++ (jl 146))) [] (0 : Nat)
inductive Sp.E_28_0 where
  | e0
  | e1 (y8 : Zt28_1) (y9 : Zt28_0)
  | e2 (y11 : Zt28_0)
noncomputable def Sp.B_28_0 {R : Type} (r : Option Sp.E_28_0) (k0 : Option R) (k1 : (Zt28_1) → (Zt28_0) → Option R) (k2 : (Zt28_0) → Option R) : Option R := match r with
  | none => none
  | some (.e0) => k0
  | some (.e1 y8 y9) => k1 y8 y9
  | some (.e2 y11) => k2 y11
noncomputable def Sp.J_28_0 (p0 : Int) (p1 : Int × Int × Int × Int × Int × Int × Bool × Int × Unit) (p2 : Int × Int × Int × Int × Int × List Int × Int × Unit) : Option Sp.E_28_0 :=
  gd (Sp.p_40 p2 (1 : Int)) (bif (Sp.v_40 p2 (1 : Int)).1 then gd (Sp.p_40 p2 (10 : Int)) (bif !(Sp.v_40 p2 (10 : Int)).1 then some (Sp.E_28_0.e0) else bif p2.2.2.2.2.2.2.1 != p0 then some (Sp.E_28_0.e0) else Sp.B_28_1 (Sp.J_28_1 p1 p2) (some (Sp.E_28_0.e0)) (fun y8 y9 => some (Sp.E_28_0.e1 y8 y9)) fun y10 y11 => bif y11.2.2.1 == (0 : Int) then bif y11.2.2.2.1 == (0 : Int) then bif y11.2.2.2.2.1 == (0 : Int) then bif y11.2.2.2.2.2.2.1 == (0 : Int) then some (Sp.E_28_0.e2 y11) else some (Sp.E_28_0.e0) else some (Sp.E_28_0.e0) else some (Sp.E_28_0.e0) else some (Sp.E_28_0.e0)) else Sp.B_28_1 (Sp.J_28_1 p1 p2) (some (Sp.E_28_0.e0)) (fun y12 y13 => some (Sp.E_28_0.e1 y12 y13)) fun y14 y15 => bif y15.2.2.1 == (0 : Int) then bif y15.2.2.2.1 == (0 : Int) then bif y15.2.2.2.2.1 == (0 : Int) then bif y15.2.2.2.2.2.2.1 == (0 : Int) then some (Sp.E_28_0.e2 y15) else some (Sp.E_28_0.e0) else some (Sp.E_28_0.e0) else some (Sp.E_28_0.e0) else some (Sp.E_28_0.e0))
noncomputable def G_28_0 {R : Type} (p0 : Int) (p1 : Zt28_1) (p2 : Zt28_0) (k : Ex → St → Option R) : Option R := Sp.B_28_0 (Sp.J_28_0 p0 p1 p2) (k Ex.ret (X_28_0_0)) (fun y8 y9 => k Ex.ret (X_28_0_1 y8 y9)) (fun y11 => k Ex.ret (X_28_0_2 y11))
noncomputable def o_28_0 {R : Type} (G : (Int) → (Zt28_1) → (Zt28_0) → (Ex → St → Option R) → Option R) : St → (Ex → St → Option R) → Option R := fun T k => match T.sl.getD 2 .junk, T.sl.getD 3 .junk, T.sl.getD 4 .junk, T.hp with
  | CV.int IntKind.i64 p0, CV.ptr (0 : Nat) [], CV.ptr (1 : Nat) [], ((Blk.mem (CV.pure (Ty.pair (Ty.int IntKind.i64) (Ty.pair (Ty.int IntKind.i64) (Ty.pair (Ty.int IntKind.i64) (Ty.pair (Ty.int IntKind.i64) (Ty.pair (Ty.int IntKind.i64) (Ty.pair (Ty.int IntKind.i64) (Ty.pair Ty.bool (Ty.pair (Ty.int IntKind.i64) Ty.unit)))))))) p1)) :: (Blk.mem (CV.pure (Ty.pair (Ty.int IntKind.i64) (Ty.pair (Ty.int IntKind.i64) (Ty.pair (Ty.int IntKind.i64) (Ty.pair (Ty.int IntKind.i64) (Ty.pair (Ty.int IntKind.i64) (Ty.pair (Ty.slice (Ty.int IntKind.i64)) (Ty.pair (Ty.int IntKind.i64) Ty.unit))))))) p2)) :: []) => gd (shapeOK T 153 [2, 3, 4] (0 : Nat)) (G p0 p1 p2 k)
  | _, _, _, _ => none
theorem o_28_0_inv {R : Type} {G : (Int) → (Zt28_1) → (Zt28_0) → (Ex → St → Option R) → Option R} {T : St} {k : Ex → St → Option R} {r : R} (h : o_28_0 G T k = some r) : ∃ p0 p1 p2, T = T_28_0 p0 p1 p2 ∧ G p0 p1 p2 k = some r := by
  unfold o_28_0 at h
  split at h
  · obtain ⟨hs, h'⟩ := gd_some h
    refine ⟨_, _, _, (st_of (asg := [(2, _), (3, _), (4, _)]) hs ⟨by assumption, by assumption, by assumption, trivial⟩ (by assumption)).trans ?_, h'⟩
    kernel_rfl
  · cases h
noncomputable def O_28_28_3 {R : Type} : St → (Ex → St → Option R) → Option R := fun T k => o_28_3 G_28_3 T k
noncomputable def O_28_28_2 {R : Type} : St → (Ex → St → Option R) → Option R := fun T k => o_28_2 G_28_2 T k
noncomputable def O_28_28_1 {R : Type} : St → (Ex → St → Option R) → Option R := fun T k => o_28_1 G_28_1 T k
noncomputable def O_28_28_0 {R : Type} : St → (Ex → St → Option R) → Option R := fun T k => o_28_0 G_28_0 T k
theorem body_28_3 {R : Type} (K1 : Ex → St → Option R) (p0 : Zt28_1) (p1 : Zt28_0) : evJ (evCodeL sm_28 FU (ovr noO (evFn sm_28 fns FU 0)) .nil ir28_b3) (T_28_3 p0 p1) K1 =
  gd (Sp.p_41 p1) (bif (Sp.v_41 p1).1 then bif decide (p1.2.2.2.2.1 ≥ (1 : Int)) then bif decide (p1.2.2.1 ≥ (1 : Int)) then bif decide (p1.2.2.2.2.2.2.1 ≥ (1 : Int)) then K1 Ex.ret (X_28_3_0 p0 p1) else K1 Ex.ret X_28_3_1 else K1 Ex.ret X_28_3_1 else K1 Ex.ret X_28_3_1 else K1 Ex.normal (X_28_3_2 p0 p1)) := by kernel_rfl
theorem Bgd_28_3 {R : Type} {c : Bool} {x : Option R} {y : Option Sp.E_28_3} {k0 : (Zt28_1) → (Zt28_0) → Option R} {k1 : Option R} {k2 : (Zt28_1) → (Zt28_0) → Option R} (h : x = Sp.B_28_3 y k0 k1 k2) : gd c x = Sp.B_28_3 (gd c y) k0 k1 k2 := by cases c; rfl; exact h
theorem Bcond_28_3 {R : Type} {c : Bool} {x x' : Option R} {y y' : Option Sp.E_28_3} {k0 : (Zt28_1) → (Zt28_0) → Option R} {k1 : Option R} {k2 : (Zt28_1) → (Zt28_0) → Option R} (h : x = Sp.B_28_3 y k0 k1 k2) (h' : x' = Sp.B_28_3 y' k0 k1 k2) : (bif c then x else x') = Sp.B_28_3 (bif c then y else y') k0 k1 k2 := by cases c; exact h'; exact h
theorem loop_28_3 {R : Type} (k : Ex → St → Option R) (p0 : Zt28_1) (p1 : Zt28_0) : evJ (evCodeL sm_28 FU (ovr noO (evFn sm_28 fns FU 0)) .nil ir28_b3) (T_28_3 p0 p1) k = Sp.B_28_3 (Sp.J_28_3 p0 p1) (fun p0 p1 => k Ex.ret (X_28_3_0 p0 p1)) (k Ex.ret (X_28_3_1)) (fun p0 p1 => k Ex.normal (X_28_3_2 p0 p1)) := by
  rw [body_28_3, Sp.J_28_3]
  repeat' first | apply Bgd_28_3 | apply Bcond_28_3 | rfl
theorem ok_28_3 {R : Type} (T : St) (k : Ex → St → Option R) (r : R) (h0 : o_28_3 G_28_3 T k = some r) : evCode sm_28 FU (evFn sm_28 fns FU 0) ir28_b3 T k = some r := by
  obtain ⟨p0, p1, rfl, h⟩ := o_28_3_inv h0
  refine bodyL_sound (t := .nil) noO_ok trivial (((show ∀ (b : St → (Ex → St → Option R) → Option R) (T : St) (k : Ex → St → Option R), b T k = evJ b T k from fun _ _ _ => rfl) _ _ _).trans ((loop_28_3 k p0 p1).trans h))
theorem OK_28_28_3 {R : Type} (T : St) (k : Ex → St → Option R) (r : R) (h : O_28_28_3 T k = some r) : evCode sm_28 FU (evFn sm_28 fns FU 0) ir28_b3 T k = some r := ok_28_3 T k r h
theorem body_28_2 {R : Type} (K1 : Ex → St → Option R) (p0 : Zt28_1) (p1 : Zt28_0) : evJ (evCodeL sm_28 FU (ovr noO (evFn sm_28 fns FU 0)) (ir28_bt2 O_28_28_3) ir28_b2) (T_28_2 p0 p1) K1 =
  gd (Sp.p_40 p1 (2 : Int)) (bif (Sp.v_40 p1 (2 : Int)).1 then bif p1.2.2.2.1 != (0 : Int) then K1 Ex.ret X_28_2_0 else Sp.B_28_3 (Sp.J_28_3 p0 p1) (fun y8 y9 => K1 Ex.ret (X_28_2_1 y8 y9)) (K1 Ex.ret X_28_2_0) fun y10 y11 => K1 Ex.normal (X_28_2_2 y10 y11) else Sp.B_28_3 (Sp.J_28_3 p0 p1) (fun y12 y13 => K1 Ex.ret (X_28_2_1 y12 y13)) (K1 Ex.ret X_28_2_0) fun y14 y15 => K1 Ex.normal (X_28_2_2 y14 y15)) := by kernel_rfl
theorem Bgd_28_2 {R : Type} {c : Bool} {x : Option R} {y : Option Sp.E_28_2} {k0 : Option R} {k1 : (Zt28_1) → (Zt28_0) → Option R} {k2 : (Zt28_1) → (Zt28_0) → Option R} (h : x = Sp.B_28_2 y k0 k1 k2) : gd c x = Sp.B_28_2 (gd c y) k0 k1 k2 := by cases c; rfl; exact h
theorem Bcond_28_2 {R : Type} {c : Bool} {x x' : Option R} {y y' : Option Sp.E_28_2} {k0 : Option R} {k1 : (Zt28_1) → (Zt28_0) → Option R} {k2 : (Zt28_1) → (Zt28_0) → Option R} (h : x = Sp.B_28_2 y k0 k1 k2) (h' : x' = Sp.B_28_2 y' k0 k1 k2) : (bif c then x else x') = Sp.B_28_2 (bif c then y else y') k0 k1 k2 := by cases c; exact h'; exact h
theorem Bin_28_2_28_3 {R : Type} {r : Option Sp.E_28_3} {k0 : Option R} {k1 : (Zt28_1) → (Zt28_0) → Option R} {k2 : (Zt28_1) → (Zt28_0) → Option R} {f0 : (Zt28_1) → (Zt28_0) → Option R} {f1 : Option R} {f2 : (Zt28_1) → (Zt28_0) → Option R} {g0 : (Zt28_1) → (Zt28_0) → Option Sp.E_28_2} {g1 : Option Sp.E_28_2} {g2 : (Zt28_1) → (Zt28_0) → Option Sp.E_28_2} (h0 : ∀ z0 z1, f0 z0 z1 = Sp.B_28_2 (g0 z0 z1) k0 k1 k2) (h1 : f1 = Sp.B_28_2 g1 k0 k1 k2) (h2 : ∀ z0 z1, f2 z0 z1 = Sp.B_28_2 (g2 z0 z1) k0 k1 k2) : Sp.B_28_3 r f0 f1 f2 = Sp.B_28_2 (Sp.B_28_3 r g0 g1 g2) k0 k1 k2 := by
  cases r with
  | none => rfl
  | some e => cases e with
    | e0 z0 z1 => exact h0 _ _
    | e1 => exact h1
    | e2 z0 z1 => exact h2 _ _
theorem loop_28_2 {R : Type} (k : Ex → St → Option R) (p0 : Zt28_1) (p1 : Zt28_0) : evJ (evCodeL sm_28 FU (ovr noO (evFn sm_28 fns FU 0)) (ir28_bt2 O_28_28_3) ir28_b2) (T_28_2 p0 p1) k = Sp.B_28_2 (Sp.J_28_2 p0 p1) (k Ex.ret (X_28_2_0)) (fun y8 y9 => k Ex.ret (X_28_2_1 y8 y9)) (fun y10 y11 => k Ex.normal (X_28_2_2 y10 y11)) := by
  rw [body_28_2, Sp.J_28_2]
  repeat' first | apply Bgd_28_2 | apply Bcond_28_2 | (apply Bin_28_2_28_3 <;> intros) | rfl
theorem ok_28_2 {R : Type} (T : St) (k : Ex → St → Option R) (r : R) (h0 : o_28_2 G_28_2 T k = some r) : evCode sm_28 FU (evFn sm_28 fns FU 0) ir28_b2 T k = some r := by
  obtain ⟨p0, p1, rfl, h⟩ := o_28_2_inv h0
  refine bodyL_sound (t := (ir28_bt2 O_28_28_3)) noO_ok (ir28_bt2ok (fun T k r => OK_28_28_3 T k r)) (((show ∀ (b : St → (Ex → St → Option R) → Option R) (T : St) (k : Ex → St → Option R), b T k = evJ b T k from fun _ _ _ => rfl) _ _ _).trans ((loop_28_2 k p0 p1).trans h))
theorem OK_28_28_2 {R : Type} (T : St) (k : Ex → St → Option R) (r : R) (h : O_28_28_2 T k = some r) : evCode sm_28 FU (evFn sm_28 fns FU 0) ir28_b2 T k = some r := ok_28_2 T k r h
theorem body_28_1 {R : Type} (K1 : Ex → St → Option R) (p0 : Zt28_1) (p1 : Zt28_0) : evJ (evCodeL sm_28 FU (ovr noO (evFn sm_28 fns FU 0)) (ir28_bt1 O_28_28_2) ir28_b1) (T_28_1 p0 p1) K1 =
  gd (Sp.p_40 p1 (4 : Int)) (bif !(Sp.v_40 p1 (4 : Int)).1 == (p1.2.2.1 == (2 : Int)) then K1 Ex.ret X_28_1_0 else gd (Sp.p_40 p1 (16 : Int)) (bif (Sp.v_40 p1 (16 : Int)).1 then gd (Sp.p_40 p1 (4 : Int)) (bif !(Sp.v_40 p1 (4 : Int)).1 then K1 Ex.ret X_28_1_0 else bif !p0.2.2.2.2.2.2.1 then K1 Ex.ret X_28_1_0 else Sp.B_28_2 (Sp.J_28_2 p0 p1) (K1 Ex.ret X_28_1_0) (fun y8 y9 => K1 Ex.ret (X_28_1_1 y8 y9)) fun y10 y11 => K1 Ex.normal (X_28_1_2 y10 y11)) else Sp.B_28_2 (Sp.J_28_2 p0 p1) (K1 Ex.ret X_28_1_0) (fun y12 y13 => K1 Ex.ret (X_28_1_1 y12 y13)) fun y14 y15 => K1 Ex.normal (X_28_1_2 y14 y15))) := by kernel_rfl
theorem Bgd_28_1 {R : Type} {c : Bool} {x : Option R} {y : Option Sp.E_28_1} {k0 : Option R} {k1 : (Zt28_1) → (Zt28_0) → Option R} {k2 : (Zt28_1) → (Zt28_0) → Option R} (h : x = Sp.B_28_1 y k0 k1 k2) : gd c x = Sp.B_28_1 (gd c y) k0 k1 k2 := by cases c; rfl; exact h
theorem Bcond_28_1 {R : Type} {c : Bool} {x x' : Option R} {y y' : Option Sp.E_28_1} {k0 : Option R} {k1 : (Zt28_1) → (Zt28_0) → Option R} {k2 : (Zt28_1) → (Zt28_0) → Option R} (h : x = Sp.B_28_1 y k0 k1 k2) (h' : x' = Sp.B_28_1 y' k0 k1 k2) : (bif c then x else x') = Sp.B_28_1 (bif c then y else y') k0 k1 k2 := by cases c; exact h'; exact h
theorem Bin_28_1_28_2 {R : Type} {r : Option Sp.E_28_2} {k0 : Option R} {k1 : (Zt28_1) → (Zt28_0) → Option R} {k2 : (Zt28_1) → (Zt28_0) → Option R} {f0 : Option R} {f1 : (Zt28_1) → (Zt28_0) → Option R} {f2 : (Zt28_1) → (Zt28_0) → Option R} {g0 : Option Sp.E_28_1} {g1 : (Zt28_1) → (Zt28_0) → Option Sp.E_28_1} {g2 : (Zt28_1) → (Zt28_0) → Option Sp.E_28_1} (h0 : f0 = Sp.B_28_1 g0 k0 k1 k2) (h1 : ∀ z0 z1, f1 z0 z1 = Sp.B_28_1 (g1 z0 z1) k0 k1 k2) (h2 : ∀ z0 z1, f2 z0 z1 = Sp.B_28_1 (g2 z0 z1) k0 k1 k2) : Sp.B_28_2 r f0 f1 f2 = Sp.B_28_1 (Sp.B_28_2 r g0 g1 g2) k0 k1 k2 := by
  cases r with
  | none => rfl
  | some e => cases e with
    | e0 => exact h0
    | e1 z0 z1 => exact h1 _ _
    | e2 z0 z1 => exact h2 _ _
theorem loop_28_1 {R : Type} (k : Ex → St → Option R) (p0 : Zt28_1) (p1 : Zt28_0) : evJ (evCodeL sm_28 FU (ovr noO (evFn sm_28 fns FU 0)) (ir28_bt1 O_28_28_2) ir28_b1) (T_28_1 p0 p1) k = Sp.B_28_1 (Sp.J_28_1 p0 p1) (k Ex.ret (X_28_1_0)) (fun y8 y9 => k Ex.ret (X_28_1_1 y8 y9)) (fun y10 y11 => k Ex.normal (X_28_1_2 y10 y11)) := by
  rw [body_28_1, Sp.J_28_1]
  repeat' first | apply Bgd_28_1 | apply Bcond_28_1 | (apply Bin_28_1_28_2 <;> intros) | rfl
theorem ok_28_1 {R : Type} (T : St) (k : Ex → St → Option R) (r : R) (h0 : o_28_1 G_28_1 T k = some r) : evCode sm_28 FU (evFn sm_28 fns FU 0) ir28_b1 T k = some r := by
  obtain ⟨p0, p1, rfl, h⟩ := o_28_1_inv h0
  refine bodyL_sound (t := (ir28_bt1 O_28_28_2)) noO_ok (ir28_bt1ok (fun T k r => OK_28_28_2 T k r)) (((show ∀ (b : St → (Ex → St → Option R) → Option R) (T : St) (k : Ex → St → Option R), b T k = evJ b T k from fun _ _ _ => rfl) _ _ _).trans ((loop_28_1 k p0 p1).trans h))
theorem OK_28_28_1 {R : Type} (T : St) (k : Ex → St → Option R) (r : R) (h : O_28_28_1 T k = some r) : evCode sm_28 FU (evFn sm_28 fns FU 0) ir28_b1 T k = some r := ok_28_1 T k r h
theorem body_28_0 {R : Type} (K1 : Ex → St → Option R) (p0 : Int) (p1 : Zt28_1) (p2 : Zt28_0) : evJ (evCodeL sm_28 FU (ovr noO (evFn sm_28 fns FU 0)) (ir28_bt0 O_28_28_1) ir28_b0) (T_28_0 p0 p1 p2) K1 =
  gd (Sp.p_40 p2 (1 : Int)) (bif (Sp.v_40 p2 (1 : Int)).1 then gd (Sp.p_40 p2 (10 : Int)) (bif !(Sp.v_40 p2 (10 : Int)).1 then K1 Ex.ret X_28_0_0 else bif p2.2.2.2.2.2.2.1 != p0 then K1 Ex.ret X_28_0_0 else Sp.B_28_1 (Sp.J_28_1 p1 p2) (K1 Ex.ret X_28_0_0) (fun y8 y9 => K1 Ex.ret (X_28_0_1 y8 y9)) fun y10 y11 => bif y11.2.2.1 == (0 : Int) then bif y11.2.2.2.1 == (0 : Int) then bif y11.2.2.2.2.1 == (0 : Int) then bif y11.2.2.2.2.2.2.1 == (0 : Int) then K1 Ex.ret (X_28_0_2 y11) else K1 Ex.ret X_28_0_0 else K1 Ex.ret X_28_0_0 else K1 Ex.ret X_28_0_0 else K1 Ex.ret X_28_0_0) else Sp.B_28_1 (Sp.J_28_1 p1 p2) (K1 Ex.ret X_28_0_0) (fun y12 y13 => K1 Ex.ret (X_28_0_1 y12 y13)) fun y14 y15 => bif y15.2.2.1 == (0 : Int) then bif y15.2.2.2.1 == (0 : Int) then bif y15.2.2.2.2.1 == (0 : Int) then bif y15.2.2.2.2.2.2.1 == (0 : Int) then K1 Ex.ret (X_28_0_2 y15) else K1 Ex.ret X_28_0_0 else K1 Ex.ret X_28_0_0 else K1 Ex.ret X_28_0_0 else K1 Ex.ret X_28_0_0) := by kernel_rfl
theorem Bgd_28_0 {R : Type} {c : Bool} {x : Option R} {y : Option Sp.E_28_0} {k0 : Option R} {k1 : (Zt28_1) → (Zt28_0) → Option R} {k2 : (Zt28_0) → Option R} (h : x = Sp.B_28_0 y k0 k1 k2) : gd c x = Sp.B_28_0 (gd c y) k0 k1 k2 := by cases c; rfl; exact h
theorem Bcond_28_0 {R : Type} {c : Bool} {x x' : Option R} {y y' : Option Sp.E_28_0} {k0 : Option R} {k1 : (Zt28_1) → (Zt28_0) → Option R} {k2 : (Zt28_0) → Option R} (h : x = Sp.B_28_0 y k0 k1 k2) (h' : x' = Sp.B_28_0 y' k0 k1 k2) : (bif c then x else x') = Sp.B_28_0 (bif c then y else y') k0 k1 k2 := by cases c; exact h'; exact h
theorem Bin_28_0_28_1 {R : Type} {r : Option Sp.E_28_1} {k0 : Option R} {k1 : (Zt28_1) → (Zt28_0) → Option R} {k2 : (Zt28_0) → Option R} {f0 : Option R} {f1 : (Zt28_1) → (Zt28_0) → Option R} {f2 : (Zt28_1) → (Zt28_0) → Option R} {g0 : Option Sp.E_28_0} {g1 : (Zt28_1) → (Zt28_0) → Option Sp.E_28_0} {g2 : (Zt28_1) → (Zt28_0) → Option Sp.E_28_0} (h0 : f0 = Sp.B_28_0 g0 k0 k1 k2) (h1 : ∀ z0 z1, f1 z0 z1 = Sp.B_28_0 (g1 z0 z1) k0 k1 k2) (h2 : ∀ z0 z1, f2 z0 z1 = Sp.B_28_0 (g2 z0 z1) k0 k1 k2) : Sp.B_28_1 r f0 f1 f2 = Sp.B_28_0 (Sp.B_28_1 r g0 g1 g2) k0 k1 k2 := by
  cases r with
  | none => rfl
  | some e => cases e with
    | e0 => exact h0
    | e1 z0 z1 => exact h1 _ _
    | e2 z0 z1 => exact h2 _ _
theorem loop_28_0 {R : Type} (k : Ex → St → Option R) (p0 : Int) (p1 : Zt28_1) (p2 : Zt28_0) : evJ (evCodeL sm_28 FU (ovr noO (evFn sm_28 fns FU 0)) (ir28_bt0 O_28_28_1) ir28_b0) (T_28_0 p0 p1 p2) k = Sp.B_28_0 (Sp.J_28_0 p0 p1 p2) (k Ex.ret (X_28_0_0)) (fun y8 y9 => k Ex.ret (X_28_0_1 y8 y9)) (fun y11 => k Ex.ret (X_28_0_2 y11)) := by
  rw [body_28_0, Sp.J_28_0]
  repeat' first | apply Bgd_28_0 | apply Bcond_28_0 | (apply Bin_28_0_28_1 <;> intros) | rfl
theorem ok_28_0 {R : Type} (T : St) (k : Ex → St → Option R) (r : R) (h0 : o_28_0 G_28_0 T k = some r) : evCode sm_28 FU (evFn sm_28 fns FU 0) ir28_b0 T k = some r := by
  obtain ⟨p0, p1, p2, rfl, h⟩ := o_28_0_inv h0
  refine bodyL_sound (t := (ir28_bt0 O_28_28_1)) noO_ok (ir28_bt0ok (fun T k r => OK_28_28_1 T k r)) (((show ∀ (b : St → (Ex → St → Option R) → Option R) (T : St) (k : Ex → St → Option R), b T k = evJ b T k from fun _ _ _ => rfl) _ _ _).trans ((loop_28_0 k p0 p1 p2).trans h))
theorem OK_28_28_0 {R : Type} (T : St) (k : Ex → St → Option R) (r : R) (h : O_28_28_0 T k = some r) : evCode sm_28 FU (evFn sm_28 fns FU 0) ir28_b0 T k = some r := ok_28_0 T k r h
noncomputable def F_28 (a0 : (Int × (Int × (Int × (Int × (Int × (Int × (Bool × (Int × Unit))))))))) (a1 : (Int × (Int × (Int × (Int × (Int × ((List Int) × (Int × Unit)))))))) (a2 : Int) : Option (Bool × Unit) :=
  gd (Sp.p_27 (a1.1) (0 : Int) (31 : Int)) (bif !(Sp.v_27 (a1.1) (0 : Int) (31 : Int)).1 then some (false, PUnit.unit) else gd (Sp.p_27 (a1.2.1) (IntKind.wrap IntKind.i64 ((0 : Int) - a0.2.2.1)) (a0.2.1)) (bif !(Sp.v_27 (a1.2.1) (IntKind.wrap IntKind.i64 ((0 : Int) - a0.2.2.1)) (a0.2.1)).1 then some (false, PUnit.unit) else gd (Sp.p_27 (a1.2.2.1) (0 : Int) (2 : Int)) (bif !(Sp.v_27 (a1.2.2.1) (0 : Int) (2 : Int)).1 then some (false, PUnit.unit) else gd (Sp.p_27 (a1.2.2.2.1) (0 : Int) (IntKind.wrap IntKind.i64 (a0.2.2.2.2.1 - (1 : Int)))) (bif !(Sp.v_27 (a1.2.2.2.1) (0 : Int) (IntKind.wrap IntKind.i64 (a0.2.2.2.2.1 - (1 : Int)))).1 then some (false, PUnit.unit) else gd (Sp.p_27 (a1.2.2.2.2.1) (0 : Int) (255 : Int)) (bif !(Sp.v_27 (a1.2.2.2.2.1) (0 : Int) (255 : Int)).1 then some (false, PUnit.unit) else gd (Sp.p_27 (a1.2.2.2.2.2.2.1) (0 : Int) a2) (bif !(Sp.v_27 (a1.2.2.2.2.2.2.1) (0 : Int) a2).1 then some (false, PUnit.unit) else bif decide ((↑(List.length (a1.2.2.2.2.2.1)) : Int) > (0 : Int)) then gd (Sp.p_39 a0 (a1.2.2.2.2.2.1)) (bif !(Sp.v_39 a0 (a1.2.2.2.2.2.1)).1 then some (false, PUnit.unit) else Sp.B_28_0 (Sp.J_28_0 a2 a0 a1) (some (false, PUnit.unit)) (fun y14 y15 => some ((↑(List.length (y15.2.2.2.2.2.1)) : Int) == y14.2.2.2.2.2.2.2.1, PUnit.unit)) fun y16 => some ((↑(List.length (y16.2.2.2.2.2.1)) : Int) == (0 : Int), PUnit.unit)) else Sp.B_28_0 (Sp.J_28_0 a2 a0 a1) (some (false, PUnit.unit)) (fun y17 y18 => some ((↑(List.length (y18.2.2.2.2.2.1)) : Int) == y17.2.2.2.2.2.2.2.1, PUnit.unit)) fun y19 => some ((↑(List.length (y19.2.2.2.2.2.1)) : Int) == (0 : Int), PUnit.unit)))))))
theorem fn_28 (a0 : (Int × (Int × (Int × (Int × (Int × (Int × (Bool × (Int × Unit))))))))) (a1 : (Int × (Int × (Int × (Int × (Int × ((List Int) × (Int × Unit)))))))) (a2 : Int) : evFnL sm_28 FU (ovr noO (evFn sm_28 fns FU 0)) (ir28_t O_28_28_0) ir28 (ofH [Zy28_4, Zy28_5, (.int .i64)] (a0, a1, a2, ())) [] (pureK [.bool]) = F_28 a0 a1 a2 := by kernel_rfl
noncomputable def Sp.p_28 (a0 : (Int × (Int × (Int × (Int × (Int × (Int × (Bool × (Int × Unit))))))))) (a1 : (Int × (Int × (Int × (Int × (Int × ((List Int) × (Int × Unit)))))))) (a2 : Int) : Bool := (F_28 a0 a1 a2).isSome
noncomputable def Sp.v_28 (a0 : (Int × (Int × (Int × (Int × (Int × (Int × (Bool × (Int × Unit))))))))) (a1 : (Int × (Int × (Int × (Int × (Int × ((List Int) × (Int × Unit)))))))) (a2 : Int) : Bool × Unit := (F_28 a0 a1 a2).getD (dfH [.bool])
noncomputable def s_28 : Summ := shN [Zy28_4, Zy28_5, (.int .i64)] [.bool] (fun x => Sp.p_28 x.1 x.2.1 x.2.2.1) (fun x => Sp.v_28 x.1 x.2.1 x.2.2.1)
theorem pv_28 (a0 : (Int × (Int × (Int × (Int × (Int × (Int × (Bool × (Int × Unit))))))))) (a1 : (Int × (Int × (Int × (Int × (Int × ((List Int) × (Int × Unit)))))))) (a2 : Int) {y : Bool × Unit} (h : F_28 a0 a1 a2 = some y) : Sp.p_28 a0 a1 a2 = true ∧ Sp.v_28 a0 a1 a2 = y := ⟨by rw [Sp.p_28, h]; rfl, by rw [Sp.v_28, h]; rfl⟩
theorem run_28 (x : HDen [Zy28_4, Zy28_5, (.int .i64)]) (y : HDen [.bool]) (h : F_28 x.1 x.2.1 x.2.2.1 = some y) : evFn sm_28 fns FU 1 28 (ofH [Zy28_4, Zy28_5, (.int .i64)] x) [] (pureK [.bool]) = some y :=
  evFnL_sound (fn := ir28) (t := (ir28_t O_28_28_0)) (o := noO) rfl noO_ok (ir28_tok (fun T k r => OK_28_28_0 T k r)) ((fn_28 _ _ _).trans h)
end
end Go.Ev
namespace Go.Ev
open Go
set_option maxRecDepth 100000
set_option maxHeartbeats 4000000
set_option linter.unusedVariables false
noncomputable section

noncomputable def sm_38 : Nat → Option Summ := fun f => bif Nat.beq f 27 then some s_27 else none


noncomputable def F_38 (a0 : (Int × (Int × (Int × (Int × (Int × (Int × (Bool × (Int × Unit))))))))) : Option (Bool × Unit) :=
  gd (Sp.p_27 (a0.1) (1 : Int) (16777215 : Int)) (bif (Sp.v_27 (a0.1) (1 : Int) (16777215 : Int)).1 then gd (Sp.p_27 (a0.2.1) (1 : Int) (100 : Int)) (bif (Sp.v_27 (a0.2.1) (1 : Int) (100 : Int)).1 then gd (Sp.p_27 (a0.2.2.1) (1 : Int) (100 : Int)) (bif (Sp.v_27 (a0.2.2.1) (1 : Int) (100 : Int)).1 then gd (Sp.p_27 (a0.2.2.2.1) (1 : Int) (100 : Int)) (bif (Sp.v_27 (a0.2.2.2.1) (1 : Int) (100 : Int)).1 then gd (Sp.p_27 (a0.2.2.2.2.1) (a0.2.2.2.1) (255 : Int)) (bif (Sp.v_27 (a0.2.2.2.2.1) (a0.2.2.2.1) (255 : Int)).1 then gd (Sp.p_27 (a0.2.2.2.2.2.1) (0 : Int) (255 : Int)) (bif (Sp.v_27 (a0.2.2.2.2.2.1) (0 : Int) (255 : Int)).1 then gd (Sp.p_27 (a0.2.2.2.2.2.2.2.1) (0 : Int) (8 : Int)) (some ((Sp.v_27 (a0.2.2.2.2.2.2.2.1) (0 : Int) (8 : Int)).1, PUnit.unit)) else some (false, PUnit.unit)) else some (false, PUnit.unit)) else some (false, PUnit.unit)) else some (false, PUnit.unit)) else some (false, PUnit.unit)) else some (false, PUnit.unit))
theorem fn_38 (a0 : (Int × (Int × (Int × (Int × (Int × (Int × (Bool × (Int × Unit))))))))) : evFnL sm_38 FU (ovr noO (evFn sm_38 fns FU 0)) .nil ir38 (ofH [(.pair (.int .i64) (.pair (.int .i64) (.pair (.int .i64) (.pair (.int .i64) (.pair (.int .i64) (.pair (.int .i64) (.pair .bool (.pair (.int .i64) .unit))))))))] (a0, ())) [] (pureK [.bool]) = F_38 a0 := by kernel_rfl
noncomputable def Sp.p_38 (a0 : (Int × (Int × (Int × (Int × (Int × (Int × (Bool × (Int × Unit))))))))) : Bool := (F_38 a0).isSome
noncomputable def Sp.v_38 (a0 : (Int × (Int × (Int × (Int × (Int × (Int × (Bool × (Int × Unit))))))))) : Bool × Unit := (F_38 a0).getD (dfH [.bool])
noncomputable def s_38 : Summ := shN [(.pair (.int .i64) (.pair (.int .i64) (.pair (.int .i64) (.pair (.int .i64) (.pair (.int .i64) (.pair (.int .i64) (.pair .bool (.pair (.int .i64) .unit))))))))] [.bool] (fun x => Sp.p_38 x.1) (fun x => Sp.v_38 x.1)
theorem pv_38 (a0 : (Int × (Int × (Int × (Int × (Int × (Int × (Bool × (Int × Unit))))))))) {y : Bool × Unit} (h : F_38 a0 = some y) : Sp.p_38 a0 = true ∧ Sp.v_38 a0 = y := ⟨by rw [Sp.p_38, h]; rfl, by rw [Sp.v_38, h]; rfl⟩
theorem run_38 (x : HDen [(.pair (.int .i64) (.pair (.int .i64) (.pair (.int .i64) (.pair (.int .i64) (.pair (.int .i64) (.pair (.int .i64) (.pair .bool (.pair (.int .i64) .unit))))))))]) (y : HDen [.bool]) (h : F_38 x.1 = some y) : evFn sm_38 fns FU 1 38 (ofH [(.pair (.int .i64) (.pair (.int .i64) (.pair (.int .i64) (.pair (.int .i64) (.pair (.int .i64) (.pair (.int .i64) (.pair .bool (.pair (.int .i64) .unit))))))))] x) [] (pureK [.bool]) = some y :=
  evFnL_sound (fn := ir38) (t := .nil) (o := noO) rfl noO_ok trivial ((fn_38 _).trans h)
end
end Go.Ev
namespace Go.Ev
open Go
set_option maxRecDepth 100000
set_option maxHeartbeats 4000000
set_option linter.unusedVariables false
noncomputable section
abbrev Zt10_0 : Type := List (Int × Int × Int × Int × Int × Int × Bool × Int × Unit) × List (Int × Int × Int × Int × Int × List Int × Int × Unit) × Int × Bool × Unit
abbrev Zy10_1 : Ty := (Ty.pair (Ty.slice (Ty.pair (Ty.int IntKind.i64) (Ty.pair (Ty.int IntKind.i64) (Ty.pair (Ty.int IntKind.i64) (Ty.pair (Ty.int IntKind.i64) (Ty.pair (Ty.int IntKind.i64) (Ty.pair (Ty.int IntKind.i64) (Ty.pair Ty.bool (Ty.pair (Ty.int IntKind.i64) Ty.unit))))))))) (Ty.pair (Ty.slice (Ty.pair (Ty.int IntKind.i64) (Ty.pair (Ty.int IntKind.i64) (Ty.pair (Ty.int IntKind.i64) (Ty.pair (Ty.int IntKind.i64) (Ty.pair (Ty.int IntKind.i64) (Ty.pair (Ty.slice (Ty.int IntKind.i64)) (Ty.pair (Ty.int IntKind.i64) Ty.unit)))))))) (Ty.pair (Ty.int IntKind.i64) (Ty.pair Ty.bool Ty.unit))))
abbrev Zy10_2 : Ty := (.pair (.slice (.pair (.int .i64) (.pair (.int .i64) (.pair (.int .i64) (.pair (.int .i64) (.pair (.int .i64) (.pair (.int .i64) (.pair .bool (.pair (.int .i64) .unit))))))))) (.pair (.slice (.pair (.int .i64) (.pair (.int .i64) (.pair (.int .i64) (.pair (.int .i64) (.pair (.int .i64) (.pair (.slice (.int .i64)) (.pair (.int .i64) .unit)))))))) (.pair (.int .i64) (.pair .bool .unit))))
abbrev Zy10_3 : Ty := (Ty.pair (Ty.int IntKind.i64) (Ty.pair (Ty.int IntKind.i64) (Ty.pair (Ty.int IntKind.i64) (Ty.pair (Ty.int IntKind.i64) (Ty.pair (Ty.int IntKind.i64) (Ty.pair (Ty.int IntKind.i64) (Ty.pair Ty.bool (Ty.pair (Ty.int IntKind.i64) Ty.unit))))))))
abbrev Zy10_4 : Ty := (Ty.pair (Ty.int IntKind.i64) (Ty.pair (Ty.int IntKind.i64) (Ty.pair (Ty.int IntKind.i64) (Ty.pair (Ty.int IntKind.i64) (Ty.pair (Ty.int IntKind.i64) (Ty.pair (Ty.slice (Ty.int IntKind.i64)) (Ty.pair (Ty.int IntKind.i64) Ty.unit)))))))
abbrev Zt10_5 : Type := List (Int × Int × Int × Int × Int × Int × Bool × Int × Unit)
abbrev Zt10_6 : Type := List (Int × Int × Int × Int × Int × List Int × Int × Unit)

abbrev s10_26 : Summ := codesS
noncomputable def sm_10 : Nat → Option Summ := fun f => bif Nat.beq f 26 then some s10_26 else bif Nat.beq f 27 then some s_27 else bif Nat.beq f 28 then some s_28 else bif Nat.beq f 38 then some s_38 else none
noncomputable def T_10_35_0_0 (p0 : Zt10_5) (p1 : Int) (p2 : Int) (p3 : Zt10_0) : St := St.mk ([CV.pure (Ty.slice (Ty.pair (Ty.int IntKind.i64) (Ty.pair (Ty.int IntKind.i64) (Ty.pair (Ty.int IntKind.i64) (Ty.pair (Ty.int IntKind.i64) (Ty.pair (Ty.int IntKind.i64) (Ty.pair (Ty.int IntKind.i64) (Ty.pair Ty.bool (Ty.pair (Ty.int IntKind.i64) Ty.unit))))))))) p0, CV.clo (25 : Nat) (CV.pure Ty.unit PUnit.unit), jk, jk, jk, jk, jk, CV.int IntKind.i64 p1, CV.int IntKind.i64 p2] ++ (jl 10)) [Blk.mem (CV.pure Zy10_1 p3)] (1 : Nat)
noncomputable def X_10_35_0_0_0 (p2 : Int) (p3 : Zt10_0) : St := St.mk ([jk, jk, jk, jk, CV.int IntKind.i64 p2] ++ (jl 14)) [Blk.mem (CV.pure Zy10_1 p3)] (1 : Nat)
noncomputable def X_10_35_0_0_1 (p3 : Zt10_0) : St := St.mk (jl 19) [Blk.mem (CV.pure Zy10_1 p3)] (1 : Nat)
inductive Sp.E_10_35_0_0 where
  | e0 (p2 : Int) (p3 : Zt10_0)
  | e1 (p3 : Zt10_0)
noncomputable def Sp.B_10_35_0_0 {R : Type} (r : Option Sp.E_10_35_0_0) (k0 : (Int) → (Zt10_0) → Option R) (k1 : (Zt10_0) → Option R) : Option R := match r with
  | none => none
  | some (.e0 p2 p3) => k0 p2 p3
  | some (.e1 p3) => k1 p3
noncomputable def Sp.L_10_35_0_0 : Nat → (List (Int × Int × Int × Int × Int × Int × Bool × Int × Unit)) → (Int) → (Int) → (List (Int × Int × Int × Int × Int × Int × Bool × Int × Unit) × List (Int × Int × Int × Int × Int × List Int × Int × Unit) × Int × Bool × Unit) → Option Sp.E_10_35_0_0
  | 0, _, _, _, _ => none
  | m + 1, p0, p1, p2, p3 => bif decide (p2 < p1) then gd (inB p2 (List.length p0)) (gd (Sp.p_38 (List.getD p0 (Int.toNat p2) Zd0)) (bif !(Sp.v_38 (List.getD p0 (Int.toNat p2) Zd0)).1 then some (Sp.E_10_35_0_0.e0 p2 p3) else Sp.L_10_35_0_0 m p0 p1 (IntKind.wrap IntKind.i64 (p2 + (1 : Int))) p3)) else some (Sp.E_10_35_0_0.e1 p3)
noncomputable def G_10_35_0_0 {R : Type} (p0 : Zt10_5) (p1 : Int) (p2 : Int) (p3 : Zt10_0) (k : Ex → St → Option R) : Option R := Sp.B_10_35_0_0 (Sp.L_10_35_0_0 FU p0 p1 p2 p3) (fun p2 p3 => k Ex.ret (X_10_35_0_0_0 p2 p3)) (fun p3 => k (Ex.exit (0 : Nat)) (X_10_35_0_0_1 p3))
noncomputable def o_10_35_0_0 {R : Type} (G : (Zt10_5) → (Int) → (Int) → (Zt10_0) → (Ex → St → Option R) → Option R) : St → (Ex → St → Option R) → Option R := fun T k => match T.sl.getD 0 .junk, T.sl.getD 1 .junk, T.sl.getD 7 .junk, T.sl.getD 8 .junk, T.hp with
  | CV.pure (Ty.slice (Ty.pair (Ty.int IntKind.i64) (Ty.pair (Ty.int IntKind.i64) (Ty.pair (Ty.int IntKind.i64) (Ty.pair (Ty.int IntKind.i64) (Ty.pair (Ty.int IntKind.i64) (Ty.pair (Ty.int IntKind.i64) (Ty.pair Ty.bool (Ty.pair (Ty.int IntKind.i64) Ty.unit))))))))) p0, CV.clo (25 : Nat) (CV.pure Ty.unit PUnit.unit), CV.int IntKind.i64 p1, CV.int IntKind.i64 p2, ((Blk.mem (CV.pure (Ty.pair (Ty.slice (Ty.pair (Ty.int IntKind.i64) (Ty.pair (Ty.int IntKind.i64) (Ty.pair (Ty.int IntKind.i64) (Ty.pair (Ty.int IntKind.i64) (Ty.pair (Ty.int IntKind.i64) (Ty.pair (Ty.int IntKind.i64) (Ty.pair Ty.bool (Ty.pair (Ty.int IntKind.i64) Ty.unit))))))))) (Ty.pair (Ty.slice (Ty.pair (Ty.int IntKind.i64) (Ty.pair (Ty.int IntKind.i64) (Ty.pair (Ty.int IntKind.i64) (Ty.pair (Ty.int IntKind.i64) (Ty.pair (Ty.int IntKind.i64) (Ty.pair (Ty.slice (Ty.int IntKind.i64)) (Ty.pair (Ty.int IntKind.i64) Ty.unit)))))))) (Ty.pair (Ty.int IntKind.i64) (Ty.pair Ty.bool Ty.unit)))) p3)) :: []) => gd (shapeOK T 19 [0, 1, 7, 8] (1 : Nat)) (G p0 p1 p2 p3 k)
  | _, _, _, _, _ => none
theorem o_10_35_0_0_inv {R : Type} {G : (Zt10_5) → (Int) → (Int) → (Zt10_0) → (Ex → St → Option R) → Option R} {T : St} {k : Ex → St → Option R} {r : R} (h : o_10_35_0_0 G T k = some r) : ∃ p0 p1 p2 p3, T = T_10_35_0_0 p0 p1 p2 p3 ∧ G p0 p1 p2 p3 k = some r := by
  unfold o_10_35_0_0 at h
  split at h
  · obtain ⟨hs, h'⟩ := gd_some h
    refine ⟨_, _, _, _, (st_of (asg := [(0, _), (1, _), (7, _), (8, _)]) hs ⟨by assumption, by assumption, by assumption, by assumption, trivial⟩ (by assumption)).trans ?_, h'⟩
    kernel_rfl
  · cases h
noncomputable def T_10_1 (p0 : Zt10_6) (p1 : Int) (p2 : Int) (p3 : Zt10_0) : St := St.mk ([jk, CV.ptr (0 : Nat) []] ++ (jl 43 ++ ([CV.pure (Ty.slice (Ty.pair (Ty.int IntKind.i64) (Ty.pair (Ty.int IntKind.i64) (Ty.pair (Ty.int IntKind.i64) (Ty.pair (Ty.int IntKind.i64) (Ty.pair (Ty.int IntKind.i64) (Ty.pair (Ty.slice (Ty.int IntKind.i64)) (Ty.pair (Ty.int IntKind.i64) Ty.unit)))))))) p0, CV.int IntKind.i64 p1, CV.int IntKind.i64 p2] ++ (jl 15)))) [Blk.mem (CV.pure Zy10_1 p3)] (0 : Nat)
noncomputable def X_10_1_0 : St := St.mk ([jk, jk, CV.bool false] ++ (jl 60)) [] (0 : Nat)
noncomputable def X_10_1_1 : St := St.mk (jl 63) [] (0 : Nat)
inductive Sp.E_10_1 where
  | e0
  | e1
noncomputable def Sp.B_10_1 {R : Type} (r : Option Sp.E_10_1) (k0 : Option R) (k1 : Option R) : Option R := match r with
  | none => none
  | some (.e0) => k0
  | some (.e1) => k1
noncomputable def Sp.L_10_1 : Nat → (List (Int × Int × Int × Int × Int × List Int × Int × Unit)) → (Int) → (Int) → (List (Int × Int × Int × Int × Int × Int × Bool × Int × Unit) × List (Int × Int × Int × Int × Int × List Int × Int × Unit) × Int × Bool × Unit) → Option Sp.E_10_1
  | 0, _, _, _, _ => none
  | m + 1, p0, p1, p2, p3 => bif decide (p2 < p1) then gd (inB p2 (List.length p0)) (gd (inB p2 (List.length (p3.1))) (gd (Sp.p_28 (List.getD (p3.1) (Int.toNat p2) Zd0) (List.getD p0 (Int.toNat p2) Zd1) (p3.2.2.1)) (bif !(Sp.v_28 (List.getD (p3.1) (Int.toNat p2) Zd0) (List.getD p0 (Int.toNat p2) Zd1) (p3.2.2.1)).1 then some (Sp.E_10_1.e0) else Sp.L_10_1 m p0 p1 (IntKind.wrap IntKind.i64 (p2 + (1 : Int))) p3))) else some (Sp.E_10_1.e1)
noncomputable def G_10_1 {R : Type} (p0 : Zt10_6) (p1 : Int) (p2 : Int) (p3 : Zt10_0) (k : Ex → St → Option R) : Option R := Sp.B_10_1 (Sp.L_10_1 FU p0 p1 p2 p3) (k Ex.ret (X_10_1_0)) (k (Ex.exit (0 : Nat)) (X_10_1_1))
noncomputable def o_10_1 {R : Type} (G : (Zt10_6) → (Int) → (Int) → (Zt10_0) → (Ex → St → Option R) → Option R) : St → (Ex → St → Option R) → Option R := fun T k => match T.sl.getD 1 .junk, T.sl.getD 45 .junk, T.sl.getD 46 .junk, T.sl.getD 47 .junk, T.hp with
  | CV.ptr (0 : Nat) [], CV.pure (Ty.slice (Ty.pair (Ty.int IntKind.i64) (Ty.pair (Ty.int IntKind.i64) (Ty.pair (Ty.int IntKind.i64) (Ty.pair (Ty.int IntKind.i64) (Ty.pair (Ty.int IntKind.i64) (Ty.pair (Ty.slice (Ty.int IntKind.i64)) (Ty.pair (Ty.int IntKind.i64) Ty.unit)))))))) p0, CV.int IntKind.i64 p1, CV.int IntKind.i64 p2, ((Blk.mem (CV.pure (Ty.pair (Ty.slice (Ty.pair (Ty.int IntKind.i64) (Ty.pair (Ty.int IntKind.i64) (Ty.pair (Ty.int IntKind.i64) (Ty.pair (Ty.int IntKind.i64) (Ty.pair (Ty.int IntKind.i64) (Ty.pair (Ty.int IntKind.i64) (Ty.pair Ty.bool (Ty.pair (Ty.int IntKind.i64) Ty.unit))))))))) (Ty.pair (Ty.slice (Ty.pair (Ty.int IntKind.i64) (Ty.pair (Ty.int IntKind.i64) (Ty.pair (Ty.int IntKind.i64) (Ty.pair (Ty.int IntKind.i64) (Ty.pair (Ty.int IntKind.i64) (Ty.pair (Ty.slice (Ty.int IntKind.i64)) (Ty.pair (Ty.int IntKind.i64) Ty.unit)))))))) (Ty.pair (Ty.int IntKind.i64) (Ty.pair Ty.bool Ty.unit)))) p3)) :: []) => gd (shapeOK T 63 [1, 45, 46, 47] (0 : Nat)) (G p0 p1 p2 p3 k)
  | _, _, _, _, _ => none
theorem o_10_1_inv {R : Type} {G : (Zt10_6) → (Int) → (Int) → (Zt10_0) → (Ex → St → Option R) → Option R} {T : St} {k : Ex → St → Option R} {r : R} (h : o_10_1 G T k = some r) : ∃ p0 p1 p2 p3, T = T_10_1 p0 p1 p2 p3 ∧ G p0 p1 p2 p3 k = some r := by
  unfold o_10_1 at h
  split at h
  · obtain ⟨hs, h'⟩ := gd_some h
    refine ⟨_, _, _, _, (st_of (asg := [(1, _), (45, _), (46, _), (47, _)]) hs ⟨by assumption, by assumption, by assumption, by assumption, trivial⟩ (by assumption)).trans ?_, h'⟩
    kernel_rfl
  · cases h
noncomputable def T_10_0 (p0 : Zt10_0) : St := St.mk ([jk, CV.ptr (0 : Nat) []] ++ (jl 61)) [Blk.mem (CV.pure Zy10_1 p0)] (0 : Nat)
noncomputable def X_10_0_0 : St := St.mk ([jk, jk, CV.bool false] ++ (jl 60)) [] (0 : Nat)
noncomputable def X_10_0_1 : St := St.mk ([jk, jk, CV.bool true] ++ (jl 60)) [] (0 : Nat)
inductive Sp.E_10_0 where
  | e0
  | e1
noncomputable def Sp.B_10_0 {R : Type} (r : Option Sp.E_10_0) (k0 : Option R) (k1 : Option R) : Option R := match r with
  | none => none
  | some (.e0) => k0
  | some (.e1) => k1
noncomputable def Sp.J_10_0 (p0 : List (Int × Int × Int × Int × Int × Int × Bool × Int × Unit) × List (Int × Int × Int × Int × Int × List Int × Int × Unit) × Int × Bool × Unit) : Option Sp.E_10_0 :=
  Sp.B_10_1 (Sp.L_10_1 (4611686018427387904 : Nat) (p0.2.1) (↑(List.length (p0.2.1)) : Int) (0 : Int) p0) (some (Sp.E_10_0.e0)) (some (Sp.E_10_0.e1))
noncomputable def G_10_0 {R : Type} (p0 : Zt10_0) (k : Ex → St → Option R) : Option R := Sp.B_10_0 (Sp.J_10_0 p0) (k Ex.ret (X_10_0_0)) (k Ex.ret (X_10_0_1))
noncomputable def o_10_0 {R : Type} (G : (Zt10_0) → (Ex → St → Option R) → Option R) : St → (Ex → St → Option R) → Option R := fun T k => match T.sl.getD 1 .junk, T.hp with
  | CV.ptr (0 : Nat) [], ((Blk.mem (CV.pure (Ty.pair (Ty.slice (Ty.pair (Ty.int IntKind.i64) (Ty.pair (Ty.int IntKind.i64) (Ty.pair (Ty.int IntKind.i64) (Ty.pair (Ty.int IntKind.i64) (Ty.pair (Ty.int IntKind.i64) (Ty.pair (Ty.int IntKind.i64) (Ty.pair Ty.bool (Ty.pair (Ty.int IntKind.i64) Ty.unit))))))))) (Ty.pair (Ty.slice (Ty.pair (Ty.int IntKind.i64) (Ty.pair (Ty.int IntKind.i64) (Ty.pair (Ty.int IntKind.i64) (Ty.pair (Ty.int IntKind.i64) (Ty.pair (Ty.int IntKind.i64) (Ty.pair (Ty.slice (Ty.int IntKind.i64)) (Ty.pair (Ty.int IntKind.i64) Ty.unit)))))))) (Ty.pair (Ty.int IntKind.i64) (Ty.pair Ty.bool Ty.unit)))) p0)) :: []) => gd (shapeOK T 63 [1] (0 : Nat)) (G p0 k)
  | _, _ => none
theorem o_10_0_inv {R : Type} {G : (Zt10_0) → (Ex → St → Option R) → Option R} {T : St} {k : Ex → St → Option R} {r : R} (h : o_10_0 G T k = some r) : ∃ p0, T = T_10_0 p0 ∧ G p0 k = some r := by
  unfold o_10_0 at h
  split at h
  · obtain ⟨hs, h'⟩ := gd_some h
    refine ⟨_, (st_of (asg := [(1, _)]) hs ⟨by assumption, trivial⟩ (by assumption)).trans ?_, h'⟩
    kernel_rfl
  · cases h
noncomputable def O_10_35_0 {R : Type} : St → (Ex → St → Option R) → Option R := fun T k => o_10_35_0_0 G_10_35_0_0 T k
noncomputable def O_10_10_1 {R : Type} : St → (Ex → St → Option R) → Option R := fun T k => o_10_1 G_10_1 T k
noncomputable def O_10_10_0 {R : Type} : St → (Ex → St → Option R) → Option R := fun T k => o_10_0 G_10_0 T k
noncomputable def g_10_35 {R : Type} : List CV → List Blk → (CV → List Blk → Option R) → Option R := evFnL sm_10 FU (ovr noO (evFn sm_10 fns FU 1)) (ir35_t O_10_35_0) ir35
noncomputable def g_10_24 {R : Type} : List CV → List Blk → (CV → List Blk → Option R) → Option R := evFnL sm_10 FU (ovr (fun f' => bif Nat.beq f' 35 then some (g_10_35) else none) (evFn sm_10 fns FU 2)) .nil ir24
theorem body_10_35_0_0 {R : Type} (K0 : St → Option R) (K1 : Ex → St → Option R) (p0 : Zt10_5) (p1 : Int) (p2 : Int) (p3 : Zt10_0) : evLB (evCodeL sm_10 FU (ovr noO (evFn sm_10 fns FU 1)) .nil ir35_b0) (St.norm ir35_v0) (T_10_35_0_0 p0 p1 p2 p3) K0 K1 =
  bif decide (p2 < p1) then gd (inB p2 (List.length p0)) (gd (Sp.p_38 (List.getD p0 (Int.toNat p2) (Ty.dflt Zy10_3))) (bif !(Sp.v_38 (List.getD p0 (Int.toNat p2) (Ty.dflt Zy10_3))).1 then K1 Ex.ret (X_10_35_0_0_0 p2 p3) else K0 (T_10_35_0_0 p0 p1 (IntKind.wrap IntKind.i64 (p2 + (1 : Int))) p3))) else K1 (Ex.exit (0 : Nat)) (X_10_35_0_0_1 p3) := by kernel_rfl
theorem Bgd_10_35_0_0 {R : Type} {c : Bool} {x : Option R} {y : Option Sp.E_10_35_0_0} {k0 : (Int) → (Zt10_0) → Option R} {k1 : (Zt10_0) → Option R} (h : x = Sp.B_10_35_0_0 y k0 k1) : gd c x = Sp.B_10_35_0_0 (gd c y) k0 k1 := by cases c; rfl; exact h
theorem Bcond_10_35_0_0 {R : Type} {c : Bool} {x x' : Option R} {y y' : Option Sp.E_10_35_0_0} {k0 : (Int) → (Zt10_0) → Option R} {k1 : (Zt10_0) → Option R} (h : x = Sp.B_10_35_0_0 y k0 k1) (h' : x' = Sp.B_10_35_0_0 y' k0 k1) : (bif c then x else x') = Sp.B_10_35_0_0 (bif c then y else y') k0 k1 := by cases c; exact h'; exact h
theorem loop_10_35_0_0 {R : Type} (k : Ex → St → Option R) : ∀ (m : Nat) (p0 : Zt10_5) (p1 : Int) (p2 : Int) (p3 : Zt10_0), evLoopN (evCodeL sm_10 FU (ovr noO (evFn sm_10 fns FU 1)) .nil ir35_b0) (St.norm ir35_v0) m (T_10_35_0_0 p0 p1 p2 p3) k = Sp.B_10_35_0_0 (Sp.L_10_35_0_0 m p0 p1 p2 p3) (fun p2 p3 => k Ex.ret (X_10_35_0_0_0 p2 p3)) (fun p3 => k (Ex.exit (0 : Nat)) (X_10_35_0_0_1 p3))
  | 0, _, _, _, _ => rfl
  | m + 1, p0, p1, p2, p3 => by
    rw [evLoopN_succ, body_10_35_0_0, Sp.L_10_35_0_0]
    repeat' first | apply Bgd_10_35_0_0 | apply Bcond_10_35_0_0 | exact loop_10_35_0_0 k m _ _ _ _ | rfl
theorem ok_10_35_0_0 {R : Type} (T : St) (k : Ex → St → Option R) (r : R) (h0 : o_10_35_0_0 G_10_35_0_0 T k = some r) : evLoopN (evCode sm_10 FU (evFn sm_10 fns FU 1) ir35_b0) (St.norm ir35_v0) FU T k = some r := by
  obtain ⟨p0, p1, p2, p3, rfl, h⟩ := o_10_35_0_0_inv h0
  refine evLoopN_L (t := .nil) noO_ok trivial _ _ _ _ ?_
  rw [loop_10_35_0_0]
  exact h
theorem OK_10_35_0 {R : Type} (T : St) (k : Ex → St → Option R) (r : R) (h : O_10_35_0 T k = some r) : evLoopN (evCode sm_10 FU (evFn sm_10 fns FU 1) ir35_b0) (St.norm ir35_v0) FU T k = some r := ok_10_35_0_0 T k r h
theorem g_10_35_ok {R : Type} (args : List CV) (hp : List Blk) (k : CV → List Blk → Option R) (r : R) (h : g_10_35 args hp k = some r) : evFn sm_10 fns FU 2 35 args hp k = some r :=
  evFnL_sound (fn := ir35) (t := (ir35_t O_10_35_0)) (o := noO) rfl noO_ok (ir35_tok (fun T k r => OK_10_35_0 T k r)) h
theorem ov_10_24_ok {R : Type} : OvrOK (R := R) (fun f' => bif Nat.beq f' 35 then some (g_10_35) else none) (evFn sm_10 fns FU 2) := by
  intro f' g h args hp k r hg
  dsimp only at h
  by_cases h35 : f' = 35
  · subst h35
    injection h with h
    subst h
    exact evFn_le 0 (g_10_35_ok _ _ _ _ hg)
  rw [nbeq_ne h35, cond_false] at h
  cases h
theorem g_10_24_ok {R : Type} (args : List CV) (hp : List Blk) (k : CV → List Blk → Option R) (r : R) (h : g_10_24 args hp k = some r) : evFn sm_10 fns FU 3 24 args hp k = some r :=
  evFnL_sound (fn := ir24) (t := .nil) (o := (fun f' => bif Nat.beq f' 35 then some (g_10_35) else none)) rfl ov_10_24_ok trivial h
theorem ov_10_10_ok {R : Type} : OvrOK (R := R) (fun f' => bif Nat.beq f' 24 then some (g_10_24) else none) (evFn sm_10 fns FU 3) := by
  intro f' g h args hp k r hg
  dsimp only at h
  by_cases h24 : f' = 24
  · subst h24
    injection h with h
    subst h
    exact evFn_le 0 (g_10_24_ok _ _ _ _ hg)
  rw [nbeq_ne h24, cond_false] at h
  cases h
theorem body_10_1 {R : Type} (K0 : St → Option R) (K1 : Ex → St → Option R) (p0 : Zt10_6) (p1 : Int) (p2 : Int) (p3 : Zt10_0) : evLB (evCodeL sm_10 FU (ovr (fun f' => bif Nat.beq f' 24 then some (g_10_24) else none) (evFn sm_10 fns FU 3)) .nil ir10_b1) (St.norm ir10_v1) (T_10_1 p0 p1 p2 p3) K0 K1 =
  bif decide (p2 < p1) then gd (inB p2 (List.length p0)) (gd (inB p2 (List.length (p3.1))) (gd (Sp.p_28 (List.getD (p3.1) (Int.toNat p2) (Ty.dflt Zy10_3)) (List.getD p0 (Int.toNat p2) (Ty.dflt Zy10_4)) (p3.2.2.1)) (bif !(Sp.v_28 (List.getD (p3.1) (Int.toNat p2) (Ty.dflt Zy10_3)) (List.getD p0 (Int.toNat p2) (Ty.dflt Zy10_4)) (p3.2.2.1)).1 then K1 Ex.ret X_10_1_0 else K0 (T_10_1 p0 p1 (IntKind.wrap IntKind.i64 (p2 + (1 : Int))) p3)))) else K1 (Ex.exit (0 : Nat)) X_10_1_1 := by kernel_rfl
theorem Bgd_10_1 {R : Type} {c : Bool} {x : Option R} {y : Option Sp.E_10_1} {k0 : Option R} {k1 : Option R} (h : x = Sp.B_10_1 y k0 k1) : gd c x = Sp.B_10_1 (gd c y) k0 k1 := by cases c; rfl; exact h
theorem Bcond_10_1 {R : Type} {c : Bool} {x x' : Option R} {y y' : Option Sp.E_10_1} {k0 : Option R} {k1 : Option R} (h : x = Sp.B_10_1 y k0 k1) (h' : x' = Sp.B_10_1 y' k0 k1) : (bif c then x else x') = Sp.B_10_1 (bif c then y else y') k0 k1 := by cases c; exact h'; exact h
theorem loop_10_1 {R : Type} (k : Ex → St → Option R) : ∀ (m : Nat) (p0 : Zt10_6) (p1 : Int) (p2 : Int) (p3 : Zt10_0), evLoopN (evCodeL sm_10 FU (ovr (fun f' => bif Nat.beq f' 24 then some (g_10_24) else none) (evFn sm_10 fns FU 3)) .nil ir10_b1) (St.norm ir10_v1) m (T_10_1 p0 p1 p2 p3) k = Sp.B_10_1 (Sp.L_10_1 m p0 p1 p2 p3) (k Ex.ret (X_10_1_0)) (k (Ex.exit (0 : Nat)) (X_10_1_1))
  | 0, _, _, _, _ => rfl
  | m + 1, p0, p1, p2, p3 => by
    rw [evLoopN_succ, body_10_1, Sp.L_10_1]
    repeat' first | apply Bgd_10_1 | apply Bcond_10_1 | exact loop_10_1 k m _ _ _ _ | rfl
theorem ok_10_1 {R : Type} (T : St) (k : Ex → St → Option R) (r : R) (h0 : o_10_1 G_10_1 T k = some r) : evLoopN (evCode sm_10 FU (evFn sm_10 fns FU 3) ir10_b1) (St.norm ir10_v1) FU T k = some r := by
  obtain ⟨p0, p1, p2, p3, rfl, h⟩ := o_10_1_inv h0
  refine evLoopN_L (t := .nil) ov_10_10_ok trivial _ _ _ _ ?_
  rw [loop_10_1]
  exact h
theorem OK_10_10_1 {R : Type} (T : St) (k : Ex → St → Option R) (r : R) (h : O_10_10_1 T k = some r) : evLoopN (evCode sm_10 FU (evFn sm_10 fns FU 3) ir10_b1) (St.norm ir10_v1) FU T k = some r := ok_10_1 T k r h
theorem body_10_0 {R : Type} (K1 : Ex → St → Option R) (p0 : Zt10_0) : evJ (evCodeL sm_10 FU (ovr (fun f' => bif Nat.beq f' 24 then some (g_10_24) else none) (evFn sm_10 fns FU 3)) (ir10_bt0 O_10_10_1) ir10_b0) (T_10_0 p0) K1 =
  Sp.B_10_1 (Sp.L_10_1 (4611686018427387904 : Nat) (p0.2.1) (↑(List.length (p0.2.1)) : Int) (0 : Int) p0) (K1 Ex.ret X_10_0_0) (K1 Ex.ret X_10_0_1) := by kernel_rfl
theorem Bgd_10_0 {R : Type} {c : Bool} {x : Option R} {y : Option Sp.E_10_0} {k0 : Option R} {k1 : Option R} (h : x = Sp.B_10_0 y k0 k1) : gd c x = Sp.B_10_0 (gd c y) k0 k1 := by cases c; rfl; exact h
theorem Bcond_10_0 {R : Type} {c : Bool} {x x' : Option R} {y y' : Option Sp.E_10_0} {k0 : Option R} {k1 : Option R} (h : x = Sp.B_10_0 y k0 k1) (h' : x' = Sp.B_10_0 y' k0 k1) : (bif c then x else x') = Sp.B_10_0 (bif c then y else y') k0 k1 := by cases c; exact h'; exact h
theorem Bin_10_0_10_1 {R : Type} {r : Option Sp.E_10_1} {k0 : Option R} {k1 : Option R} {f0 : Option R} {f1 : Option R} {g0 : Option Sp.E_10_0} {g1 : Option Sp.E_10_0} (h0 : f0 = Sp.B_10_0 g0 k0 k1) (h1 : f1 = Sp.B_10_0 g1 k0 k1) : Sp.B_10_1 r f0 f1 = Sp.B_10_0 (Sp.B_10_1 r g0 g1) k0 k1 := by
  cases r with
  | none => rfl
  | some e => cases e with
    | e0 => exact h0
    | e1 => exact h1
theorem loop_10_0 {R : Type} (k : Ex → St → Option R) (p0 : Zt10_0) : evJ (evCodeL sm_10 FU (ovr (fun f' => bif Nat.beq f' 24 then some (g_10_24) else none) (evFn sm_10 fns FU 3)) (ir10_bt0 O_10_10_1) ir10_b0) (T_10_0 p0) k = Sp.B_10_0 (Sp.J_10_0 p0) (k Ex.ret (X_10_0_0)) (k Ex.ret (X_10_0_1)) := by
  rw [body_10_0, Sp.J_10_0]
  repeat' first | apply Bgd_10_0 | apply Bcond_10_0 | (apply Bin_10_0_10_1 <;> intros) | rfl
theorem ok_10_0 {R : Type} (T : St) (k : Ex → St → Option R) (r : R) (h0 : o_10_0 G_10_0 T k = some r) : evCode sm_10 FU (evFn sm_10 fns FU 3) ir10_b0 T k = some r := by
  obtain ⟨p0, rfl, h⟩ := o_10_0_inv h0
  refine bodyL_sound (t := (ir10_bt0 O_10_10_1)) ov_10_10_ok (ir10_bt0ok (fun T k r => OK_10_10_1 T k r)) (((show ∀ (b : St → (Ex → St → Option R) → Option R) (T : St) (k : Ex → St → Option R), b T k = evJ b T k from fun _ _ _ => rfl) _ _ _).trans ((loop_10_0 k p0).trans h))
theorem OK_10_10_0 {R : Type} (T : St) (k : Ex → St → Option R) (r : R) (h : O_10_10_0 T k = some r) : evCode sm_10 FU (evFn sm_10 fns FU 3) ir10_b0 T k = some r := ok_10_0 T k r h
noncomputable def F_10 (a0 : ((List (Int × (Int × (Int × (Int × (Int × (Int × (Bool × (Int × Unit))))))))) × ((List (Int × (Int × (Int × (Int × (Int × ((List Int) × (Int × Unit)))))))) × (Int × (Bool × Unit))))) : Option (Bool × Unit) :=
  bif decide ((↑(List.length (a0.1)) : Int) > (64 : Int)) then some (false, PUnit.unit) else Sp.B_10_35_0_0 (Sp.L_10_35_0_0 (4611686018427387904 : Nat) (a0.1) (↑(List.length (a0.1)) : Int) (0 : Int) a0) (fun y11 y12 => bif decide (y11 ≥ (0 : Int)) then some (false, PUnit.unit) else bif !Sp.dst (List.map (fun y13 => y13.1) (y12.1)) then some (false, PUnit.unit) else bif (↑(List.length (y12.2.1)) : Int) != (↑(List.length (y12.1)) : Int) then some (false, PUnit.unit) else gd (Sp.p_27 (y12.2.2.1) (0 : Int) (1073741824 : Int)) (bif !(Sp.v_27 (y12.2.2.1) (0 : Int) (1073741824 : Int)).1 then some (false, PUnit.unit) else bif y12.2.2.2.1 then bif decide (y12.2.2.1 < (1 : Int)) then some (false, PUnit.unit) else Sp.B_10_0 (Sp.J_10_0 y12) (some (false, PUnit.unit)) (some (true, PUnit.unit)) else Sp.B_10_0 (Sp.J_10_0 y12) (some (false, PUnit.unit)) (some (true, PUnit.unit)))) fun y16 => bif !Sp.dst (List.map (fun y17 => y17.1) (y16.1)) then some (false, PUnit.unit) else bif (↑(List.length (y16.2.1)) : Int) != (↑(List.length (y16.1)) : Int) then some (false, PUnit.unit) else gd (Sp.p_27 (y16.2.2.1) (0 : Int) (1073741824 : Int)) (bif !(Sp.v_27 (y16.2.2.1) (0 : Int) (1073741824 : Int)).1 then some (false, PUnit.unit) else bif y16.2.2.2.1 then bif decide (y16.2.2.1 < (1 : Int)) then some (false, PUnit.unit) else Sp.B_10_0 (Sp.J_10_0 y16) (some (false, PUnit.unit)) (some (true, PUnit.unit)) else Sp.B_10_0 (Sp.J_10_0 y16) (some (false, PUnit.unit)) (some (true, PUnit.unit)))
theorem fn_10 (a0 : ((List (Int × (Int × (Int × (Int × (Int × (Int × (Bool × (Int × Unit))))))))) × ((List (Int × (Int × (Int × (Int × (Int × ((List Int) × (Int × Unit)))))))) × (Int × (Bool × Unit))))) : evFnL sm_10 FU (ovr (fun f' => bif Nat.beq f' 24 then some (g_10_24) else none) (evFn sm_10 fns FU 3)) (ir10_t O_10_10_0) ir10 (ofH [Zy10_2] (a0, ())) [] (pureK [.bool]) = F_10 a0 := by kernel_rfl
noncomputable def Sp.p_10 (a0 : ((List (Int × (Int × (Int × (Int × (Int × (Int × (Bool × (Int × Unit))))))))) × ((List (Int × (Int × (Int × (Int × (Int × ((List Int) × (Int × Unit)))))))) × (Int × (Bool × Unit))))) : Bool := (F_10 a0).isSome
noncomputable def Sp.v_10 (a0 : ((List (Int × (Int × (Int × (Int × (Int × (Int × (Bool × (Int × Unit))))))))) × ((List (Int × (Int × (Int × (Int × (Int × ((List Int) × (Int × Unit)))))))) × (Int × (Bool × Unit))))) : Bool × Unit := (F_10 a0).getD (dfH [.bool])
noncomputable def s_10 : Summ := shN [Zy10_2] [.bool] (fun x => Sp.p_10 x.1) (fun x => Sp.v_10 x.1)
theorem pv_10 (a0 : ((List (Int × (Int × (Int × (Int × (Int × (Int × (Bool × (Int × Unit))))))))) × ((List (Int × (Int × (Int × (Int × (Int × ((List Int) × (Int × Unit)))))))) × (Int × (Bool × Unit))))) {y : Bool × Unit} (h : F_10 a0 = some y) : Sp.p_10 a0 = true ∧ Sp.v_10 a0 = y := ⟨by rw [Sp.p_10, h]; rfl, by rw [Sp.v_10, h]; rfl⟩
theorem run_10 (x : HDen [Zy10_2]) (y : HDen [.bool]) (h : F_10 x.1 = some y) : evFn sm_10 fns FU 4 10 (ofH [Zy10_2] x) [] (pureK [.bool]) = some y :=
  evFnL_sound (fn := ir10) (t := (ir10_t O_10_10_0)) (o := (fun f' => bif Nat.beq f' 24 then some (g_10_24) else none)) rfl ov_10_10_ok (ir10_tok (fun T k r => OK_10_10_0 T k r)) ((fn_10 _).trans h)
end
end Go.Ev
namespace Go.Ev
open Go
set_option maxRecDepth 100000
set_option maxHeartbeats 4000000
set_option linter.unusedVariables false
noncomputable section

noncomputable def sm_31 : Nat → Option Summ := fun f => none


noncomputable def F_31 (a0 : Int) (a1 : Int) (a2 : Int) : Option (Bool × Unit) :=
  bif decide (a0 ≥ a1) then some (decide (a0 ≤ a2), PUnit.unit) else some (false, PUnit.unit)
theorem fn_31 (a0 : Int) (a1 : Int) (a2 : Int) : evFnL sm_31 FU (ovr noO (evFn sm_31 fns FU 0)) .nil ir31 (ofH [(.int .i64), (.int .i64), (.int .i64)] (a0, a1, a2, ())) [] (pureK [.bool]) = F_31 a0 a1 a2 := by kernel_rfl
noncomputable def Sp.p_31 (a0 : Int) (a1 : Int) (a2 : Int) : Bool := (F_31 a0 a1 a2).isSome
noncomputable def Sp.v_31 (a0 : Int) (a1 : Int) (a2 : Int) : Bool × Unit := (F_31 a0 a1 a2).getD (dfH [.bool])
noncomputable def s_31 : Summ := shN [(.int .i64), (.int .i64), (.int .i64)] [.bool] (fun x => Sp.p_31 x.1 x.2.1 x.2.2.1) (fun x => Sp.v_31 x.1 x.2.1 x.2.2.1)
theorem pv_31 (a0 : Int) (a1 : Int) (a2 : Int) {y : Bool × Unit} (h : F_31 a0 a1 a2 = some y) : Sp.p_31 a0 a1 a2 = true ∧ Sp.v_31 a0 a1 a2 = y := ⟨by rw [Sp.p_31, h]; rfl, by rw [Sp.v_31, h]; rfl⟩
theorem run_31 (x : HDen [(.int .i64), (.int .i64), (.int .i64)]) (y : HDen [.bool]) (h : F_31 x.1 x.2.1 x.2.2.1 = some y) : evFn sm_31 fns FU 1 31 (ofH [(.int .i64), (.int .i64), (.int .i64)] x) [] (pureK [.bool]) = some y :=
  evFnL_sound (fn := ir31) (t := .nil) (o := noO) rfl noO_ok trivial ((fn_31 _ _ _).trans h)
end
end Go.Ev
namespace Go.Ev
open Go
set_option maxRecDepth 100000
set_option maxHeartbeats 4000000
set_option linter.unusedVariables false
noncomputable section

noncomputable def sm_15 : Nat → Option Summ := fun f => bif Nat.beq f 31 then some s_31 else none


noncomputable def F_15 (a0 : (Int × (Int × (Int × (Int × (Int × (Int × Unit))))))) : Option (Bool × Unit) :=
  gd (Sp.p_31 (a0.1) (1 : Int) (3 : Int)) (bif !(Sp.v_31 (a0.1) (1 : Int) (3 : Int)).1 then some (false, PUnit.unit) else gd (Sp.p_31 (a0.2.1) (0 : Int) (65535 : Int)) (bif !(Sp.v_31 (a0.2.1) (0 : Int) (65535 : Int)).1 then some (false, PUnit.unit) else gd (Sp.p_31 (a0.2.2.1) (0 : Int) (1 : Int)) (bif !(Sp.v_31 (a0.2.2.1) (0 : Int) (1 : Int)).1 then some (false, PUnit.unit) else gd (Sp.p_31 (a0.2.2.2.1) (0 : Int) (2 : Int)) (bif !(Sp.v_31 (a0.2.2.2.1) (0 : Int) (2 : Int)).1 then some (false, PUnit.unit) else gd (Sp.p_31 (a0.2.2.2.2.1) (0 : Int) (1099521627776 : Int)) (bif !(Sp.v_31 (a0.2.2.2.2.1) (0 : Int) (1099521627776 : Int)).1 then some (false, PUnit.unit) else gd (Sp.p_31 (a0.2.2.2.2.2.1) (0 : Int) (1099521627776 : Int)) (bif !(Sp.v_31 (a0.2.2.2.2.2.1) (0 : Int) (1099521627776 : Int)).1 then some (false, PUnit.unit) else bif a0.1 != (1 : Int) then some (true, PUnit.unit) else bif a0.2.1 == (0 : Int) then bif a0.2.2.1 == (0 : Int) then some (a0.2.2.2.2.2.1 == (0 : Int), PUnit.unit) else some (false, PUnit.unit) else some (false, PUnit.unit)))))))
theorem fn_15 (a0 : (Int × (Int × (Int × (Int × (Int × (Int × Unit))))))) : evFnL sm_15 FU (ovr noO (evFn sm_15 fns FU 0)) .nil ir15 (ofH [(.pair (.int .i64) (.pair (.int .i64) (.pair (.int .i64) (.pair (.int .i64) (.pair (.int .i64) (.pair (.int .i64) .unit))))))] (a0, ())) [] (pureK [.bool]) = F_15 a0 := by kernel_rfl
noncomputable def Sp.p_15 (a0 : (Int × (Int × (Int × (Int × (Int × (Int × Unit))))))) : Bool := (F_15 a0).isSome
noncomputable def Sp.v_15 (a0 : (Int × (Int × (Int × (Int × (Int × (Int × Unit))))))) : Bool × Unit := (F_15 a0).getD (dfH [.bool])
noncomputable def s_15 : Summ := shN [(.pair (.int .i64) (.pair (.int .i64) (.pair (.int .i64) (.pair (.int .i64) (.pair (.int .i64) (.pair (.int .i64) .unit))))))] [.bool] (fun x => Sp.p_15 x.1) (fun x => Sp.v_15 x.1)
theorem pv_15 (a0 : (Int × (Int × (Int × (Int × (Int × (Int × Unit))))))) {y : Bool × Unit} (h : F_15 a0 = some y) : Sp.p_15 a0 = true ∧ Sp.v_15 a0 = y := ⟨by rw [Sp.p_15, h]; rfl, by rw [Sp.v_15, h]; rfl⟩
theorem run_15 (x : HDen [(.pair (.int .i64) (.pair (.int .i64) (.pair (.int .i64) (.pair (.int .i64) (.pair (.int .i64) (.pair (.int .i64) .unit))))))]) (y : HDen [.bool]) (h : F_15 x.1 = some y) : evFn sm_15 fns FU 1 15 (ofH [(.pair (.int .i64) (.pair (.int .i64) (.pair (.int .i64) (.pair (.int .i64) (.pair (.int .i64) (.pair (.int .i64) .unit))))))] x) [] (pureK [.bool]) = some y :=
  evFnL_sound (fn := ir15) (t := .nil) (o := noO) rfl noO_ok trivial ((fn_15 _).trans h)
end
end Go.Ev
namespace Go.Ev
open Go
set_option maxRecDepth 100000
set_option maxHeartbeats 4000000
set_option linter.unusedVariables false
noncomputable section

noncomputable def sm_32 : Nat → Option Summ := fun f => none


noncomputable def F_32 (a0 : (Int × (Int × (Int × (Int × (Int × (Int × Unit))))))) (a1 : Int) : Option ((Int × (Int × (Int × (Int × (Int × (Int × Unit)))))) × Unit) :=
  bif a1 == (1 : Int) then some ((a1, (0 : Int), (0 : Int), a0.2.2.2.1, a0.2.2.2.2.1, (0 : Int), a0.2.2.2.2.2.2), PUnit.unit) else some ((a1, (0 : Int), (0 : Int), a0.2.2.2), PUnit.unit)
theorem fn_32 (a0 : (Int × (Int × (Int × (Int × (Int × (Int × Unit))))))) (a1 : Int) : evFnL sm_32 FU (ovr noO (evFn sm_32 fns FU 0)) .nil ir32 (ofH [(.pair (.int .i64) (.pair (.int .i64) (.pair (.int .i64) (.pair (.int .i64) (.pair (.int .i64) (.pair (.int .i64) .unit)))))), (.int .i64)] (a0, a1, ())) [] (pureK [(.pair (.int .i64) (.pair (.int .i64) (.pair (.int .i64) (.pair (.int .i64) (.pair (.int .i64) (.pair (.int .i64) .unit))))))]) = F_32 a0 a1 := by kernel_rfl
noncomputable def Sp.p_32 (a0 : (Int × (Int × (Int × (Int × (Int × (Int × Unit))))))) (a1 : Int) : Bool := (F_32 a0 a1).isSome
noncomputable def Sp.v_32 (a0 : (Int × (Int × (Int × (Int × (Int × (Int × Unit))))))) (a1 : Int) : (Int × (Int × (Int × (Int × (Int × (Int × Unit)))))) × Unit := (F_32 a0 a1).getD (dfH [(.pair (.int .i64) (.pair (.int .i64) (.pair (.int .i64) (.pair (.int .i64) (.pair (.int .i64) (.pair (.int .i64) .unit))))))])
noncomputable def s_32 : Summ := shN [(.pair (.int .i64) (.pair (.int .i64) (.pair (.int .i64) (.pair (.int .i64) (.pair (.int .i64) (.pair (.int .i64) .unit)))))), (.int .i64)] [(.pair (.int .i64) (.pair (.int .i64) (.pair (.int .i64) (.pair (.int .i64) (.pair (.int .i64) (.pair (.int .i64) .unit))))))] (fun x => Sp.p_32 x.1 x.2.1) (fun x => Sp.v_32 x.1 x.2.1)
theorem pv_32 (a0 : (Int × (Int × (Int × (Int × (Int × (Int × Unit))))))) (a1 : Int) {y : (Int × (Int × (Int × (Int × (Int × (Int × Unit)))))) × Unit} (h : F_32 a0 a1 = some y) : Sp.p_32 a0 a1 = true ∧ Sp.v_32 a0 a1 = y := ⟨by rw [Sp.p_32, h]; rfl, by rw [Sp.v_32, h]; rfl⟩
theorem run_32 (x : HDen [(.pair (.int .i64) (.pair (.int .i64) (.pair (.int .i64) (.pair (.int .i64) (.pair (.int .i64) (.pair (.int .i64) .unit)))))), (.int .i64)]) (y : HDen [(.pair (.int .i64) (.pair (.int .i64) (.pair (.int .i64) (.pair (.int .i64) (.pair (.int .i64) (.pair (.int .i64) .unit))))))]) (h : F_32 x.1 x.2.1 = some y) : evFn sm_32 fns FU 1 32 (ofH [(.pair (.int .i64) (.pair (.int .i64) (.pair (.int .i64) (.pair (.int .i64) (.pair (.int .i64) (.pair (.int .i64) .unit)))))), (.int .i64)] x) [] (pureK [(.pair (.int .i64) (.pair (.int .i64) (.pair (.int .i64) (.pair (.int .i64) (.pair (.int .i64) (.pair (.int .i64) .unit))))))]) = some y :=
  evFnL_sound (fn := ir32) (t := .nil) (o := noO) rfl noO_ok trivial ((fn_32 _ _).trans h)
end
end Go.Ev
namespace Go.Ev
open Go
set_option maxRecDepth 100000
set_option maxHeartbeats 4000000
set_option linter.unusedVariables false
noncomputable section

noncomputable def sm_13 : Nat → Option Summ := fun f => bif Nat.beq f 15 then some s_15 else bif Nat.beq f 31 then some s_31 else bif Nat.beq f 32 then some s_32 else none


noncomputable def F_13 (a0 : (Int × (Int × (Int × (Int × (Int × (Int × Unit))))))) (a1 : Int) : Option ((Int × (Int × (Int × (Int × (Int × (Int × Unit)))))) × Unit) :=
  gd (Sp.p_15 a0) (bif !(Sp.v_15 a0).1 then some (a0, PUnit.unit) else gd (Sp.p_31 a1 (0 : Int) (1099511627776 : Int)) (bif !(Sp.v_31 a1 (0 : Int) (1099511627776 : Int)).1 then some (a0, PUnit.unit) else bif a0.1 == (1 : Int) then some (a0, PUnit.unit) else bif decide (a1 < a0.2.2.2.2.2.1) then some (a0, PUnit.unit) else gd (Sp.p_32 a0 (1 : Int)) (some ((Sp.v_32 a0 (1 : Int)).1, PUnit.unit))))
theorem fn_13 (a0 : (Int × (Int × (Int × (Int × (Int × (Int × Unit))))))) (a1 : Int) : evFnL sm_13 FU (ovr noO (evFn sm_13 fns FU 0)) .nil ir13 (ofH [(.pair (.int .i64) (.pair (.int .i64) (.pair (.int .i64) (.pair (.int .i64) (.pair (.int .i64) (.pair (.int .i64) .unit)))))), (.int .i64)] (a0, a1, ())) [] (pureK [(.pair (.int .i64) (.pair (.int .i64) (.pair (.int .i64) (.pair (.int .i64) (.pair (.int .i64) (.pair (.int .i64) .unit))))))]) = F_13 a0 a1 := by kernel_rfl
noncomputable def Sp.p_13 (a0 : (Int × (Int × (Int × (Int × (Int × (Int × Unit))))))) (a1 : Int) : Bool := (F_13 a0 a1).isSome
noncomputable def Sp.v_13 (a0 : (Int × (Int × (Int × (Int × (Int × (Int × Unit))))))) (a1 : Int) : (Int × (Int × (Int × (Int × (Int × (Int × Unit)))))) × Unit := (F_13 a0 a1).getD (dfH [(.pair (.int .i64) (.pair (.int .i64) (.pair (.int .i64) (.pair (.int .i64) (.pair (.int .i64) (.pair (.int .i64) .unit))))))])
noncomputable def s_13 : Summ := shN [(.pair (.int .i64) (.pair (.int .i64) (.pair (.int .i64) (.pair (.int .i64) (.pair (.int .i64) (.pair (.int .i64) .unit)))))), (.int .i64)] [(.pair (.int .i64) (.pair (.int .i64) (.pair (.int .i64) (.pair (.int .i64) (.pair (.int .i64) (.pair (.int .i64) .unit))))))] (fun x => Sp.p_13 x.1 x.2.1) (fun x => Sp.v_13 x.1 x.2.1)
theorem pv_13 (a0 : (Int × (Int × (Int × (Int × (Int × (Int × Unit))))))) (a1 : Int) {y : (Int × (Int × (Int × (Int × (Int × (Int × Unit)))))) × Unit} (h : F_13 a0 a1 = some y) : Sp.p_13 a0 a1 = true ∧ Sp.v_13 a0 a1 = y := ⟨by rw [Sp.p_13, h]; rfl, by rw [Sp.v_13, h]; rfl⟩
theorem run_13 (x : HDen [(.pair (.int .i64) (.pair (.int .i64) (.pair (.int .i64) (.pair (.int .i64) (.pair (.int .i64) (.pair (.int .i64) .unit)))))), (.int .i64)]) (y : HDen [(.pair (.int .i64) (.pair (.int .i64) (.pair (.int .i64) (.pair (.int .i64) (.pair (.int .i64) (.pair (.int .i64) .unit))))))]) (h : F_13 x.1 x.2.1 = some y) : evFn sm_13 fns FU 1 13 (ofH [(.pair (.int .i64) (.pair (.int .i64) (.pair (.int .i64) (.pair (.int .i64) (.pair (.int .i64) (.pair (.int .i64) .unit)))))), (.int .i64)] x) [] (pureK [(.pair (.int .i64) (.pair (.int .i64) (.pair (.int .i64) (.pair (.int .i64) (.pair (.int .i64) (.pair (.int .i64) .unit))))))]) = some y :=
  evFnL_sound (fn := ir13) (t := .nil) (o := noO) rfl noO_ok trivial ((fn_13 _ _).trans h)
end
end Go.Ev
namespace Go.Ev
open Go
set_option maxRecDepth 100000
set_option maxHeartbeats 4000000
set_option linter.unusedVariables false
noncomputable section

noncomputable def sm_16 : Nat → Option Summ := fun f => bif Nat.beq f 10 then some s_10 else none


noncomputable def F_16 (a0 : ((List (Int × (Int × (Int × (Int × (Int × (Int × (Bool × (Int × Unit))))))))) × ((List (Int × (Int × (Int × (Int × (Int × ((List Int) × (Int × Unit)))))))) × (Int × (Bool × Unit))))) : Option (((List (Int × (Int × (Int × (Int × (Int × (Int × (Bool × (Int × Unit))))))))) × ((List (Int × (Int × (Int × (Int × (Int × ((List Int) × (Int × Unit)))))))) × (Int × (Bool × Unit)))) × Int × Unit) :=
  gd (Sp.p_10 a0) (bif !(Sp.v_10 a0).1 then some (([], [], (0 : Int), false, PUnit.unit), (1 : Int), PUnit.unit) else gd ((↑(List.length (a0.2.1)) : Int) == (↑(List.length (a0.2.1)) : Int) && room (Int.toNat (↑(List.length (a0.2.1)) : Int)) (72 : Nat)) (some ((a0.1, List.replicate (Int.toNat (↑(List.length (a0.2.1)) : Int)) Zd1, a0.2.2), (0 : Int), PUnit.unit)))
theorem fn_16 (a0 : ((List (Int × (Int × (Int × (Int × (Int × (Int × (Bool × (Int × Unit))))))))) × ((List (Int × (Int × (Int × (Int × (Int × ((List Int) × (Int × Unit)))))))) × (Int × (Bool × Unit))))) : evFnL sm_16 FU (ovr noO (evFn sm_16 fns FU 0)) .nil ir16 (ofH [(.pair (.slice (.pair (.int .i64) (.pair (.int .i64) (.pair (.int .i64) (.pair (.int .i64) (.pair (.int .i64) (.pair (.int .i64) (.pair .bool (.pair (.int .i64) .unit))))))))) (.pair (.slice (.pair (.int .i64) (.pair (.int .i64) (.pair (.int .i64) (.pair (.int .i64) (.pair (.int .i64) (.pair (.slice (.int .i64)) (.pair (.int .i64) .unit)))))))) (.pair (.int .i64) (.pair .bool .unit))))] (a0, ())) [] (pureK [(.pair (.slice (.pair (.int .i64) (.pair (.int .i64) (.pair (.int .i64) (.pair (.int .i64) (.pair (.int .i64) (.pair (.int .i64) (.pair .bool (.pair (.int .i64) .unit))))))))) (.pair (.slice (.pair (.int .i64) (.pair (.int .i64) (.pair (.int .i64) (.pair (.int .i64) (.pair (.int .i64) (.pair (.slice (.int .i64)) (.pair (.int .i64) .unit)))))))) (.pair (.int .i64) (.pair .bool .unit)))), (.int .i64)]) = F_16 a0 := by kernel_rfl
noncomputable def Sp.p_16 (a0 : ((List (Int × (Int × (Int × (Int × (Int × (Int × (Bool × (Int × Unit))))))))) × ((List (Int × (Int × (Int × (Int × (Int × ((List Int) × (Int × Unit)))))))) × (Int × (Bool × Unit))))) : Bool := (F_16 a0).isSome
noncomputable def Sp.v_16 (a0 : ((List (Int × (Int × (Int × (Int × (Int × (Int × (Bool × (Int × Unit))))))))) × ((List (Int × (Int × (Int × (Int × (Int × ((List Int) × (Int × Unit)))))))) × (Int × (Bool × Unit))))) : ((List (Int × (Int × (Int × (Int × (Int × (Int × (Bool × (Int × Unit))))))))) × ((List (Int × (Int × (Int × (Int × (Int × ((List Int) × (Int × Unit)))))))) × (Int × (Bool × Unit)))) × Int × Unit := (F_16 a0).getD (dfH [(.pair (.slice (.pair (.int .i64) (.pair (.int .i64) (.pair (.int .i64) (.pair (.int .i64) (.pair (.int .i64) (.pair (.int .i64) (.pair .bool (.pair (.int .i64) .unit))))))))) (.pair (.slice (.pair (.int .i64) (.pair (.int .i64) (.pair (.int .i64) (.pair (.int .i64) (.pair (.int .i64) (.pair (.slice (.int .i64)) (.pair (.int .i64) .unit)))))))) (.pair (.int .i64) (.pair .bool .unit)))), (.int .i64)])
noncomputable def s_16 : Summ := shS [(.pair (.slice (.pair (.int .i64) (.pair (.int .i64) (.pair (.int .i64) (.pair (.int .i64) (.pair (.int .i64) (.pair (.int .i64) (.pair .bool (.pair (.int .i64) .unit))))))))) (.pair (.slice (.pair (.int .i64) (.pair (.int .i64) (.pair (.int .i64) (.pair (.int .i64) (.pair (.int .i64) (.pair (.slice (.int .i64)) (.pair (.int .i64) .unit)))))))) (.pair (.int .i64) (.pair .bool .unit))))] [(.pair (.slice (.pair (.int .i64) (.pair (.int .i64) (.pair (.int .i64) (.pair (.int .i64) (.pair (.int .i64) (.pair (.int .i64) (.pair .bool (.pair (.int .i64) .unit))))))))) (.pair (.slice (.pair (.int .i64) (.pair (.int .i64) (.pair (.int .i64) (.pair (.int .i64) (.pair (.int .i64) (.pair (.slice (.int .i64)) (.pair (.int .i64) .unit)))))))) (.pair (.int .i64) (.pair .bool .unit)))), (.int .i64)] (fun x => Sp.p_16 x.1) (fun x => Sp.v_16 x.1)
theorem pv_16 (a0 : ((List (Int × (Int × (Int × (Int × (Int × (Int × (Bool × (Int × Unit))))))))) × ((List (Int × (Int × (Int × (Int × (Int × ((List Int) × (Int × Unit)))))))) × (Int × (Bool × Unit))))) {y : ((List (Int × (Int × (Int × (Int × (Int × (Int × (Bool × (Int × Unit))))))))) × ((List (Int × (Int × (Int × (Int × (Int × ((List Int) × (Int × Unit)))))))) × (Int × (Bool × Unit)))) × Int × Unit} (h : F_16 a0 = some y) : Sp.p_16 a0 = true ∧ Sp.v_16 a0 = y := ⟨by rw [Sp.p_16, h]; rfl, by rw [Sp.v_16, h]; rfl⟩
theorem run_16 (x : HDen [(.pair (.slice (.pair (.int .i64) (.pair (.int .i64) (.pair (.int .i64) (.pair (.int .i64) (.pair (.int .i64) (.pair (.int .i64) (.pair .bool (.pair (.int .i64) .unit))))))))) (.pair (.slice (.pair (.int .i64) (.pair (.int .i64) (.pair (.int .i64) (.pair (.int .i64) (.pair (.int .i64) (.pair (.slice (.int .i64)) (.pair (.int .i64) .unit)))))))) (.pair (.int .i64) (.pair .bool .unit))))]) (y : HDen [(.pair (.slice (.pair (.int .i64) (.pair (.int .i64) (.pair (.int .i64) (.pair (.int .i64) (.pair (.int .i64) (.pair (.int .i64) (.pair .bool (.pair (.int .i64) .unit))))))))) (.pair (.slice (.pair (.int .i64) (.pair (.int .i64) (.pair (.int .i64) (.pair (.int .i64) (.pair (.int .i64) (.pair (.slice (.int .i64)) (.pair (.int .i64) .unit)))))))) (.pair (.int .i64) (.pair .bool .unit)))), (.int .i64)]) (h : F_16 x.1 = some y) : evFn sm_16 fns FU 1 16 (ofH [(.pair (.slice (.pair (.int .i64) (.pair (.int .i64) (.pair (.int .i64) (.pair (.int .i64) (.pair (.int .i64) (.pair (.int .i64) (.pair .bool (.pair (.int .i64) .unit))))))))) (.pair (.slice (.pair (.int .i64) (.pair (.int .i64) (.pair (.int .i64) (.pair (.int .i64) (.pair (.int .i64) (.pair (.slice (.int .i64)) (.pair (.int .i64) .unit)))))))) (.pair (.int .i64) (.pair .bool .unit))))] x) [] (pureK [(.pair (.slice (.pair (.int .i64) (.pair (.int .i64) (.pair (.int .i64) (.pair (.int .i64) (.pair (.int .i64) (.pair (.int .i64) (.pair .bool (.pair (.int .i64) .unit))))))))) (.pair (.slice (.pair (.int .i64) (.pair (.int .i64) (.pair (.int .i64) (.pair (.int .i64) (.pair (.int .i64) (.pair (.slice (.int .i64)) (.pair (.int .i64) .unit)))))))) (.pair (.int .i64) (.pair .bool .unit)))), (.int .i64)]) = some y :=
  evFnL_sound (fn := ir16) (t := .nil) (o := noO) rfl noO_ok trivial ((fn_16 _).trans h)
end
end Go.Ev
namespace Go.Ev
open Go
set_option maxRecDepth 100000
set_option maxHeartbeats 4000000
set_option linter.unusedVariables false
noncomputable section

noncomputable def sm_19 : Nat → Option Summ := fun f => bif Nat.beq f 31 then some s_31 else none


noncomputable def F_19 (a0 : Int) (a1 : Int) : Option (Int × Unit) :=
  gd (Sp.p_31 a0 (0 : Int) (65535 : Int)) (bif !(Sp.v_31 a0 (0 : Int) (65535 : Int)).1 then some ((0 : Int), PUnit.unit) else gd (Sp.p_31 a1 (0 : Int) (1 : Int)) (bif !(Sp.v_31 a1 (0 : Int) (1 : Int)).1 then some ((0 : Int), PUnit.unit) else some (Sp.andI IntKind.i64 (IntKind.wrap IntKind.i64 (IntKind.wrap IntKind.i64 (Sp.xorI IntKind.i64 a0 (23130 : Int) * (31 : Int)) + IntKind.wrap IntKind.i64 ((7 : Int) * a1))) (65535 : Int), PUnit.unit)))
theorem fn_19 (a0 : Int) (a1 : Int) : evFnL sm_19 FU (ovr noO (evFn sm_19 fns FU 0)) .nil ir19 (ofH [(.int .i64), (.int .i64)] (a0, a1, ())) [] (pureK [(.int .i64)]) = F_19 a0 a1 := by kernel_rfl
noncomputable def Sp.p_19 (a0 : Int) (a1 : Int) : Bool := (F_19 a0 a1).isSome
noncomputable def Sp.v_19 (a0 : Int) (a1 : Int) : Int × Unit := (F_19 a0 a1).getD (dfH [(.int .i64)])
noncomputable def s_19 : Summ := shN [(.int .i64), (.int .i64)] [(.int .i64)] (fun x => Sp.p_19 x.1 x.2.1) (fun x => Sp.v_19 x.1 x.2.1)
theorem pv_19 (a0 : Int) (a1 : Int) {y : Int × Unit} (h : F_19 a0 a1 = some y) : Sp.p_19 a0 a1 = true ∧ Sp.v_19 a0 a1 = y := ⟨by rw [Sp.p_19, h]; rfl, by rw [Sp.v_19, h]; rfl⟩
theorem run_19 (x : HDen [(.int .i64), (.int .i64)]) (y : HDen [(.int .i64)]) (h : F_19 x.1 x.2.1 = some y) : evFn sm_19 fns FU 1 19 (ofH [(.int .i64), (.int .i64)] x) [] (pureK [(.int .i64)]) = some y :=
  evFnL_sound (fn := ir19) (t := .nil) (o := noO) rfl noO_ok trivial ((fn_19 _ _).trans h)
end
end Go.Ev
namespace Go.Ev
open Go
set_option maxRecDepth 100000
set_option maxHeartbeats 4000000
set_option linter.unusedVariables false
noncomputable section

noncomputable def sm_43 : Nat → Option Summ := fun f => none


noncomputable def F_43 (a0 : (List Int)) : Option (Int × Unit) :=
  gd (inB (0 : Int) (List.length a0)) (bif List.getD a0 (0 : Nat) (0 : Int) == (16 : Int) then some ((2 : Int), PUnit.unit) else bif List.getD a0 (0 : Nat) (0 : Int) == (17 : Int) then some ((2 : Int), PUnit.unit) else bif List.getD a0 (0 : Nat) (0 : Int) == (62 : Int) then some ((2 : Int), PUnit.unit) else bif List.getD a0 (0 : Nat) (0 : Int) == (20 : Int) then some ((4 : Int), PUnit.unit) else bif List.getD a0 (0 : Nat) (0 : Int) == (25 : Int) then some ((3 : Int), PUnit.unit) else bif List.getD a0 (0 : Nat) (0 : Int) == (34 : Int) then some ((3 : Int), PUnit.unit) else bif List.getD a0 (0 : Nat) (0 : Int) == (39 : Int) then bif decide ((↑(List.length a0) : Int) > (1 : Int)) then gd (inB (1 : Int) (List.length a0)) (bif List.getD a0 (1 : Nat) (0 : Int) == (2 : Int) then some ((4 : Int), PUnit.unit) else some ((2 : Int), PUnit.unit)) else some ((2 : Int), PUnit.unit) else some ((0 : Int), PUnit.unit))
theorem fn_43 (a0 : (List Int)) : evFnL sm_43 FU (ovr noO (evFn sm_43 fns FU 0)) .nil ir43 (ofH [(.slice (.int .u8))] (a0, ())) [] (pureK [(.int .i64)]) = F_43 a0 := by kernel_rfl
noncomputable def Sp.p_43 (a0 : (List Int)) : Bool := (F_43 a0).isSome
noncomputable def Sp.v_43 (a0 : (List Int)) : Int × Unit := (F_43 a0).getD (dfH [(.int .i64)])
noncomputable def s_43 : Summ := shN [(.slice (.int .u8))] [(.int .i64)] (fun x => Sp.p_43 x.1) (fun x => Sp.v_43 x.1)
theorem pv_43 (a0 : (List Int)) {y : Int × Unit} (h : F_43 a0 = some y) : Sp.p_43 a0 = true ∧ Sp.v_43 a0 = y := ⟨by rw [Sp.p_43, h]; rfl, by rw [Sp.v_43, h]; rfl⟩
theorem run_43 (x : HDen [(.slice (.int .u8))]) (y : HDen [(.int .i64)]) (h : F_43 x.1 = some y) : evFn sm_43 fns FU 1 43 (ofH [(.slice (.int .u8))] x) [] (pureK [(.int .i64)]) = some y :=
  evFnL_sound (fn := ir43) (t := .nil) (o := noO) rfl noO_ok trivial ((fn_43 _).trans h)
end
end Go.Ev
namespace Go.Ev
open Go
set_option maxRecDepth 100000
set_option maxHeartbeats 4000000
set_option linter.unusedVariables false
noncomputable section

noncomputable def sm_44 : Nat → Option Summ := fun f => none


noncomputable def F_44 (a0 : (List Int)) : Option (Bool × Unit) :=
  gd (inB (0 : Int) (List.length a0)) (bif List.getD a0 (0 : Nat) (0 : Int) == (16 : Int) then gd (inB (1 : Int) (List.length a0)) (bif decide (List.getD a0 (1 : Nat) (0 : Int) ≥ (1 : Int)) then gd (inB (1 : Int) (List.length a0)) (some (decide (List.getD a0 (1 : Nat) (0 : Int) ≤ (3 : Int)), PUnit.unit)) else some (false, PUnit.unit)) else bif List.getD a0 (0 : Nat) (0 : Int) == (17 : Int) then gd (inB (1 : Int) (List.length a0)) (some (List.getD a0 (1 : Nat) (0 : Int) == (1 : Int), PUnit.unit)) else bif List.getD a0 (0 : Nat) (0 : Int) == (25 : Int) then gd (inB (1 : Int) (List.length a0)) (some (List.getD a0 (1 : Nat) (0 : Int) == (2 : Int), PUnit.unit)) else bif List.getD a0 (0 : Nat) (0 : Int) == (39 : Int) then gd (inB (1 : Int) (List.length a0)) (bif List.getD a0 (1 : Nat) (0 : Int) == (1 : Int) then some (true, PUnit.unit) else gd (inB (1 : Int) (List.length a0)) (some (List.getD a0 (1 : Nat) (0 : Int) == (2 : Int), PUnit.unit))) else bif List.getD a0 (0 : Nat) (0 : Int) == (62 : Int) then gd (inB (1 : Int) (List.length a0)) (bif List.getD a0 (1 : Nat) (0 : Int) == (0 : Int) then some (true, PUnit.unit) else gd (inB (1 : Int) (List.length a0)) (some (List.getD a0 (1 : Nat) (0 : Int) == (128 : Int), PUnit.unit))) else some (true, PUnit.unit))
theorem fn_44 (a0 : (List Int)) : evFnL sm_44 FU (ovr noO (evFn sm_44 fns FU 0)) .nil ir44 (ofH [(.slice (.int .u8))] (a0, ())) [] (pureK [.bool]) = F_44 a0 := by kernel_rfl
noncomputable def Sp.p_44 (a0 : (List Int)) : Bool := (F_44 a0).isSome
noncomputable def Sp.v_44 (a0 : (List Int)) : Bool × Unit := (F_44 a0).getD (dfH [.bool])
noncomputable def s_44 : Summ := shN [(.slice (.int .u8))] [.bool] (fun x => Sp.p_44 x.1) (fun x => Sp.v_44 x.1)
theorem pv_44 (a0 : (List Int)) {y : Bool × Unit} (h : F_44 a0 = some y) : Sp.p_44 a0 = true ∧ Sp.v_44 a0 = y := ⟨by rw [Sp.p_44, h]; rfl, by rw [Sp.v_44, h]; rfl⟩
theorem run_44 (x : HDen [(.slice (.int .u8))]) (y : HDen [.bool]) (h : F_44 x.1 = some y) : evFn sm_44 fns FU 1 44 (ofH [(.slice (.int .u8))] x) [] (pureK [.bool]) = some y :=
  evFnL_sound (fn := ir44) (t := .nil) (o := noO) rfl noO_ok trivial ((fn_44 _).trans h)
end
end Go.Ev
namespace Go.Ev
open Go
set_option maxRecDepth 100000
set_option maxHeartbeats 4000000
set_option linter.unusedVariables false
noncomputable section

noncomputable def sm_46 : Nat → Option Summ := fun f => none


noncomputable def F_46 (a0 : (List Int)) : Option ((List Int) × Int × Unit) :=
  some (a0, (0 : Int), PUnit.unit)
theorem fn_46 (a0 : (List Int)) : evFnL sm_46 FU (ovr noO (evFn sm_46 fns FU 0)) .nil ir46 (ofH [(.slice (.int .u8))] (a0, ())) [] (pureK [(.slice (.int .u8)), (.int .i64)]) = F_46 a0 := by kernel_rfl
noncomputable def Sp.p_46 (a0 : (List Int)) : Bool := (F_46 a0).isSome
noncomputable def Sp.v_46 (a0 : (List Int)) : (List Int) × Int × Unit := (F_46 a0).getD (dfH [(.slice (.int .u8)), (.int .i64)])
noncomputable def s_46 : Summ := shS [(.slice (.int .u8))] [(.slice (.int .u8)), (.int .i64)] (fun x => Sp.p_46 x.1) (fun x => Sp.v_46 x.1)
theorem pv_46 (a0 : (List Int)) {y : (List Int) × Int × Unit} (h : F_46 a0 = some y) : Sp.p_46 a0 = true ∧ Sp.v_46 a0 = y := ⟨by rw [Sp.p_46, h]; rfl, by rw [Sp.v_46, h]; rfl⟩
theorem run_46 (x : HDen [(.slice (.int .u8))]) (y : HDen [(.slice (.int .u8)), (.int .i64)]) (h : F_46 x.1 = some y) : evFn sm_46 fns FU 1 46 (ofH [(.slice (.int .u8))] x) [] (pureK [(.slice (.int .u8)), (.int .i64)]) = some y :=
  evFnL_sound (fn := ir46) (t := .nil) (o := noO) rfl noO_ok trivial ((fn_46 _).trans h)
end
end Go.Ev
namespace Go.Ev
open Go
set_option maxRecDepth 100000
set_option maxHeartbeats 4000000
set_option linter.unusedVariables false
noncomputable section

noncomputable def sm_56 : Nat → Option Summ := fun f => none
noncomputable def T_56_0 (p0 : Int) (p1 : Int) (p2 : List Int) : St := St.mk ([CV.int IntKind.i64 p0, jk, jk, jk, jk, CV.whole (0 : Nat), CV.int IntKind.i64 p1] ++ (jl 16)) [Blk.vec (5 : Nat) (Ty.int IntKind.u8) p2] (0 : Nat)
noncomputable def X_56_0_0 (p2 : List Int) : St := St.mk ([jk, jk, jk, jk, jk, CV.whole (0 : Nat)] ++ (jl 17)) [Blk.vec (5 : Nat) (Ty.int IntKind.u8) p2] (0 : Nat)
inductive Sp.E_56_0 where
  | e0 (p2 : List Int)
noncomputable def Sp.B_56_0 {R : Type} (r : Option Sp.E_56_0) (k0 : (List Int) → Option R) : Option R := match r with
  | none => none
  | some (.e0 p2) => k0 p2
noncomputable def Sp.L_56_0 : Nat → (Int) → (Int) → (List Int) → Option Sp.E_56_0
  | 0, _, _, _ => none
  | m + 1, p0, p1, p2 => bif decide (p1 ≥ (0 : Int)) then gd (inB p1 (List.length p2)) (gd (decide (Int.toNat p1 < List.length p2) && true && true) (Sp.L_56_0 m (Int.fdiv p0 (256 : Int)) (IntKind.wrap IntKind.i64 (p1 - (1 : Int))) (List.set p2 (Int.toNat p1) (IntKind.wrap IntKind.u8 p0)))) else some (Sp.E_56_0.e0 p2)
noncomputable def G_56_0 {R : Type} (p0 : Int) (p1 : Int) (p2 : List Int) (k : Ex → St → Option R) : Option R := Sp.B_56_0 (Sp.L_56_0 FU p0 p1 p2) (fun p2 => k (Ex.exit (0 : Nat)) (X_56_0_0 p2))
noncomputable def o_56_0 {R : Type} (G : (Int) → (Int) → (List Int) → (Ex → St → Option R) → Option R) : St → (Ex → St → Option R) → Option R := fun T k => match T.sl.getD 0 .junk, T.sl.getD 5 .junk, T.sl.getD 6 .junk, T.hp with
  | CV.int IntKind.i64 p0, CV.whole (0 : Nat), CV.int IntKind.i64 p1, ((Blk.vec (5 : Nat) (Ty.int IntKind.u8) p2) :: []) => gd (shapeOK T 23 [0, 5, 6] (0 : Nat)) (G p0 p1 p2 k)
  | _, _, _, _ => none
theorem o_56_0_inv {R : Type} {G : (Int) → (Int) → (List Int) → (Ex → St → Option R) → Option R} {T : St} {k : Ex → St → Option R} {r : R} (h : o_56_0 G T k = some r) : ∃ p0 p1 p2, T = T_56_0 p0 p1 p2 ∧ G p0 p1 p2 k = some r := by
  unfold o_56_0 at h
  split at h
  · obtain ⟨hs, h'⟩ := gd_some h
    refine ⟨_, _, _, (st_of (asg := [(0, _), (5, _), (6, _)]) hs ⟨by assumption, by assumption, by assumption, trivial⟩ (by assumption)).trans ?_, h'⟩
    kernel_rfl
  · cases h
noncomputable def O_56_56_0 {R : Type} : St → (Ex → St → Option R) → Option R := fun T k => o_56_0 G_56_0 T k
theorem body_56_0 {R : Type} (K0 : St → Option R) (K1 : Ex → St → Option R) (p0 : Int) (p1 : Int) (p2 : List Int) : evLB (evCodeL sm_56 FU (ovr noO (evFn sm_56 fns FU 0)) .nil ir56_b0) (St.norm ir56_v0) (T_56_0 p0 p1 p2) K0 K1 =
  bif decide (p1 ≥ (0 : Int)) then gd (inB p1 (List.length p2)) (gd (decide (Int.toNat p1 < List.length p2) && true && true) (K0 (T_56_0 (Int.fdiv p0 (256 : Int)) (IntKind.wrap IntKind.i64 (p1 - (1 : Int))) (List.set p2 (Int.toNat p1) (IntKind.wrap IntKind.u8 p0))))) else K1 (Ex.exit (0 : Nat)) (X_56_0_0 p2) := by kernel_rfl
theorem Bgd_56_0 {R : Type} {c : Bool} {x : Option R} {y : Option Sp.E_56_0} {k0 : (List Int) → Option R} (h : x = Sp.B_56_0 y k0) : gd c x = Sp.B_56_0 (gd c y) k0 := by cases c; rfl; exact h
theorem Bcond_56_0 {R : Type} {c : Bool} {x x' : Option R} {y y' : Option Sp.E_56_0} {k0 : (List Int) → Option R} (h : x = Sp.B_56_0 y k0) (h' : x' = Sp.B_56_0 y' k0) : (bif c then x else x') = Sp.B_56_0 (bif c then y else y') k0 := by cases c; exact h'; exact h
theorem loop_56_0 {R : Type} (k : Ex → St → Option R) : ∀ (m : Nat) (p0 : Int) (p1 : Int) (p2 : List Int), evLoopN (evCodeL sm_56 FU (ovr noO (evFn sm_56 fns FU 0)) .nil ir56_b0) (St.norm ir56_v0) m (T_56_0 p0 p1 p2) k = Sp.B_56_0 (Sp.L_56_0 m p0 p1 p2) (fun p2 => k (Ex.exit (0 : Nat)) (X_56_0_0 p2))
  | 0, _, _, _ => rfl
  | m + 1, p0, p1, p2 => by
    rw [evLoopN_succ, body_56_0, Sp.L_56_0]
    repeat' first | apply Bgd_56_0 | apply Bcond_56_0 | exact loop_56_0 k m _ _ _ | rfl
theorem ok_56_0 {R : Type} (T : St) (k : Ex → St → Option R) (r : R) (h0 : o_56_0 G_56_0 T k = some r) : evLoopN (evCode sm_56 FU (evFn sm_56 fns FU 0) ir56_b0) (St.norm ir56_v0) FU T k = some r := by
  obtain ⟨p0, p1, p2, rfl, h⟩ := o_56_0_inv h0
  refine evLoopN_L (t := .nil) noO_ok trivial _ _ _ _ ?_
  rw [loop_56_0]
  exact h
theorem OK_56_56_0 {R : Type} (T : St) (k : Ex → St → Option R) (r : R) (h : O_56_56_0 T k = some r) : evLoopN (evCode sm_56 FU (evFn sm_56 fns FU 0) ir56_b0) (St.norm ir56_v0) FU T k = some r := ok_56_0 T k r h
noncomputable def F_56 (a0 : Int) (a1 : Int) : Option ((List Int) × Unit) :=
  gd (decide ((0 : Int) ≤ a1) && (a1 == a1 && room (Int.toNat a1) (1 : Nat))) (Sp.B_56_0 (Sp.L_56_0 (4611686018427387904 : Nat) a0 (IntKind.wrap IntKind.i64 (a1 - (1 : Int))) (List.replicate (Int.toNat a1) (0 : Int))) fun y1 => some (y1, PUnit.unit))
theorem fn_56 (a0 : Int) (a1 : Int) : evFnL sm_56 FU (ovr noO (evFn sm_56 fns FU 0)) (ir56_t O_56_56_0) ir56 (ofH [(.int .i64), (.int .i64)] (a0, a1, ())) [] (pureK [(.slice (.int .u8))]) = F_56 a0 a1 := by kernel_rfl
noncomputable def Sp.p_56 (a0 : Int) (a1 : Int) : Bool := (F_56 a0 a1).isSome
noncomputable def Sp.v_56 (a0 : Int) (a1 : Int) : (List Int) × Unit := (F_56 a0 a1).getD (dfH [(.slice (.int .u8))])
noncomputable def s_56 : Summ := shS [(.int .i64), (.int .i64)] [(.slice (.int .u8))] (fun x => Sp.p_56 x.1 x.2.1) (fun x => Sp.v_56 x.1 x.2.1)
theorem pv_56 (a0 : Int) (a1 : Int) {y : (List Int) × Unit} (h : F_56 a0 a1 = some y) : Sp.p_56 a0 a1 = true ∧ Sp.v_56 a0 a1 = y := ⟨by rw [Sp.p_56, h]; rfl, by rw [Sp.v_56, h]; rfl⟩
theorem run_56 (x : HDen [(.int .i64), (.int .i64)]) (y : HDen [(.slice (.int .u8))]) (h : F_56 x.1 x.2.1 = some y) : evFn sm_56 fns FU 1 56 (ofH [(.int .i64), (.int .i64)] x) [] (pureK [(.slice (.int .u8))]) = some y :=
  evFnL_sound (fn := ir56) (t := (ir56_t O_56_56_0)) (o := noO) rfl noO_ok (ir56_tok (fun T k r => OK_56_56_0 T k r)) ((fn_56 _ _).trans h)
end
end Go.Ev
