/- Helpers: functions of the program as Lean functions, and what they compute. No condition. -/
import Derived.Test.YtfbegeikpjdpiaaG6P2
import Derived.Test.YtfbegeikpjdpiaaG6P1
set_option maxRecDepth 10000
set_option linter.unusedVariables false
set_option linter.unusedSimpArgs false
open Go.IntKind (wrap i64 i32 i16 i8 u64 u32 u16 u8)
open List (getD length take drop replicate)
open Int (toNat)
open Go.Ev.Sp
set_option linter.unusedSimpArgs false
set_option linter.unusedVariables false
namespace Go.Ev
open Go
set_option maxRecDepth 100000
set_option maxHeartbeats 4000000
theorem hwr_sub {m : MeT} {k i n : Nat} (h : i + n ≤ Sp.hsz m) : take n (drop (Sp.hbs m k + i) m.1.1) = take n (drop i (Sp.hwr m k)) := by
 unfold Sp.hwr
 rw [List.drop_take, List.take_take, List.drop_drop, Nat.min_eq_left (by omega)]
theorem nmb_blank : Sp.nmb 4294967295 = (65535, false) := by decide
/-- The loop over the records, with some entries already. -/
theorem lg1 {m : MeT} (hw : W32f m.1) (hv : Sp.fv m.1 = true) (hp : Sp.plc m = true) {k : Nat} (hk : k < 2) (l : List Int) (hl : l = Sp.hwr m k) : ∀ (f q i : Nat) (es : List EnT), Asc es → es.length ≤ i → i ≤ l.length → l.length - i ≤ f → f < q → ∀ R, R = Sp.rdl l f i es →
   L_62_0_1 q k l.length es i m = some (if R.1 < l.length ∧ l.getD R.1 0 ≠ 4294967295 then .e0 l.length R.2 else .e1 k l.length R.2 (R.1 : Nat) m) ∧ Asc R.2 := by
 have b := pl_b hv hp
 have bk := pl_k hv hp hk
 have hln : l.length = Sp.hsz m := by rw [hl]; exact hwr_len hv hp hk
 have hW : W32l l := by rw [hl]; exact hw.half k
 have bs := rbs_pv hv hp hk
 intro f
 induction f with
 | zero =>
   intro q i es ha hn hi hf hq R hR
   obtain ⟨q, rfl⟩ : ∃ k, q = k + 1 := ⟨q - 1, by omega⟩
   rw [Sp.rdl] at hR
   subst hR
   refine ⟨?_, ha⟩
   rw [if_neg (fun z => by have := z.1; dsimp only at this; omega), L_62_0_1, S_62_0_1, cond_dff (by omega)]
 | succ f ih =>
   intro q i es ha hn hi hf hq R hR
   obtain ⟨q, rfl⟩ : ∃ k, q = k + 1 := ⟨q - 1, by omega⟩
   obtain ⟨n, key, ok, h⟩ := hd_at hW i
   have hn2 := h.n
   have hk0 := h.k0
   have hk1 := h.k1
   rw [rdl_s h] at hR
   by_cases c1 : i < l.length
   rotate_left
   · rw [if_neg (fun a => c1 a.1)] at hR
     subst hR
     refine ⟨?_, ha⟩
     rw [if_neg (fun z => c1 z.1), L_62_0_1, S_62_0_1, cond_dff (by omega)]
   have wi := rwd_pv hv hp hk (i := i) (by omega)
   rw [← hl] at wi
   have hx := hW.at i
   have nv := rnum_pv hx.1 hx.2
   rw [L_62_0_1, S_62_0_1, cond_dtt (by omega), wi.1, wi.2, gd_tt]
   by_cases c0 : l.getD i 0 = 4294967295
   · have eo : ok = false := by
       have := h.e
       rw [c0, nmb_blank] at this
       exact (congrArg Prod.snd this).symm
     rw [if_neg (fun a => by rw [eo] at a; exact Bool.noConfusion a.2.1)] at hR
     subst hR
     rw [cond_nff c0]
     exact ⟨by rw [if_neg (fun z => z.2 c0)], ha⟩
   rw [cond_ntt c0, gd_tt, nv.1, nv.2, gd_tt, h.e]
   dsimp only
   have stop : some (E_62_0_1.e0 l.length es) = some (if i < l.length ∧ l.getD i 0 ≠ 4294967295 then .e0 l.length es else .e1 k l.length es (i : Nat) m) := by rw [if_pos ⟨c1, c0⟩]
   cases ok with
   | false =>
     rw [if_neg (fun a => Bool.noConfusion a.2.1)] at hR
     subst hR
     rw [Bool.not_false, cond_t]
     exact ⟨stop, ha⟩
   | true =>
   have e1 : Int.tdiv (key * 256 + (n : Int)) 256 = key := by rw [Int.tdiv_eq_ediv_of_nonneg (by omega)]; omega
   have e2 : Int.tmod (key * 256 + (n : Int)) 256 = (n : Int) := by rw [Int.tmod_eq_emod_of_nonneg (by omega)]; omega
   have ky := rky_pv key
   rw [Bool.not_true, cond_f, e1, e2, wi64 (n := key) (by omega) (by omega), ky.1, ky.2, gd_tt, decide_eq_true hk0, Bool.true_and]
   by_cases c2 : key ≤ 254
   rotate_left
   · rw [if_neg (fun a => c2 a.2.2.1)] at hR
     subst hR
     rw [decide_eq_false c2]
     exact ⟨stop, ha⟩
   rw [decide_eq_true c2, Bool.not_true, cond_f]
   by_cases c3 : (n : Int) > 24
   · rw [if_neg (fun a => by omega)] at hR
     subst hR
     rw [cond_dtt c3]
     exact ⟨stop, ha⟩
   rw [cond_dff c3, wi64 (n := (i : Int) + (n : Int)) (by omega) (by omega), wi64 (n := (i : Int) + (n : Int) + 2) (by omega) (by omega), wi64 (n := (i : Int) + (n : Int) + 1) (by omega) (by omega)]
   by_cases c4 : (i : Int) + (n : Int) + 2 > (l.length : Int)
   · rw [if_neg (fun a => by omega)] at hR
     subst hR
     rw [cond_dtt c4]
     exact ⟨stop, ha⟩
   have wy := rwd_pv hv hp hk (i := i + n + 1) (by omega)
   rw [← hl] at wy
   have hy := hW.at (i + n + 1)
   have ny := rnum_pv hy.1 hy.2
   rw [if_pos (show i < l.length ∧ true = true ∧ key ≤ 254 ∧ n ≤ 24 ∧ i + n + 2 ≤ l.length from ⟨c1, rfl, c2, by omega, by omega⟩)] at hR
   rw [cond_dff c4, bs.1, bs.2, gd_tt]
   dsimp only
   rw [wi64 (n := (Sp.hbs m k : Int) + (i : Int)) (by omega) (by omega), wi64 (n := (Sp.hbs m k : Int) + (i : Int) + (n : Int)) (by omega) (by omega), wi64 (n := (Sp.hbs m k : Int) + (i : Int) + (n : Int) + 1) (by omega) (by omega), gd_sl3 (by omega) (by omega) (by omega),
     show (i : Int) + (n : Int) + 1 = ((i + n + 1 : Nat) : Int) by push_cast; rfl, show (i : Int) + (n : Int) + 2 = ((i + n + 2 : Nat) : Int) by push_cast; rfl, wy.1, wy.2, gd_tt, ny.1, ny.2, gd_tt,
     show ((Sp.hbs m k : Int) + (i : Int) + (n : Int) + 1).toNat - ((Sp.hbs m k : Int) + (i : Int)).toNat = n + 1 by omega, show ((Sp.hbs m k : Int) + (i : Int)).toNat = Sp.hbs m k + i by omega, hwr_sub (by omega), ← hl]
   dsimp only
   have next : ∀ es', Asc es' → es'.length ≤ es.length + 1 → _ := fun es' g1 g2 => ih q (i + n + 2) es' g1 (by omega) (by omega) (by omega) (by omega) R
   cases hb : (Sp.nmb (l.getD (i + n + 1) 0)).2 with
   | false =>
     rw [hb, if_neg (fun a => Bool.noConfusion a.1)] at hR
     rw [cond_f]
     exact next es ha (by omega) hR
   | true =>
   have tl : (take (n + 1) (drop i l)).length = n + 1 := by rw [List.length_take, List.length_drop]; omega
   have s := rsum_pv (W32l.td hW (n + 1) i) (by omega)
   rw [cond_t, s.1, s.2, gd_tt]
   dsimp only
   by_cases c5 : (Sp.nmb (l.getD (i + n + 1) 0)).1 = Sp.smw (take (n + 1) (drop i l))
   rotate_left
   · rw [if_neg (fun a => c5 a.2)] at hR
     rw [cond_eff c5]
     exact next es ha (by omega) hR
   have dl : (take n (drop (i + 1) l)).length ≤ 24 := by rw [List.length_take]; omega
   have pt := rput_pv ha key (data := take n (drop (i + 1) l)) (by omega) (by omega)
   rw [if_pos ⟨hb, c5⟩] at hR
   rw [cond_ett c5, tl, gd_sl3 (by omega) (by omega) (by omega), List.drop_take, List.drop_drop, show n + 1 - 1 = n from rfl, pt.1, pt.2, gd_tt]
   exact next _ (ha.put key _) (putE_len _ _ _) hR
/-- The loop over the records, from no entries on. -/
theorem lg0 {m : MeT} (hw : W32f m.1) (hv : Sp.fv m.1 = true) (hp : Sp.plc m = true) {k : Nat} (hk : k < 2) (l : List Int) (hl : l = Sp.hwr m k) : ∀ (f q i : Nat), i ≤ l.length → l.length - i ≤ f → f < q → ∀ R, R = Sp.rdl l f i [] →
   ((L_62_0 q k l.length i m [] = some (if R.1 < l.length ∧ l.getD R.1 0 ≠ 4294967295 then .e0 l.length [] else .e1 k l.length (R.1 : Nat) m []) ∧ R.2 = []) ∨
    L_62_0 q k l.length i m [] = some (if R.1 < l.length ∧ l.getD R.1 0 ≠ 4294967295 then .e2 l.length R.2 else .e3 k l.length R.2 (R.1 : Nat) m)) ∧ Asc R.2 := by
 have b := pl_b hv hp
 have bk := pl_k hv hp hk
 have hln : l.length = Sp.hsz m := by rw [hl]; exact hwr_len hv hp hk
 have hW : W32l l := by rw [hl]; exact hw.half k
 have bs := rbs_pv hv hp hk
 have ha : Asc [] := fun i j _ h => absurd h (Nat.not_lt_zero _)
 intro f
 induction f with
 | zero =>
   intro q i hi hf hq R hR
   obtain ⟨q, rfl⟩ : ∃ k, q = k + 1 := ⟨q - 1, by omega⟩
   rw [Sp.rdl] at hR
   subst hR
   refine ⟨.inl ⟨?_, rfl⟩, ha⟩
   rw [if_neg (fun z => by have := z.1; dsimp only at this; omega), L_62_0, S_62_0, cond_dff (by omega)]
 | succ f ih =>
   intro q i hi hf hq R hR
   obtain ⟨q, rfl⟩ : ∃ k, q = k + 1 := ⟨q - 1, by omega⟩
   obtain ⟨n, key, ok, h⟩ := hd_at hW i
   have hn2 := h.n
   have hk0 := h.k0
   have hk1 := h.k1
   rw [rdl_s h] at hR
   by_cases c1 : i < l.length
   rotate_left
   · rw [if_neg (fun a => c1 a.1)] at hR
     subst hR
     refine ⟨.inl ⟨?_, rfl⟩, ha⟩
     rw [if_neg (fun z => c1 z.1), L_62_0, S_62_0, cond_dff (by omega)]
   have wi := rwd_pv hv hp hk (i := i) (by omega)
   rw [← hl] at wi
   have hx := hW.at i
   have nv := rnum_pv hx.1 hx.2
   rw [L_62_0, S_62_0, cond_dtt (by omega), wi.1, wi.2, gd_tt]
   by_cases c0 : l.getD i 0 = 4294967295
   · have eo : ok = false := by
       have := h.e
       rw [c0, nmb_blank] at this
       exact (congrArg Prod.snd this).symm
     rw [if_neg (fun a => by rw [eo] at a; exact Bool.noConfusion a.2.1)] at hR
     subst hR
     rw [cond_nff c0]
     exact ⟨.inl ⟨by rw [if_neg (fun z => z.2 c0)], rfl⟩, ha⟩
   rw [cond_ntt c0, gd_tt, nv.1, nv.2, gd_tt, h.e]
   dsimp only
   have stop : some (E_62_0.e0 l.length []) = some (if i < l.length ∧ l.getD i 0 ≠ 4294967295 then .e0 l.length [] else .e1 k l.length (i : Nat) m []) := by rw [if_pos ⟨c1, c0⟩]
   cases ok with
   | false =>
     rw [if_neg (fun a => Bool.noConfusion a.2.1)] at hR
     subst hR
     rw [Bool.not_false, cond_t]
     exact ⟨.inl ⟨stop, rfl⟩, ha⟩
   | true =>
   have e1 : Int.tdiv (key * 256 + (n : Int)) 256 = key := by rw [Int.tdiv_eq_ediv_of_nonneg (by omega)]; omega
   have e2 : Int.tmod (key * 256 + (n : Int)) 256 = (n : Int) := by rw [Int.tmod_eq_emod_of_nonneg (by omega)]; omega
   have ky := rky_pv key
   rw [Bool.not_true, cond_f, e1, e2, wi64 (n := key) (by omega) (by omega), ky.1, ky.2, gd_tt, decide_eq_true hk0, Bool.true_and]
   by_cases c2 : key ≤ 254
   rotate_left
   · rw [if_neg (fun a => c2 a.2.2.1)] at hR
     subst hR
     rw [decide_eq_false c2]
     exact ⟨.inl ⟨stop, rfl⟩, ha⟩
   rw [decide_eq_true c2, Bool.not_true, cond_f]
   by_cases c3 : (n : Int) > 24
   · rw [if_neg (fun a => by omega)] at hR
     subst hR
     rw [cond_dtt c3]
     exact ⟨.inl ⟨stop, rfl⟩, ha⟩
   rw [cond_dff c3, wi64 (n := (i : Int) + (n : Int)) (by omega) (by omega), wi64 (n := (i : Int) + (n : Int) + 2) (by omega) (by omega), wi64 (n := (i : Int) + (n : Int) + 1) (by omega) (by omega)]
   by_cases c4 : (i : Int) + (n : Int) + 2 > (l.length : Int)
   · rw [if_neg (fun a => by omega)] at hR
     subst hR
     rw [cond_dtt c4]
     exact ⟨.inl ⟨stop, rfl⟩, ha⟩
   have wy := rwd_pv hv hp hk (i := i + n + 1) (by omega)
   rw [← hl] at wy
   have hy := hW.at (i + n + 1)
   have ny := rnum_pv hy.1 hy.2
   rw [if_pos (show i < l.length ∧ true = true ∧ key ≤ 254 ∧ n ≤ 24 ∧ i + n + 2 ≤ l.length from ⟨c1, rfl, c2, by omega, by omega⟩)] at hR
   rw [cond_dff c4, bs.1, bs.2, gd_tt]
   dsimp only
   rw [wi64 (n := (Sp.hbs m k : Int) + (i : Int)) (by omega) (by omega), wi64 (n := (Sp.hbs m k : Int) + (i : Int) + (n : Int)) (by omega) (by omega), wi64 (n := (Sp.hbs m k : Int) + (i : Int) + (n : Int) + 1) (by omega) (by omega), gd_sl3 (by omega) (by omega) (by omega),
     show (i : Int) + (n : Int) + 1 = ((i + n + 1 : Nat) : Int) by push_cast; rfl, show (i : Int) + (n : Int) + 2 = ((i + n + 2 : Nat) : Int) by push_cast; rfl, wy.1, wy.2, gd_tt, ny.1, ny.2, gd_tt,
     show ((Sp.hbs m k : Int) + (i : Int) + (n : Int) + 1).toNat - ((Sp.hbs m k : Int) + (i : Int)).toNat = n + 1 by omega, show ((Sp.hbs m k : Int) + (i : Int)).toNat = Sp.hbs m k + i by omega, hwr_sub (by omega), ← hl]
   dsimp only
   have next := ih q (i + n + 2) (by omega) (by omega) (by omega) R
   cases hb : (Sp.nmb (l.getD (i + n + 1) 0)).2 with
   | false =>
     rw [hb, if_neg (fun a => Bool.noConfusion a.1)] at hR
     rw [cond_f]
     exact next hR
   | true =>
   have tl : (take (n + 1) (drop i l)).length = n + 1 := by rw [List.length_take, List.length_drop]; omega
   have s := rsum_pv (W32l.td hW (n + 1) i) (by omega)
   rw [cond_t, s.1, s.2, gd_tt]
   dsimp only
   by_cases c5 : (Sp.nmb (l.getD (i + n + 1) 0)).1 = Sp.smw (take (n + 1) (drop i l))
   rotate_left
   · rw [if_neg (fun a => c5 a.2)] at hR
     rw [cond_eff c5]
     exact next hR
   have dl : (take n (drop (i + 1) l)).length ≤ 24 := by rw [List.length_take]; omega
   have pt := rput_pv ha key (data := take n (drop (i + 1) l)) (by omega) (by decide)
   rw [if_pos ⟨hb, c5⟩] at hR
   rw [cond_ett c5, tl, gd_sl3 (by omega) (by omega) (by omega), List.drop_take, List.drop_drop, show n + 1 - 1 = n from rfl, pt.1, pt.2, gd_tt]
   have r := lg1 hw hv hp hk l hl f q (i + n + 2) (Sp.putE [] key (take n (drop (i + 1) l))) (ha.put key _) (by have := putE_len [] key (take n (drop (i + 1) l)); rw [List.length_nil] at this; omega) (by omega) (by omega) (by omega) R hR
   refine ⟨.inr ?_, r.2⟩
   refine (congrArg (fun z => B_62_0_1 z _ _) r.1).trans ?_
   split <;> rfl
theorem blk_s {l : List Int} {j : Nat} (h : j < l.length) : Sp.blk l j = ((l.getD j 0 == 4294967295) && Sp.blk l (j + 1)) := by
 unfold Sp.blk
 have dr : l.drop j = l.getD j 0 :: l.drop (j + 1) := by
   rw [List.drop_eq_getElem_cons h, List.getD_eq_getElem?_getD, List.getElem?_eq_getElem h]; rfl
 rw [dr, List.all_cons]
theorem blk_e {l : List Int} {j : Nat} (h : l.length ≤ j) : Sp.blk l j = true := by
 unfold Sp.blk
 rw [List.drop_of_length_le h]; rfl
theorem tb0 {m : MeT} (hv : Sp.fv m.1 = true) (hp : Sp.plc m = true) {k : Nat} (hk : k < 2) (l : List Int) (hl : l = Sp.hwr m k) (e : Int) (es : List EnT) : ∀ (d q j : Nat), j + d = l.length → d < q → L_62_2 q k l.length e j m es = some (if Sp.blk l j = true then .e1 e es else .e0 l.length es) := by
 have b := pl_b hv hp
 have hln : l.length = Sp.hsz m := by rw [hl]; exact hwr_len hv hp hk
 intro d
 induction d with
 | zero =>
   intro q j hj hq
   obtain ⟨q, rfl⟩ : ∃ k, q = k + 1 := ⟨q - 1, by omega⟩
   rw [L_62_2, S_62_2, cond_dff (by omega), blk_e (by omega), if_pos rfl]
 | succ d ih =>
   intro q j hj hq
   obtain ⟨q, rfl⟩ : ∃ k, q = k + 1 := ⟨q - 1, by omega⟩
   have wi := rwd_pv hv hp hk (i := j) (by omega)
   rw [← hl] at wi
   rw [L_62_2, S_62_2, cond_dtt (by omega), wi.1, wi.2, gd_tt, blk_s (by omega)]
   by_cases c : l.getD j 0 = 4294967295
   · rw [cond_nff c, beq_iff_eq.2 c, Bool.true_and, wi64 (by omega) (by omega), show (j : Int) + 1 = ((j + 1 : Nat) : Int) by push_cast; rfl]
     exact ih q (j + 1) (by omega) (by omega)
   · rw [cond_ntt c, beq_eq_false_iff_ne.2 c, Bool.false_and, if_neg Bool.false_ne_true]
theorem tb1 {m : MeT} (hv : Sp.fv m.1 = true) (hp : Sp.plc m = true) {k : Nat} (hk : k < 2) (l : List Int) (hl : l = Sp.hwr m k) (e : Int) (es : List EnT) : ∀ (d q j : Nat), j + d = l.length → d < q → L_62_2_1 q k l.length es e j m = some (if Sp.blk l j = true then .e1 es e else .e0 l.length es) := by
 have b := pl_b hv hp
 have hln : l.length = Sp.hsz m := by rw [hl]; exact hwr_len hv hp hk
 intro d
 induction d with
 | zero =>
   intro q j hj hq
   obtain ⟨q, rfl⟩ : ∃ k, q = k + 1 := ⟨q - 1, by omega⟩
   rw [L_62_2_1, S_62_2_1, cond_dff (by omega), blk_e (by omega), if_pos rfl]
 | succ d ih =>
   intro q j hj hq
   obtain ⟨q, rfl⟩ : ∃ k, q = k + 1 := ⟨q - 1, by omega⟩
   have wi := rwd_pv hv hp hk (i := j) (by omega)
   rw [← hl] at wi
   rw [L_62_2_1, S_62_2_1, cond_dtt (by omega), wi.1, wi.2, gd_tt, blk_s (by omega)]
   by_cases c : l.getD j 0 = 4294967295
   · rw [cond_nff c, beq_iff_eq.2 c, Bool.true_and, wi64 (by omega) (by omega), show (j : Int) + 1 = ((j + 1 : Nat) : Int) by push_cast; rfl]
     exact ih q (j + 1) (by omega) (by omega)
   · rw [cond_ntt c, beq_eq_false_iff_ne.2 c, Bool.false_and, if_neg Bool.false_ne_true]
namespace Sp
/-- The entries of a half, and its first free word. -/
noncomputable def lgv (l : List Int) : List EnT × Int × Unit := ((rdl l l.length 1 []).2, (if blk l (rdl l l.length 1 []).1 = true then ((rdl l l.length 1 []).1 : Int) else (l.length : Int)), ())
end Sp
theorem rlog_pv {m : MeT} (hw : W32f m.1) (hv : Sp.fv m.1 = true) (hp : Sp.plc m = true) {k : Nat} (hk : k < 2) : (p_62 m k = true ∧ v_62 m k = Sp.lgv (Sp.hwr m k)) ∧ Asc (Sp.rdv (Sp.hwr m k)).1 := by
 have b := pl_b hv hp
 have hln : (Sp.hwr m k).length = Sp.hsz m := hwr_len hv hp hk
 have sz := rsz_pv hv hp
 have rb := rdv_b (hw.half k) (by omega) (by omega)
 generalize hl : Sp.hwr m k = l at *
 have g := lg0 hw hv hp hk l hl.symm l.length 4611686018427387904 1 (by omega) (by omega) (by omega) _ rfl
 refine ⟨pv_62 m k ?_, g.2⟩
 unfold F_62 Sp.lgv
 unfold Sp.rdv at rb
 dsimp only at rb
 generalize Sp.rdl l l.length 1 [] = R at *
 obtain ⟨e, es⟩ := R
 dsimp only at *
 rw [sz.1, sz.2, gd_tt]
 dsimp only
 rw [← hln]
 rcases g.1 with ⟨g1, rfl⟩ | g1
 · refine (congrArg (fun z => B_62_0 z _ _ _ _) g1).trans ?_
   split
   · rename_i c
     rw [blk_s c.1, beq_eq_false_iff_ne.2 c.2, Bool.false_and, if_neg Bool.false_ne_true]
     rfl
   · have t := tb0 hv hp hk l hl.symm (e : Nat) [] (l.length - e) 4611686018427387904 e (by omega) (by omega)
     unfold B_62_0
     dsimp only
     unfold J_62_1 S_62_1
     rw [t]
     split <;> rfl
 · refine (congrArg (fun z => B_62_0 z _ _ _ _) g1).trans ?_
   split
   · rename_i c
     rw [blk_s c.1, beq_eq_false_iff_ne.2 c.2, Bool.false_and, if_neg Bool.false_ne_true]
     rfl
   · have t := tb1 hv hp hk l hl.symm (e : Nat) es (l.length - e) 4611686018427387904 e (by omega) (by omega)
     unfold B_62_0
     dsimp only
     unfold J_62_1_1 S_62_1_1
     rw [t]
     split <;> rfl
set_option maxRecDepth 100000
set_option maxHeartbeats 4000000
/-- With power enough nothing is interrupted. -/
theorem dol_full : ∀ (l : List StT) {s : RsT}, s.2.2.1 = 0 → (l.length : Int) + 1 < s.2.1.1 → (Sp.dol l s).2.2.1 ≠ 19 → (Sp.dol l s).2.2.1 = 0
 | [], s, e, _, _ => e
 | x :: l, s, e, hp, hn => by
   rw [List.length_cons] at hp
   rw [Sp.dol, if_pos e] at hn ⊢
   have h : (Sp.dop s x).2.2.1 = 19 ∨ (Sp.dop s x).2.2.1 = 0 ∧ (Sp.dop s x).2.1.1 = s.2.1.1 - 1 := by
     unfold Sp.dop
     cases x.1
     · rw [if_neg Bool.false_ne_true]
       right
       unfold Sp.prg
       rw [if_neg (by omega), if_neg (by omega)]
       exact ⟨rfl, rfl⟩
     · rw [if_pos rfl]
       unfold Sp.ers
       split
       · exact .inl rfl
       right
       rw [if_neg (by omega), if_neg (by omega)]
       exact ⟨rfl, rfl⟩
   rcases h with h | ⟨h, h2⟩
   · exfalso
     rw [dol_stop l (by rw [h]; decide)] at hn
     exact hn h
   · exact dol_full l h (by omega) hn
/-- Words programmed one after the other into blank ones. -/
theorem pgl_w {f0 : FlT} : ∀ (ws : List Int) (a : Nat) {t : RsT}, SG f0 t → t.2.2.1 = 0 → W32l ws → a + ws.length ≤ f0.1.length → (∀ i, a ≤ i → i < a + ws.length → t.1.1.getD i 0 = 4294967295) → (Sp.dol (Sp.pgl ws a) t).2.2.1 = 0 →
   SG f0 (Sp.dol (Sp.pgl ws a) t) ∧ (∀ i, a ≤ i → i < a + ws.length → (Sp.dol (Sp.pgl ws a) t).1.1.getD i 0 = ws.getD (i - a) 0) ∧ (∀ i, i < a ∨ a + ws.length ≤ i → (Sp.dol (Sp.pgl ws a) t).1.1.getD i 0 = t.1.1.getD i 0)
 | [], a, t, g, e, hw, hl, hb, h0 => ⟨g, fun i h1 h2 => by rw [List.length_nil] at h2; omega, fun _ _ => rfl⟩
 | w :: ws, a, t, g, e, hw, hl, hb, h0 => by
   rw [List.length_cons] at hl hb
   have hw0 := hw w (List.mem_cons_self ..)
   rw [Sp.pgl, Sp.dol, if_pos e] at h0 ⊢
   have es : Sp.dop t (false, (a : Int), w, ()) = Sp.prg t.1 a w t.2.1 := by
     unfold Sp.dop
     dsimp only
     rw [if_neg Bool.false_ne_true, Int.toNat_natCast]
   rw [es, show (a : Int) + 1 = ((a + 1 : Nat) : Int) by push_cast; rfl] at h0 ⊢
   have g2 := prg_sg g a w
   have e2 : (Sp.prg t.1 a w t.2.1).2.2.1 = 0 := by
     rcases g2.e with z | z
     · exact z
     · exfalso
       rw [dol_stop _ (by rw [z]; decide), z] at h0
       exact absurd h0 (by decide)
   have hf := prg_b hw0.1 hw0.2 (by rw [g.l]; omega) (hb a (Nat.le_refl _) (by omega)) e2
   have gt : ∀ i, (Sp.prg t.1 a w t.2.1).1.1.getD i 0 = if a = i then w else t.1.1.getD i 0 := fun i => by
     rw [hf]; exact getD_set _ _ _ _ _ (by rw [g.l]; omega)
   obtain ⟨r1, r2, r3⟩ := pgl_w ws (a + 1) g2 e2 (fun x hx => hw x (List.mem_cons_of_mem _ hx)) (by omega) (fun i h1 h2 => by rw [gt, if_neg (by omega)]; exact hb i (by omega) (by omega)) h0
   refine ⟨r1, fun i h1 h2 => ?_, fun i hi => ?_⟩
   · rw [List.length_cons] at h2
     by_cases c : i = a
     · rw [r3 i (by omega), gt, if_pos c.symm, c, Nat.sub_self]; rfl
     · rw [r2 i (by omega) (by omega)]
       obtain ⟨d, rfl⟩ : ∃ d, i = a + (d + 1) := ⟨i - a - 1, by omega⟩
       rw [show a + (d + 1) - (a + 1) = d by omega, show a + (d + 1) - a = d + 1 by omega]
       rfl
   · rw [List.length_cons] at hi
     rw [r3 i (by omega), gt, if_neg (by omega)]
theorem nmb_rcd {key : Int} {d : List Int} (h0 : 0 ≤ key) (h1 : key ≤ 254) (hd : d.length ≤ 24) : Sp.nmb (Sp.prw (256 * key + d.length)) = (key * 256 + (d.length : Int), true) := by
 rw [(prw_b (n := 256 * key + d.length) (by omega) (by omega)).2.2, Int.mul_comm]
theorem getD_mid (a b : List Int) (i : Nat) : (a ++ b).getD (a.length + i) 0 = b.getD i 0 := by
 rw [List.getD_eq_getElem?_getD, List.getD_eq_getElem?_getD, List.getElem?_append_right (by omega), show a.length + i - a.length = i by omega]
theorem put_end {acc : List EnT} {key : Int} (h : Asc acc) (hk : ∀ i, i < acc.length → (acc.getD i Sp.dE).1 < key) (d : List Int) : Sp.putE acc key d = acc ++ [(key, d, ())] := by
 have pe : Sp.plE acc key = acc.length := by
   have := plE_le acc key
   by_cases c : Sp.plE acc key < acc.length
   · have a1 := (plE_at h key).2 _ (Nat.le_refl _) c
     have a2 := hk _ c
     omega
   · omega
 have sk : skE acc key = 0 := by unfold skE; rw [if_neg (fun z => by have := z.1; omega)]
 rw [putE_eq, sk, pe, List.take_length, Nat.add_zero, List.drop_length, List.append_nil]
/-- Reading what a collection wrote. -/
theorem rdl_rcs (k : Nat) : ∀ (post acc : List EnT) (hd : List Int) (f : Nat), Asc (acc ++ post) → KOK post → 
   ∀ l, l = hd ++ (Sp.rcs post ++ replicate k 4294967295) → post.length < f → Sp.rdl l f hd.length acc = (hd.length + (Sp.rcs post).length, acc ++ post)
 | [], acc, hd, f, ha, hk, l, hl, hf => by
   obtain ⟨f, rfl⟩ : ∃ j, f = j + 1 := ⟨f - 1, by simp at hf; omega⟩
   have hl : l = hd ++ replicate k 4294967295 := hl
   have : ¬ (hd.length < l.length ∧ (Sp.nmb (l.getD hd.length 0)).2 = true) := fun z => by
     rw [hl, List.length_append, List.length_replicate] at z
     have e := getD_mid hd (replicate k 4294967295) 0
     rw [Nat.add_zero] at e
     rw [e, List.getD_eq_getElem?_getD, List.getElem?_replicate, if_pos (by omega)] at z
     exact absurd z.2 (by decide)
   rw [Sp.rdl, if_neg (fun z => this ⟨z.1, z.2.1⟩), List.append_nil]
   rfl
 | e :: post, acc, hd, f, ha, hk, l, hl, hf => by
   obtain ⟨f, rfl⟩ : ∃ j, f = j + 1 := ⟨f - 1, by simp at hf; omega⟩
   obtain ⟨key, d, ⟨⟩⟩ := e
   have hk1 := hk _ (List.mem_cons_self ..)
   dsimp only at hk1
   obtain ⟨⟨k0, k1⟩, kd, kw⟩ := hk1
   have rl := rcd_len key d
   have e0 : Sp.rcs ((key, d, ()) :: post) = Sp.rcd key d ++ Sp.rcs post := by unfold Sp.rcs; rw [List.flatMap_cons]
   have hl2 : l = hd ++ (Sp.rcd key d ++ (Sp.rcs post ++ replicate k 4294967295)) := by rw [hl, e0, List.append_assoc]
   have g : ∀ i, i < d.length + 2 → l.getD (hd.length + i) 0 = (Sp.rcd key d).getD i 0 := fun i hi => by
     rw [hl2, getD_mid, List.getD_eq_getElem?_getD, List.getD_eq_getElem?_getD, List.getElem?_append_left (by omega)]
   have ll : l.length = hd.length + (d.length + 2 + ((Sp.rcs post).length + k)) := by
     rw [hl2, List.length_append, List.length_append, List.length_append, List.length_replicate, rl]
   have w0 : l.getD hd.length 0 = Sp.prw (256 * key + d.length) := by
     have := g 0 (by omega)
     rw [Nat.add_zero] at this
     rw [this]; rfl
   have hD : HD l hd.length d.length key true := ⟨by rw [w0]; exact nmb_rcd k0 k1 kd, by omega, k0, by omega⟩
   have dr : drop hd.length l = Sp.rcd key d ++ (Sp.rcs post ++ replicate k 4294967295) := by rw [hl2, List.drop_left]
   have tk : take (d.length + 1) (drop hd.length l) = [Sp.prw (256 * key + d.length)] ++ d := by
     rw [dr]
     unfold Sp.rcd
     rw [List.append_assoc ([_] ++ d)]
     exact List.take_left' (by rw [List.length_append, List.length_singleton]; omega)
   have td : take d.length (drop (hd.length + 1) l) = d := by
     rw [← List.drop_drop, dr]
     unfold Sp.rcd
     rw [List.append_assoc, List.append_assoc, List.singleton_append, List.drop_one, List.tail_cons]
     exact List.take_left' rfl
   have w1 : l.getD (hd.length + d.length + 1) 0 = Sp.prw (Sp.smw ([Sp.prw (256 * key + d.length)] ++ d)) := by
     rw [Nat.add_assoc, g (d.length + 1) (by omega)]
     unfold Sp.rcd
     have e := getD_mid ([Sp.prw (256 * key + d.length)] ++ d) [Sp.prw (Sp.smw ([Sp.prw (256 * key + d.length)] ++ d))] 0
     rw [List.length_append, List.length_singleton, Nat.add_zero, Nat.add_comm 1] at e
     rw [e]; rfl
   have sb := smw_b ([Sp.prw (256 * key + d.length)] ++ d) 0 (by decide) (by decide)
   have n1 : Sp.nmb (Sp.prw (Sp.smw ([Sp.prw (256 * key + d.length)] ++ d))) = (Sp.smw ([Sp.prw (256 * key + d.length)] ++ d), true) := (prw_b (n := Sp.smw ([Sp.prw (256 * key + d.length)] ++ d)) sb.1 sb.2).2.2
   have ac : Asc acc := fun i j h1 h2 => by
     have := ha i j h1 (by rw [List.length_append]; omega)
     rw [List.getD_eq_getElem?_getD, List.getD_eq_getElem?_getD, List.getElem?_append_left (by omega), List.getElem?_append_left h2, ← List.getD_eq_getElem?_getD, ← List.getD_eq_getElem?_getD] at this
     exact this
   have pe := put_end (key := key) ac (fun i hi => by
     have := ha i acc.length hi (by rw [List.length_append, List.length_cons]; omega)
     rw [List.getD_eq_getElem?_getD, List.getD_eq_getElem?_getD, List.getElem?_append_left hi, List.getElem?_append_right (Nat.le_refl _), Nat.sub_self, ← List.getD_eq_getElem?_getD] at this
     exact this) d
   rw [rdl_s hD, if_pos ⟨by omega, rfl, k1, kd, by omega⟩, w1, n1, tk, if_pos ⟨rfl, rfl⟩, td, pe]
   have ih := rdl_rcs k post (acc ++ [(key, d, ())]) (hd ++ Sp.rcd key d) f (by rw [List.append_assoc]; exact ha) (fun x hx => hk x (List.mem_cons_of_mem _ hx)) l (by rw [hl2, List.append_assoc]) (by rw [List.length_cons] at hf; omega)
   rw [List.length_append, rl] at ih
   rw [show hd.length + d.length + 2 = hd.length + (d.length + 2) by omega, ih, e0, List.length_append, rl, List.append_assoc]
   refine Prod.ext (by dsimp only; omega) rfl
theorem rcs_w : ∀ {es : List EnT}, KOK es → W32l (Sp.rcs es)
 | [], _ => fun x hx => by cases hx
 | e :: es, h => fun x hx => by
   unfold Sp.rcs at hx
   rw [List.flatMap_cons] at hx
   rcases List.mem_append.1 hx with hx | hx
   · have he := h e (List.mem_cons_self ..)
     unfold Sp.rcd at hx
     rcases List.mem_append.1 hx with hx | hx
     · exact rcd_w he.1.1 he.1.2 he.2.1 he.2.2 x hx
     · rw [List.mem_singleton.1 hx]
       have sb := smw_b ([Sp.prw (256 * e.1 + e.2.1.length)] ++ e.2.1) 0 (by decide) (by decide)
       have := prw_b (n := Sp.smw ([Sp.prw (256 * e.1 + e.2.1.length)] ++ e.2.1)) sb.1 sb.2
       exact ⟨this.1, this.2.1⟩
   · exact rcs_w (fun y hy => h y (List.mem_cons_of_mem _ hy)) x hx
/-- A memory whose other half was written anew. -/
theorem col_ok {m : MeT} (hw : W32f m.1) (hm : Sp.mvl m = true) {es : List EnT} (hk : KOK es) (ha : Asc es) (hl : es.length ≤ 600) {p : PwT} (h0 : 0 ≤ p.1) (h1 : p.1 ≤ 1099511627776) (hz : 1 + (Sp.rcs es).length ≤ Sp.hsz m) (hwo : Sp.wor m.1 (Sp.hc m) (Sp.frs m) = false) (hg : Sp.gnr m (Sp.acv m) ≠ 65535)
   (s : RsT) (hs : s = Sp.dol (Sp.cst m es) (m.1, p, 0, ())) (e0 : s.2.2.1 = 0) : SG m.1 s ∧ Sp.mvl (s.1, m.2) = true ∧ Sp.ent (s.1, m.2) = es ∧ Sp.acv (s.1, m.2) = Sp.oh m ∧ (Sp.rdv (Sp.hwr (s.1, m.2) (Sp.acv (s.1, m.2)))).2.2.1 = (Sp.hsz m : Int) - (1 + (Sp.rcs es).length) := by
 obtain ⟨hv, hp, hac⟩ := mvl_d hm
 obtain ⟨p1, p2, p3, p4, p5⟩ := plc_iff.1 hp
 have ob := oh_b hv hp
 have b := pl_b hv hp
 have v := fv_iff.1 hv
 have bo := pl_k hv hp ob.1
 have gb := gnr_b hw (Sp.acv m)
 have E := erl_b (f0 := m.1) (a := Sp.frs m) (Sp.hc m) 0 (EB.init hv hw h0 h1 (Sp.frs m)) (by omega) (by rw [Nat.add_zero]; exact hwo)
 rw [Nat.add_zero, Nat.zero_add] at E
 unfold Sp.cst at hs
 rw [List.append_assoc, dol_app, dol_app, dol_one] at hs
 generalize Sp.dol (Sp.erl (Sp.hc m) (Sp.frs m)) (m.1, p, 0, ()) = t at E hs
 rw [show (Sp.hbs m (Sp.oh m) : Int) + 1 = ((Sp.hbs m (Sp.oh m) + 1 : Nat) : Int) by push_cast; rfl] at hs
 generalize hu : Sp.dol (Sp.pgl (Sp.rcs es) ((Sp.hbs m (Sp.oh m) + 1 : Nat) : Int)) t = u at hs
 have eu : u.2.2.1 = 0 := by
   by_cases c : u.2.2.1 = 0
   · exact c
   · rw [if_neg c] at hs
     rw [hs] at e0
     exact absurd e0 c
 have et : t.2.2.1 = 0 := by
   by_cases c : t.2.2.1 = 0
   · exact c
   · rw [dol_stop _ c] at hu
     rw [hu] at c
     exact absurd eu c
 have tb := E.b et
 have W := pgl_w (f0 := m.1) (Sp.rcs es) (Sp.hbs m (Sp.oh m) + 1) E.g et (rcs_w hk) (by omega) (fun i h1 h2 => tb i (by omega) (by omega)) (by rw [hu]; exact eu)
 rw [hu] at W
 obtain ⟨gu, ui, uo⟩ := W
 rw [if_pos eu] at hs
 have hs : s = Sp.prg u.1 (Sp.hbs m (Sp.oh m)) (Sp.prw (Sp.gnr m (Sp.acv m) + 1)) u.2.1 := by
   rw [hs]
   unfold Sp.dop
   dsimp only
   rw [if_neg Bool.false_ne_true, Int.toNat_natCast]
 have G := prg_sg gu (Sp.hbs m (Sp.oh m)) (Sp.prw (Sp.gnr m (Sp.acv m) + 1))
 rw [← hs] at G
 have pw := prw_b (n := Sp.gnr m (Sp.acv m) + 1) (by omega) (by omega)
 have ub : u.1.1.getD (Sp.hbs m (Sp.oh m)) 0 = 4294967295 := by
   rw [uo _ (by omega)]
   exact tb _ (by omega) (by omega)
 have hf := prg_b (p := u.2.1) pw.1 pw.2.1 (by rw [gu.l]; omega) ub (by rw [← hs]; exact e0)
 rw [← hs] at hf
 have gs : ∀ i, s.1.1.getD i 0 = if Sp.hbs m (Sp.oh m) = i then Sp.prw (Sp.gnr m (Sp.acv m) + 1) else u.1.1.getD i 0 := fun i => by
   rw [hf]; exact getD_set _ _ _ _ _ (by rw [gu.l]; omega)
 have hp2 : Sp.plc (s.1, m.2) = true := plc_iff.2 ⟨p1, p2, p3, p4, (by dsimp only; rw [G.n]; exact p5)⟩
 have bs : ∀ k, Sp.hbs (s.1, m.2) k = Sp.hbs m k := fun _ => rfl
 have zs : Sp.hsz (s.1, m.2) = Sp.hsz m := rfl
 have nl := hwr_len (m := (s.1, m.2)) G.v hp2 ob.1
 -- the old half
 have old : Sp.hwr (s.1, m.2) (Sp.acv m) = Sp.hwr m (Sp.acv m) := by
   have l1 := hwr_len (m := (s.1, m.2)) G.v hp2 (acv_lt m)
   have l2 := hwr_len hv hp (acv_lt m)
   refine list_ext 0 (by rw [l1, l2]; rfl) (fun i hi => ?_)
   rw [l1, zs] at hi
   have out : Sp.hbs m (Sp.acv m) + i < 64 * Sp.frs m ∨ 64 * (Sp.frs m + Sp.hc m) ≤ Sp.hbs m (Sp.acv m) + i := by
     have ha := acv_lt m
     have hbe : Sp.hbs m (Sp.acv m) = 64 * m.2.1.toNat + Sp.acv m * Sp.hsz m := rfl
     have hbo : Sp.hbs m (Sp.oh m) = 64 * m.2.1.toNat + Sp.oh m * Sp.hsz m := rfl
     have oe : Sp.oh m = 1 - Sp.acv m := rfl
     match hh : Sp.acv m, ha with
     | 0, _ =>
       rw [hh] at oe hbe
       have o2 : Sp.oh m * Sp.hsz m = Sp.hsz m := by rw [show Sp.oh m = 1 from oe, Nat.one_mul]
       left; omega
     | 1, _ =>
       rw [hh] at oe hbe
       have o2 : Sp.oh m * Sp.hsz m = 0 := by rw [show Sp.oh m = 0 from oe, Nat.zero_mul]
       right; omega
   rw [← hwr_at (m := (s.1, m.2)) G.v hp2 (acv_lt m) hi, ← hwr_at hv hp (acv_lt m) hi, bs, gs, if_neg (by omega), uo _ (by omega)]
   exact E.o _ out
 -- the new half
 have new : Sp.hwr (s.1, m.2) (Sp.oh m) = [Sp.prw (Sp.gnr m (Sp.acv m) + 1)] ++ (Sp.rcs es ++ replicate (Sp.hsz m - (1 + (Sp.rcs es).length)) 4294967295) := by
   refine list_ext 0 (by rw [nl, zs, List.length_append, List.length_append, List.length_replicate, List.length_singleton]; omega) (fun i hi => ?_)
   rw [nl, zs] at hi
   rw [← hwr_at (m := (s.1, m.2)) G.v hp2 ob.1 hi, bs, gs]
   cases i with
   | zero => rw [Nat.add_zero, if_pos rfl]; rfl
   | succ i =>
     rw [if_neg (by omega)]
     show _ = (Sp.rcs es ++ replicate (Sp.hsz m - (1 + (Sp.rcs es).length)) 4294967295).getD i 0
     by_cases c : i < (Sp.rcs es).length
     · rw [ui _ (by omega) (by omega), show Sp.hbs m (Sp.oh m) + (i + 1) - (Sp.hbs m (Sp.oh m) + 1) = i by omega, List.getD_eq_getElem?_getD, List.getD_eq_getElem?_getD, List.getElem?_append_left c]
     · rw [uo _ (by omega), tb _ (by omega) (by omega), List.getD_eq_getElem?_getD, List.getElem?_append_right (by omega), List.getElem?_replicate, if_pos (by omega)]
       rfl
 have gO : Sp.gnr (s.1, m.2) (Sp.oh m) = Sp.gnr m (Sp.acv m) + 1 := by
   have w : (Sp.hwr (s.1, m.2) (Sp.oh m)).getD 0 0 = Sp.prw (Sp.gnr m (Sp.acv m) + 1) := by rw [new]; rfl
   show (bif (Sp.nmb ((Sp.hwr (s.1, m.2) (Sp.oh m)).getD 0 0)).2 then (Sp.nmb ((Sp.hwr (s.1, m.2) (Sp.oh m)).getD 0 0)).1 else 0) = _
   rw [w, pw.2.2]; rfl
 have gA : Sp.gnr (s.1, m.2) (Sp.acv m) = Sp.gnr m (Sp.acv m) := by unfold Sp.gnr; rw [old]
 have av : Sp.acv (s.1, m.2) = Sp.oh m ∧ Sp.acb (s.1, m.2) = true := by
   have ha := acv_lt m
   have oe : Sp.oh m = 1 - Sp.acv m := rfl
   match hh : Sp.acv m, ha with
   | 0, _ =>
     rw [hh] at oe gO gA gb
     have oe : Sp.oh m = 1 := oe
     rw [oe] at gO ⊢
     unfold Sp.acv Sp.acb
     rw [gO, gA, decide_eq_true (by omega)]
     exact ⟨rfl, rfl⟩
   | 1, _ =>
     rw [hh] at oe gO gA gb
     have oe : Sp.oh m = 0 := oe
     rw [oe] at gO ⊢
     unfold Sp.acv Sp.acb
     rw [gO, gA, decide_eq_false (by omega), decide_eq_true (p := Sp.gnr m 1 + 1 > 0) (by omega)]
     exact ⟨rfl, rfl⟩
 have R := rdl_rcs (Sp.hsz m - (1 + (Sp.rcs es).length)) es [] [Sp.prw (Sp.gnr m (Sp.acv m) + 1)] (Sp.hwr (s.1, m.2) (Sp.oh m)).length (by rw [List.nil_append]; exact ha) hk _ new (by
   rw [nl, zs]
   have : ∀ {es : List EnT}, 2 * es.length ≤ (Sp.rcs es).length := by
     intro es
     induction es with
     | nil => exact Nat.zero_le _
     | cons e es ih =>
       unfold Sp.rcs at ih ⊢
       rw [List.flatMap_cons, List.length_append, rcd_len, List.length_cons]
       omega
   have := @this es
   omega)
 rw [List.length_singleton, List.nil_append] at R
 refine ⟨G, ?_, ?_, av.1, ?_⟩
 · unfold Sp.mvl; rw [G.v, hp2, av.2]; rfl
 · unfold Sp.ent Sp.rdv
   rw [av.1, R]
 · unfold Sp.rdv
   rw [av.1, R]
   dsimp only
   have bk : Sp.blk (Sp.hwr (s.1, m.2) (Sp.oh m)) (1 + (Sp.rcs es).length) = true := by
     unfold Sp.blk
     rw [new, ← List.append_assoc, List.drop_left' (by rw [List.length_append, List.length_singleton]), List.all_replicate]
     split <;> rfl
   rw [bk, if_pos rfl, nl, zs]
   push_cast
   rfl
theorem cst_len {m : MeT} (hv : Sp.fv m.1 = true) (hp : Sp.plc m = true) {es : List EnT} (h : 1 + (Sp.rcs es).length ≤ Sp.hsz m) : (Sp.cst m es).length ≤ 1000 := by
 have ob := oh_b hv hp
 unfold Sp.cst
 rw [List.length_append, List.length_append, erl_len, pgl_len, List.length_singleton]; omega
theorem full_v : p_27 = true ∧ v_27 = ((1099511627776, 0, ()), ()) := pv_27 rfl
theorem plain_6 (m : MeT) (wf : wfD (.pair (.pair (.slice (.int .u32)) (.pair (.slice (.int .i64)) (.pair (.int .i64) .unit))) (.pair (.int .i64) (.pair (.int .i64) .unit))) m) : F_6 m = some true := by
 have hw : W32f m.1 := fun x hx => u32_b (wf.1.1 x hx)
 obtain ⟨b, gb, gv, hb⟩ := grt_pv m.1
 have v := mvl_pv hw
 have en := ent_pv hw
 have cl := clv_pv hw (1099511627776, 0, ())
 unfold F_6
 rw [aw_pv.1, aw_pv.2, gd_tt, gb, gv, gd_tt]
 dsimp only
 rw [Bool.not_true, cond_f]
 cases b
 rotate_left
 · rfl
 rw [cond_f, v.1, v.2, gd_tt]
 dsimp only
 by_cases hm : Sp.mvl m = true
 rotate_left
 · rw [Bool.eq_false_iff.2 hm]; rfl
 obtain ⟨hv, hp, hac⟩ := mvl_d hm
 have eb := ent_b hw hm
 have asc0 := (rlog_pv hw hv hp (acv_lt m)).2
 have asc : Asc (Sp.ent m) := asc0
 rw [hm, Bool.not_true, cond_f, en.1, en.2, gd_tt, full_v.1, full_v.2, gd_tt, cl.1, cl.2, gd_tt]
 have pk : Sp.pok (1099511627776, 0, ()) = true := by decide
 unfold Sp.entv Sp.clv
 rw [if_pos hm, if_pos ⟨hm, pk⟩, cond_nff rfl]
 unfold Sp.cov
 by_cases c : Sp.hsz m < 1 + (Sp.rcs (Sp.ent m)).length
 · rw [if_pos c, if_neg (by decide), cond_ntt (by decide), non_pv.1, non_pv.2, gd_tt]
   rfl
 rw [if_neg c]
 cases hwo : Sp.wor m.1 (Sp.hc m) (Sp.frs m)
 rotate_left
 · rw [if_pos rfl, if_neg (by decide), cond_ntt (by decide), non_pv.1, non_pv.2, gd_tt]
   rfl
 rw [if_neg Bool.false_ne_true]
 by_cases c2 : Sp.gnr m (Sp.acv m) = 65535
 · rw [if_pos c2, if_neg (by decide), cond_ntt (by decide), non_pv.1, non_pv.2, gd_tt]
   rfl
 have sg := cst_sg (p := (1099511627776, 0, ())) hw hv hp (by decide) (by decide) (Sp.ent m) hwo
 have ln := cst_len hv hp (es := Sp.ent m) (by omega)
 have e0 := dol_full (Sp.cst m (Sp.ent m)) (s := (m.1, (1099511627776, 0, ()), 0, ())) rfl (by dsimp only; omega) (by
   rcases sg.e with z | z
   · rw [z]; decide
   · rw [z]; decide)
 have ck := col_ok hw hm eb.1 asc eb.2 (p := (1099511627776, 0, ())) (by decide) (by decide) (by omega) hwo c2 _ rfl e0
 rw [if_neg c2, if_pos rfl]
 unfold Sp.dov
 dsimp only
 rw [if_pos (.inl e0)]
 dsimp only
 generalize Sp.dol (Sp.cst m (Sp.ent m)) (m.1, (1099511627776, 0, ()), 0, ()) = s at *
 obtain ⟨G, mv, et, av, ro⟩ := ck
 have gw : W32f ((s.1, m.2) : MeT).1 := G.w
 have en2 := ent_pv (m := (s.1, m.2)) gw
 have rm2 := rom_pv (m := (s.1, m.2)) gw
 rw [cond_nff e0, en2.1, en2.2, gd_tt, rm2.1, rm2.2, gd_tt]
 unfold Sp.entv Sp.romv Sp.rom
 rw [if_pos mv, if_pos mv, et, ro]
 dsimp only
 have rl := rcs_len eb.1
 have ob := oh_b hv hp
 have bb := pl_b hv hp
 obtain ⟨p1, p2, p3, p4, p5⟩ := plc_iff.1 hp
 generalize Sp.ent m = es at *
 have t := run0 (fun q i acc => L_6_0 q es es 0 ((Sp.hsz m : Int) - (1 + (Sp.rcs es).length)) 0 acc es es.length i m) (n := es.length) (fun j => 1 + ((Sp.rcs (es.take j)).length : Int)) (r := some (.e0 es es 0 ((Sp.hsz m : Int) - (1 + (Sp.rcs es).length)) 0 (1 + ((Sp.rcs es).length : Int)) m)) (by omega) (fun q j hj => by
   show L_6_0 (q + 1) es es 0 ((Sp.hsz m : Int) - (1 + (Sp.rcs es).length)) 0 (1 + ((Sp.rcs (es.take j)).length : Int)) es es.length (j : Int) m = L_6_0 q es es 0 ((Sp.hsz m : Int) - (1 + (Sp.rcs es).length)) 0 (1 + ((Sp.rcs (es.take (j + 1))).length : Int)) es es.length ((j + 1 : Nat) : Int) m
   have g := eb.1.get hj
   have l1 := rcs_len (eb.1.take j)
   have tl : (es.take j).length = j := by rw [List.length_take]; omega
   rw [L_6_0, S_6_0, cond_dtt (by omega), gd_inB (by omega) (by omega), Int.toNat_natCast, rcs_s hj, List.length_append, rcd_len, wi64 (n := (j : Int) + 1) (by omega) (by omega), wi64 (n := ((es.getD j Zd1).2.1.length : Int) + 2) (by omega) (by omega), wi64 (by omega) (by omega)]
   push_cast
   rw [Int.add_assoc]
   rfl) (fun q => by
   show L_6_0 (q + 1) es es 0 ((Sp.hsz m : Int) - (1 + (Sp.rcs es).length)) 0 (1 + ((Sp.rcs (es.take es.length)).length : Int)) es es.length (es.length : Int) m = _
   rw [L_6_0, S_6_0, cond_dff (by omega), List.take_length])
 have sa := rsam_pv es (by omega) (fun e he => by have := (eb.1 e he).2.1; omega)
 refine (congrArg (fun z => B_6_0 z _) t).trans ?_
 unfold B_6_0
 dsimp only
 rw [cond_ett rfl, cond_ett rfl, sa.1, sa.2, gd_tt, wi64 (n := 32 * m.2.2.1) (by omega) (by omega), wi64 (by omega) (by omega), ← bb.2.2.2.2.2.1]
 dsimp only
 rw [beq_self_eq_true]
 rfl
end Go.Ev
