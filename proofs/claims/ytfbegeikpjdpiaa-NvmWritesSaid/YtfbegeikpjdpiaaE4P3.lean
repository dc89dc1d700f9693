/- Part of a typed evaluator of the program's functions, proved sound. No condition. -/
import Derived.Test.YtfbegeikpjdpiaaE4P2
set_option maxRecDepth 10000
set_option linter.unusedVariables false
set_option linter.unusedSimpArgs false
namespace Go.Ev
open Go Go.RowKit
/-! A function that takes a row of one's own and gives one back. -/
def ooS (te : Nat) (u : Ty) (ats : List Ty) (p : List u.den → HDen ats → Bool) (v : List u.den → HDen ats → List u.den) : Summ := fun cs look nid => match cs with
 | .whole b :: rest => match purify look ats rest with
   | none => none
   | some cs' => match toH ats cs' with
     | none => none
     | some x => if (rest.flatMap CV.refs).contains b then none else match look b with
       | .vec te' u' xs => if h : te' = te ∧ u' = u then some ⟨subsOK look rest && p (h.2 ▸ xs) x, .whole nid, frzs look rest ++ [(b, .dead), (nid, .vec te u (v (h.2 ▸ xs) x))]⟩ else none
       | _ => none
 | .nil _ _ :: rest => match purify look ats rest with
   | none => none
   | some cs' => match toH ats cs' with
     | none => none
     | some x => some ⟨subsOK look rest && p [] x, .whole nid, frzs look rest ++ [(nid, .vec te u (v [] x))]⟩
 | _ => none
theorem ooS_congr (te : Nat) (u : Ty) (ats : List Ty) (p : List u.den → HDen ats → Bool) (v : List u.den → HDen ats → List u.den) : SummC (ooS te u ats p v) := by
 intro cs look look' nid h
 unfold ooS
 split
 · rename_i b rest
   have hb : look b = look' b := h b (by simp [CV.refs])
   have hr : ∀ c ∈ rest.flatMap CV.refs, look c = look' c := fun c hc => h c (by simp [CV.refs]; exact .inr (by simpa using hc))
   rw [purify_congr hr, subsOK_congr hr, frzs_congr hr, hb]
 · rename_i rest
   have hr : ∀ c ∈ rest.flatMap CV.refs, look c = look' c := fun c hc => h c (by simp [CV.refs]; simpa using hc)
   rw [purify_congr hr, subsOK_congr hr, frzs_congr hr]
 · rfl
/-- The blocks at hand but one. -/
def holdN (E : Env) (hp : List Blk) (b g : Nat) : Prop := ∃ b', b' ≠ b ∧ holdsB E b' (lookH hp b') g
/-- What a function sees that is given one block alone: the others are not to be touched. -/
def Env.only (E : Env) (hp : List Blk) (b : Nat) (rk : Nat → Loop → Prop) : Env :=
 { w := E.w, I := fun g => E.I g ∨ holdN E hp b g, μ := fun _ => E.μ b, σ := fun _ => E.σ b, live := fun n => n = 0, rok := rk, J := fun g => E.J g ∨ holdN E hp b g }
theorem Env.only_R {base b : Nat} {E : Env} {hp : List Blk} {rk : Nat → Loop → Prop} (H : HS base E hp) (g : Nat) (h : E.R g) : (E.only hp b rk).R g :=
 ⟨.inl h.1, fun hj => hj.elim h.2 fun ⟨b', _, hb'⟩ => (H.sep b' g hb').1 h.1⟩
theorem HS.only {base b te : Nat} {u : Ty} {xs : List u.den} {E : Env} {hp : List Blk} (H : HS base E hp) (hb : lookH hp b = .vec te u xs) (rk : Nat → Loop → Prop) : HS base (E.only hp b rk) [.vec te u xs] := by
 have h0 : lookH [Blk.vec te u xs] 0 = .vec te u xs := rfl
 have hn : ∀ n, n ≠ 0 → lookH [Blk.vec te u xs] n = .fresh := fun n hn => by
   obtain ⟨k, rfl⟩ : ∃ k, n = k + 1 := ⟨n - 1, by omega⟩
   simp [lookH]
 have hB := H.blk b
 rw [hb] at hB
 obtain ⟨cells, r1, r2, r3, r4⟩ := hB
 have hold : ∀ n g, holdsB (E.only hp b rk) n (lookH [Blk.vec te u xs] n) g → n = 0 ∧ holdsB E b (lookH hp b) g := fun n g hg => by
   by_cases e : n = 0
   · subst e
     refine ⟨rfl, ?_⟩
     rw [hb]
     exact hg
   · rw [hn n e] at hg; exact hg.elim
 refine ⟨fun n => ?_, fun n n' g h1 h2 => ?_, fun n g hg => ?_, fun g hg => ?_, fun n => ?_, H.base, (fun n rec i h => by cases h), fun g hg => ?_⟩
 · by_cases e : n = 0
   · subst e
     exact ⟨cells, Rows.mono (fun x c => RepD.mono (fun g hg => Env.only_R H g hg) (fun _ _ => rfl) u x c) _ _ r1, r2, r3, r4⟩
   · rw [hn n e]; trivial
 · rw [(hold n g h1).1, (hold n' g h2).1]
 · have hh := (hold n g hg).2
   refine ⟨fun hI => ?_, (H.sep b g hh).2⟩
   rcases hI with hI | ⟨b', hne, hb'⟩
   · exact (H.sep b g hh).1 hI
   · exact hne (H.inj b' b g hb' hh)
 · rcases hg with h | ⟨b', _, hb'⟩
   · exact H.imm g h
   · exact H.held_lt hb'
 · show n = 0 ↔ _
   by_cases e : n = 0
   · subst e; simp [h0]
   · rw [hn n e]; simp [e]
 · exact hg.elim (fun h => .inl (H.jI g h)) .inr
/-- All blocks at hand. -/
def holdA (E : Env) (hp : List Blk) (g : Nat) : Prop := ∃ b', holdsB E b' (lookH hp b') g
/-- What a function sees that is given an empty row: no block at hand is to be touched. -/
def Env.none (E : Env) (hp : List Blk) (rk : Nat → Loop → Prop) : Env :=
 { w := E.w, I := fun g => E.I g ∨ holdA E hp g, μ := fun _ => 0, σ := fun _ => .slice Option.none 0 0, live := fun n => n = 0, rok := rk, J := fun g => E.J g ∨ holdA E hp g }
theorem Env.none_R {base : Nat} {E : Env} {hp : List Blk} {rk : Nat → Loop → Prop} (H : HS base E hp) (g : Nat) (h : E.R g) : (E.none hp rk).R g :=
 ⟨.inl h.1, fun hj => hj.elim h.2 fun ⟨b', hb'⟩ => (H.sep b' g hb').1 h.1⟩
theorem HS.none {base : Nat} {u : Ty} {E : Env} {hp : List Blk} (H : HS base E hp) (te : Nat) (hpos : 0 < u.size) (rk : Nat → Loop → Prop) : HS base (E.none hp rk) [.vec te u ([] : List u.den)] := by
 have hn : ∀ n, n ≠ 0 → lookH [Blk.vec te u ([] : List u.den)] n = .fresh := fun n hn => by
   obtain ⟨k, rfl⟩ : ∃ k, n = k + 1 := ⟨n - 1, by omega⟩
   simp [lookH]
 have hold : ∀ n g, ¬ holdsB (E.none hp rk) n (lookH [Blk.vec te u ([] : List u.den)] n) g := fun n g hg => by
   by_cases e : n = 0
   · subst e
     have hg : (Value.slice Option.none 0 0).ownBlock = some g := hg
     cases hg
   · rw [hn n e] at hg; exact hg.elim
 refine ⟨fun n => ?_, fun n n' g h1 h2 => (hold n g h1).elim, fun n g hg => (hold n g hg).elim, fun g hg => ?_, fun n => ?_, H.base, (fun n rec i h => by cases h), fun g hg => ?_⟩
 · by_cases e : n = 0
   · subst e
     exact ⟨[], rfl, World.ownsRow_nil _ _ _ _, hpos, fun g hg => by cases hg⟩
   · rw [hn n e]; trivial
 · rcases hg with h | ⟨b', hb'⟩
   · exact H.imm g h
   · exact H.held_lt hb'
 · show n = 0 ↔ _
   by_cases e : n = 0
   · subst e; simp [lookH]
   · rw [hn n e]; simp [e]
 · exact hg.elim (fun h => .inl (H.jI g h)) .inr
theorem summ_oo {rk : Nat → Loop → Prop} {P : Program} {f te : Nat} {u : Ty} {ats : List Ty} {F : List u.den → HDen ats → Option (HDen [.slice u])} {p : List u.den → HDen ats → Bool} {v : List u.den → HDen ats → List u.den} {summ : Nat → Option Summ} {fns : Nat → Option IFn} {fu n : Nat}
   (hpos : 0 < u.size) (hp0 : ∀ xs x, p xs x = (F xs x).isSome) (hv0 : ∀ xs x, v xs x = ((F xs x).getD (dfH [.slice u])).1) (hcall : ∀ base, CallOK P base rk (evFn (R := CV × List Blk) summ fns fu n)) (hrz : Nat.ble RZ f = false) (hcb : callable P f = true)
   (h : ∀ xs x y, F xs x = some y → evFn summ fns fu n f (.whole 0 :: ofH ats x) [.vec te u xs] (ownK te [] (.slice u) []) = some y) : SummOK P f (ooS te u ats p v) := by
 refine ⟨hcb, ooS_congr _ _ _ _ _, ?_⟩
 intro base E hp cs vs nid out H hvs hs hok hf hn
 unfold ooS at hs
 split at hs
 rotate_left
 · rename_i z1 z2 rest
   split at hs
   · cases hs
   rename_i cs' hcs'
   split at hs
   · cases hs
   rename_i x hx
   simp at hs; subst hs
   simp only [Bool.and_eq_true] at hok
   obtain ⟨hsub, hpx⟩ := hok
   obtain ⟨x', e'⟩ := purify_ofH hcs'
   subst e'
   rw [toH_ofH] at hx
   simp at hx; subst hx
   rw [hp0] at hpx
   obtain ⟨y, hy⟩ := Option.isSome_iff_exists.1 hpx
   have ey : v [] x' = y.1 := by rw [hv0, hy]; rfl
   obtain ⟨c0, hp2, hk1, hk2⟩ := evFn_nat summ fu fns n _ _ _ _ _ _ (h [] x' y hy)
   obtain ⟨c, l, o, rfl, hov, hob, hso, hpl⟩ := ownK_some hk1
   match vs, hvs with
   | v0 :: vr, ⟨hv0', hvr⟩ =>
   obtain ⟨_, ht, _⟩ := purify_tup hcs'
   obtain ⟨E', hle, H', hw, hμ, hσ, hlive, hI⟩ := HS.frzs (lookH hp) (rest.flatMap CV.refs) H (fun _ => .inl rfl) (Vs_refs hvr ht)
   have H0 := H'.none (u := u) te hpos rk
   obtain ⟨hp', ehp⟩ : ∃ hp', hp' = wrAll hp ((rest.flatMap CV.refs).map fun b => (b, (lookH hp b).frz)) := ⟨_, rfl⟩
   rw [← ehp] at H' H0
   have hvs0 : Vs (E'.none hp' rk) (.whole 0 :: ofH ats x') (v0 :: vr) := by
     refine ⟨?_, purify_rep (base := base) (E' := E'.none hp' rk) H.blk hw (fun g hg => Env.none_R H' g (hle.R g hg)) hcs' hsub hvr (fun c hc g ⟨q, hq, hg⟩ => Env.none_R H' g (hI g (.inr ⟨q, List.mem_flatMap.2 ⟨c, hc, hq⟩, hg⟩)))⟩
     exact VRep_whole.2 ⟨rfl, VRep_nil.1 hv0', _, _, _, rfl⟩
   have hc := ((hcall base).1 f (.whole 0 :: ofH ats x') [.vec te u ([] : List u.den)] _ _ hrz (hk2 _ (fun v h => some (v, h)) _ rfl) (E'.none hp' rk) (v0 :: vr) rfl H0 hvs0).2
   rw [← hw]
   refine Calls.mono hc ?_
   rintro e w' ⟨v1, c1, hp1, E1, rfl, hk, rfl, hle1, H1, hv1, _⟩
   simp only [Option.some.injEq, Prod.mk.injEq] at hk
   obtain ⟨rfl, rfl⟩ := hk
   obtain ⟨hll, ht0, htl⟩ := purify_tup hpl
   obtain ⟨hag, htc, hag2⟩ := own_agg hov
   have ht1 : ∀ c' ∈ c :: l, ∀ d, c' ≠ .tup d := fun c' hc' => by
     rcases List.mem_cons.1 hc' with rfl | hc'
     · exact htc
     · exact ht0 c' hc'
   obtain ⟨us, hus, hback⟩ := tup_split hv1 ht1
   match us, hus with
   | u0 :: ur, ⟨hu0, hur⟩ =>
   obtain ⟨cells, g1, g2⟩ := hu0.one1 htc
   obtain ⟨E2, hE2⟩ : ∃ E2 : Env, E2 = { E' with w := E1.w, I := fun g => E1.I g ∧ ¬ holdA E' hp' g } := ⟨_, rfl⟩
   have hR2 : ∀ g, E1.R g → E2.R g := fun g hg => by
     rw [hE2]
     exact ⟨⟨hg.1, fun hh => hg.2 (by rw [hle1.J]; exact .inr hh)⟩, fun hj => hg.2 (by rw [hle1.J]; exact .inl hj)⟩
   have hkeep : ∀ b' g, holdsB E' b' (lookH hp' b') g → E1.w.heap[g]? = E'.w.heap[g]? := fun b' g hg => hle1.heap g (.inr ⟨b', hg⟩)
   have hno : ∀ g, E'.I g → ¬ holdA E' hp' g := fun g hg ⟨b', hb'⟩ => (H'.sep b' g hb').1 hg
   have hle2 : E'.le base E2 := by
     rw [hE2]
     refine ⟨fun g hg => ⟨hle1.I g (.inl hg), hno g hg⟩, fun g hg => hle1.heap g (.inl hg), fun _ h => h, fun _ _ => rfl, fun _ _ => rfl, hle1.bel, fun g hg => ?_, fun _ _ => rfl, rfl, rfl⟩
     rcases hle1.new g hg.1 with h | h
     · exact h.elim .inl (fun h => absurd h hg.2)
     · exact .inr h
   have H2 : HS base E2 hp' := by
     refine ⟨fun q => ?_, fun q q' g h1 h2 => ?_, fun q g hg => ?_, fun g hg => ?_, fun q => ?_, ?_, ?_, hle2.jI H'.jI⟩
     · by_cases hl : E'.live q
       · exact (H'.blk q).mono hle2 hl _ (fun g hg => by rw [hE2]; exact hkeep q g hg)
       · have : lookH hp' q = .fresh := by
           rcases Classical.em (lookH hp' q = .fresh) with h1 | h1
           · exact h1
           · exact absurd ((H'.live q).2 h1) hl
         rw [this]; trivial
     · rw [hE2] at h1 h2; exact H'.inj q q' g h1 h2
     · rw [hE2] at hg
       exact ⟨fun hI => by rw [hE2] at hI; exact hI.2 ⟨q, hg⟩, (H'.sep q g hg).2⟩
     · rw [hE2] at hg ⊢; exact H1.imm g hg.1
     · rw [hE2]; exact H'.live q
     · rw [hE2]; exact Nat.le_trans H'.base hle1.bel.size
     · rw [hE2]; exact H'.eok
   simp only [subsOK, List.all_cons, Bool.and_eq_true] at hso
   obtain ⟨v0', rows, r1, r2, r3, r4, r5⟩ := own_rep H1.blk (I2 := E2.R) hR2 hov hso.1 g1 (fun b hb => by rw [restR_sl] at hb; cases hb)
   have hnl : ¬ E'.live nid := fun hl => by
     rw [hlive] at hl
     exact (H.live nid).1 hl hf
   have hfr : lookH hp' nid = .fresh := by
     rcases Classical.em (lookH hp' nid = .fresh) with h1 | h1
     · exact h1
     · exact absurd ((H'.live nid).2 h1) hnl
   have hw2 : E2.w = E1.w := by rw [hE2]
   have hnn : nid ≤ hp'.length := by
     rw [ehp]
     exact Nat.le_trans hn (wrAll_len _ _)
   obtain ⟨hle4, H4⟩ := H2.newVec (n := nid) hfr hnn (w' := E1.w) (v := v0') (te := te) (e := u) (xs := y.1) (cells := rows) (by rw [hw2]; exact Below.refl _ _) (fun g _ => by rw [hw2]) (fun _ g _ => by rw [hw2])
     (Rows.mono (fun x c => RepD.mono hR2 (fun _ _ => rfl) u x c) _ _ r2) r1 hpos (fun g hg => by
       obtain ⟨q, h1, h2⟩ := r3 g hg
       refine ⟨fun hi => ?_, fun b2 hb2 => ?_⟩
       · rw [hE2] at hi
         exact (H1.sep q g h2).1 hi.1
       · have hb2 : holdsB E' b2 (lookH hp' b2) g := by rw [hE2] at hb2; exact hb2
         exact (H1.sep q g h2).1 (hle1.I g (.inr ⟨b2, hb2⟩)))
   refine ⟨v1, E2.newVec nid E1.w v0', rfl, rfl, hle.trans (hle2.trans hle4), ?_, ?_⟩
   · rw [wrAll_append, ey]
     show HS base _ (setH (wrAll hp (frzs (lookH hp) rest)) nid (.vec te u y.1))
     rw [show wrAll hp (frzs (lookH hp) rest) = hp' from ehp.symm]
     exact H4
   · have hl0 : l = [] := by
       cases l with
       | nil => rfl
       | cons a l => simp [purify] at hpl
     subst hl0
     have e1 : ur = [] := by
       cases ur with
       | nil => rfl
       | cons a r => exact hur.elim
     subst e1
     refine hback _ [ownC nid [] (.slice u) y.1] ?_ rfl ?_
     · exact ⟨VRep1.up ⟨cells, r5 _ nid rfl (fun g hg => by rw [hE2] at hg ⊢; exact hg) (.inr rfl) (by simp [Env.newVec, upd_same]), by rw [(hag2 nid).1, ← hag]; exact g2⟩ (hag2 nid).2, trivial⟩
     · intro c' hc'
       rw [List.mem_singleton] at hc'
       subst hc'
       exact (hag2 nid).2
 · cases hs
 rename_i b rest
 split at hs
 · cases hs
 rename_i cs' hcs'
 split at hs
 · cases hs
 rename_i x hx
 split at hs
 · cases hs
 rename_i hbr
 split at hs
 rotate_left
 · cases hs
 rename_i te' u' xs hlb
 split at hs
 rotate_left
 · cases hs
 rename_i he
 obtain ⟨rfl, rfl⟩ := he
 simp at hs; subst hs
 simp only [Bool.and_eq_true] at hok
 obtain ⟨hsub, hpx⟩ := hok
 obtain ⟨x', e'⟩ := purify_ofH hcs'
 subst e'
 rw [toH_ofH] at hx
 simp at hx; subst hx
 have hpx : p xs x' = true := hpx
 rw [hp0] at hpx
 obtain ⟨y, hy⟩ := Option.isSome_iff_exists.1 hpx
 have ey : v xs x' = y.1 := by rw [hv0, hy]; rfl
 obtain ⟨c0, hp2, hk1, hk2⟩ := evFn_nat summ fu fns n _ _ _ _ _ _ (h xs x' y hy)
 obtain ⟨c, l, o, rfl, hov, hob, hso, hpl⟩ := ownK_some hk1
 match vs, hvs with
 | v0 :: vr, ⟨hv0', hvr⟩ =>
 obtain ⟨_, ht, _⟩ := purify_tup hcs'
 obtain ⟨E', hle, H', hw, hμ, hσ, hlive, hI⟩ := HS.frzs (lookH hp) (rest.flatMap CV.refs) H (fun _ => .inl rfl) (Vs_refs hvr ht)
 have hnb : ∀ q ∈ rest.flatMap CV.refs, q ≠ b := fun q hq e => hbr (by subst e; simpa using hq)
 have hlb' : lookH (wrAll hp ((rest.flatMap CV.refs).map fun b => (b, (lookH hp b).frz))) b = .vec te' u' xs := by
   rw [lookH_wrAll (fun b => (lookH hp b).frz) (rest.flatMap CV.refs) (hp := hp) (b := b) (fun q hq => lookH_lt ((H.live q).1 (Vs_refs hvr ht q hq))) (fun hq => hnb b hq rfl)]
   exact hlb
 have H0 := H'.only hlb' rk
 obtain ⟨hp', ehp⟩ : ∃ hp', hp' = wrAll hp ((rest.flatMap CV.refs).map fun b => (b, (lookH hp b).frz)) := ⟨_, rfl⟩
 rw [← ehp] at H' H0 hlb'
 have hvs0 : Vs (E'.only hp' b rk) (.whole 0 :: ofH ats x') (v0 :: vr) := by
   refine ⟨?_, purify_rep (base := base) (E' := E'.only hp' b rk) H.blk hw (fun g hg => Env.only_R H' g (hle.R g hg)) hcs' hsub hvr (fun c hc g ⟨q, hq, hg⟩ => Env.only_R H' g (hI g (.inr ⟨q, List.mem_flatMap.2 ⟨c, hc, hq⟩, hg⟩)))⟩
   obtain ⟨_, q2, q3⟩ := VRep_whole.1 hv0'
   refine VRep_whole.2 ⟨rfl, ?_, ?_⟩
   · show v0 = E'.σ b; rw [hσ]; exact q2
   · show ∃ a n k, E'.σ b = _; rw [hσ]; exact q3
 have hc := ((hcall base).1 f (.whole 0 :: ofH ats x') [.vec te' u' xs] _ _ hrz (hk2 _ (fun v h => some (v, h)) _ rfl) (E'.only hp' b rk) (v0 :: vr) rfl H0 hvs0).2
 rw [← hw]
 refine Calls.mono hc ?_
 rintro e w' ⟨v1, c1, hp1, E1, rfl, hk, rfl, hle1, H1, hv1, _⟩
 simp only [Option.some.injEq, Prod.mk.injEq] at hk
 obtain ⟨rfl, rfl⟩ := hk
 obtain ⟨hll, ht0, htl⟩ := purify_tup hpl
 obtain ⟨hag, htc, hag2⟩ := own_agg hov
 have ht1 : ∀ c' ∈ c :: l, ∀ d, c' ≠ .tup d := fun c' hc' => by
   rcases List.mem_cons.1 hc' with rfl | hc'
   · exact htc
   · exact ht0 c' hc'
 obtain ⟨us, hus, hback⟩ := tup_split hv1 ht1
 match us, hus with
 | u0 :: ur, ⟨hu0, hur⟩ =>
 obtain ⟨cells, g1, g2⟩ := hu0.one1 htc
 obtain ⟨E2, hE2⟩ : ∃ E2 : Env, E2 = { E' with w := E1.w, I := fun g => E1.I g ∧ ¬ holdN E' hp' b g } := ⟨_, rfl⟩
 have hR2 : ∀ g, E1.R g → E2.R g := fun g hg => by
   rw [hE2]
   exact ⟨⟨hg.1, fun hh => hg.2 (by rw [hle1.J]; exact .inr hh)⟩, fun hj => hg.2 (by rw [hle1.J]; exact .inl hj)⟩
 have hkeep : ∀ b' g, b' ≠ b → holdsB E' b' (lookH hp' b') g → E1.w.heap[g]? = E'.w.heap[g]? := fun b' g hne hg => hle1.heap g (.inr ⟨b', hne, hg⟩)
 have hno : ∀ g, E'.I g → ¬ holdN E' hp' b g := fun g hg ⟨b', _, hb'⟩ => (H'.sep b' g hb').1 hg
 have hle2 : E'.le base E2 := by
   rw [hE2]
   refine ⟨fun g hg => ⟨hle1.I g (.inl hg), hno g hg⟩, fun g hg => hle1.heap g (.inl hg), fun _ h => h, fun _ _ => rfl, fun _ _ => rfl, hle1.bel, fun g hg => ?_, fun _ _ => rfl, rfl, rfl⟩
   rcases hle1.new g hg.1 with h | h
   · exact h.elim .inl (fun h => absurd h hg.2)
   · exact .inr h
 have hlvb : E'.live b := by
   rw [hlive]
   exact (VRep_whole.1 hv0').1
 have hlen : b ≤ hp'.length := Nat.le_of_lt (lookH_lt ((H'.live b).1 hlvb))
 have H2 : HS base E2 (setH hp' b .dead) := by
   refine H'.set hle2 hlen (by simp) (fun q => ?_) (fun g hg => ?_) (fun b' g hne hg hI => ?_) (fun b' g hne hg => ?_) (k := .dead) trivial (fun _ h => h.elim) ?_
   · rw [hE2]
     exact ⟨.inl, fun h => h.elim id (fun e => e ▸ hlvb)⟩
   · rw [hE2] at hg ⊢
     exact H1.imm g hg.1
   · rw [hE2] at hI
     exact hI.2 ⟨b', hne, hg⟩
   · rw [hE2]
     exact hkeep b' g hne hg
   · rw [hE2]
     exact H'.eok
 simp only [subsOK, List.all_cons, Bool.and_eq_true] at hso
 obtain ⟨v0', rows, r1, r2, r3, r4, r5⟩ := own_rep H1.blk (I2 := E2.R) hR2 hov hso.1 g1 (fun b hb => by rw [restR_sl] at hb; cases hb)
 have hnl : ¬ E'.live nid := fun hl => by
   rw [hlive] at hl
   exact (H.live nid).1 hl hf
 have hnb2 : nid ≠ b := fun e => hnl (e ▸ hlvb)
 have hfr : lookH (setH hp' b .dead) nid = .fresh := by
   rw [lookH_set hlen, if_neg hnb2]
   rcases Classical.em (lookH hp' nid = .fresh) with h1 | h1
   · exact h1
   · exact absurd ((H'.live nid).2 h1) hnl
 have hw2 : E2.w = E1.w := by rw [hE2]
 have hnn : nid ≤ (setH hp' b .dead).length := by
   refine Nat.le_trans ?_ (setH_len _ _ _)
   rw [ehp]
   exact Nat.le_trans hn (wrAll_len _ _)
 obtain ⟨hle4, H4⟩ := H2.newVec (n := nid) hfr hnn (w' := E1.w) (v := v0') (te := te') (e := u') (xs := y.1) (cells := rows) (by rw [hw2]; exact Below.refl _ _) (fun g _ => by rw [hw2]) (fun _ g _ => by rw [hw2])
   (Rows.mono (fun x c => RepD.mono hR2 (fun _ _ => rfl) u' x c) _ _ r2) r1 hpos (fun g hg => by
     obtain ⟨q, h1, h2⟩ := r3 g hg
     refine ⟨fun hi => ?_, fun b2 hb2 => ?_⟩
     · rw [hE2] at hi
       exact (H1.sep q g h2).1 hi.1
     · rw [lookH_set hlen] at hb2
       by_cases e : b2 = b
       · rw [if_pos e] at hb2; exact hb2.elim
       · rw [if_neg e] at hb2
         have hb2 : holdsB E' b2 (lookH hp' b2) g := by rw [hE2] at hb2; exact hb2
         exact (H1.sep q g h2).1 (hle1.I g (.inr ⟨b2, e, hb2⟩)))
 refine ⟨v1, E2.newVec nid E1.w v0', rfl, rfl, hle.trans (hle2.trans hle4), ?_, ?_⟩
 · rw [wrAll_append, ey]
   show HS base _ (setH (setH (wrAll hp (frzs (lookH hp) rest)) b .dead) nid (.vec te' u' y.1))
   rw [show wrAll hp (frzs (lookH hp) rest) = hp' from ehp.symm]
   exact H4
 · have hl0 : l = [] := by
     cases l with
     | nil => rfl
     | cons a l => simp [purify] at hpl
   subst hl0
   have e1 : ur = [] := by
     cases ur with
     | nil => rfl
     | cons a r => exact hur.elim
   subst e1
   refine hback _ [ownC nid [] (.slice u') y.1] ?_ rfl ?_
   · exact ⟨VRep1.up ⟨cells, r5 _ nid rfl (fun g hg => by rw [hE2] at hg ⊢; exact hg) (.inr rfl) (by simp [Env.newVec, upd_same]), by rw [(hag2 nid).1, ← hag]; exact g2⟩ (hag2 nid).2, trivial⟩
   · intro c' hc'
     rw [List.mem_singleton] at hc'
     subst hc'
     exact (hag2 nid).2
end Go.Ev
namespace Go.Ev
open Go Go.RowKit
theorem sokOO {P : Program} {sm : Nat → Bool} {w : Nat → Nat} {cf df : Nat → Bool} (hm : P.follows .mixedOrders = true) {l : List (Nat × Summ)} {f n te : Nat} {u : Ty} {ats : List Ty} {F : List u.den → HDen ats → Option (HDen [.slice u])}
   (h : ∀ xs x y, F xs x = some y → evFn (smL l) (fnsP P sm w cf df) FU n f (.whole 0 :: ofH ats x) [.vec te u xs] (ownK te [] (.slice u) []) = some y) (hl : SmAll P l) (hpos : 0 < u.size := by decide) (hcb : callable P f = true := by kernel_rfl) (hrz : Nat.ble RZ f = false := by kernel_rfl) : SummOK P f (ooS te u ats (fun xs x => (F xs x).isSome) (fun xs x => ((F xs x).getD (dfH [.slice u])).1)) :=
 summ_oo hpos (fun _ _ => rfl) (fun _ _ => rfl) (callG hm hl n) hrz hcb h
end Go.Ev
