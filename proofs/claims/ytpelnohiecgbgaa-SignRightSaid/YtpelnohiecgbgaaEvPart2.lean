/- Part of a typed evaluator of the program's functions, proved sound. No condition. -/
import Derived.Test.YtpelnohiecgbgaaEvPart1
set_option maxRecDepth 10000
set_option linter.unusedVariables false
set_option linter.unusedSimpArgs false
namespace Go.Ev
open Go Go.RowKit
variable {P : Program}
def cloneF (u : Ty) (bytes : Nat) : List CV → Option (Bool × List CV)
  | [.pure (.slice u') xs] => if u' = u then some (room (List.length xs) bytes, [.pure (.slice u') xs]) else none
  | _ => none
/-- slices.Clone out of its contract. -/
theorem clone_summ {f te : Nat} {u : Ty} {bytes : Nat} (hcb : callable P f = true) (hpos : 0 < u.size)
    (h1 : ∀ (b off n c : Nat) (news : List Value) (w : World), news.length = n * u.size → n ≤ maxLen → n * bytes ≤ 140737488355328 → (∀ (j : Nat) (v : Value), news[j]? = some v → w.cell? ⟨b, off + j, none⟩ = some v) → (∀ v ∈ news, v.oneCell' = true) →
      Calls P f #[.slice (some ⟨b, off, none⟩) n c] w fun e w' => ∃ v', e = .returned v' ∧ w'.ownsRow w.heap.size te u.size v' n news ∧ v' ≠ .slice none 0 0 ∧ Below w.heap.size w w')
    (h2 : ∀ (n c : Nat) (w : World), Calls P f #[.slice none n c] w fun e w' => e = .returned (.slice none 0 0) ∧ w' = w)
    (h3 : ∀ (a : Addr) (c : Nat) (w : World), Calls P f #[.slice (some a) 0 c] w fun e w' => ∃ v', e = .returned v' ∧ w'.ownsRow w.heap.size te u.size v' 0 [] ∧ v' ≠ .slice none 0 0 ∧ Below w.heap.size w w') :
    SummOK P f (pureS [.slice u] (cloneF u bytes)) := by
  have inv : ∀ {cs' : List CV} {r : Bool × List CV}, cloneF u bytes cs' = some r → ∃ xs : List u.den, cs' = [.pure (.slice u) xs] ∧ r = (room (List.length xs) bytes, [.pure (.slice u) xs]) := by
    intro cs' r h
    unfold cloneF at h
    split at h
    · rename_i u' xs
      split at h
      · rename_i he
        subst he
        simp at h
        exact ⟨xs, rfl, h.symm⟩
      · cases h
    · cases h
  refine summ_of_calls (rs := [.slice u]) hcb ?_ ?_
  · intro look cs cs' r _ h
    obtain ⟨xs, rfl, rfl⟩ := inv h
    exact ⟨noLook, by simp [purify, toPH, ofP], by simp [subsOK, CV.subOK], by simp [CV.refs]⟩
  · intro w I look cs cs' l vs himm _ h hvs
    obtain ⟨xs, rfl, hr⟩ := inv h
    simp only [Prod.mk.injEq] at hr
    obtain ⟨hroom, rfl⟩ := hr
    have hroom := room_spec hroom.symm
    match vs, hvs with
    | [v], ⟨hv, _⟩ =>
      obtain ⟨a, c, ev, q1, q2, q3⟩ := VRep_slice.1 hv
      simp at ev
      subst ev
      -- what comes back
      have fin : ∀ (v' : Value) (w' : World) (news : List Value), w'.ownsRow w.heap.size te u.size v' (List.length xs) news → Rows (RepD w I u) xs news → Below w.heap.size w w' →
          ∃ v, (Ending.returned v' : Ending) = .returned v ∧ Below w.heap.size w w' ∧ ∃ I2 : Nat → Prop, (∀ g, I g → I2 g) ∧ (∀ g, I2 g → I g ∨ (w.heap.size ≤ g ∧ g < w'.heap.size)) ∧ VRep (pureE w' I2) (tupOf [.pure (.slice u) xs]) v := by
        intro v' w' news hown hrows hbel
        refine ⟨v', rfl, hbel, fun g => I g ∨ (w.heap.size ≤ g ∧ v'.ownBlock = some g), fun _ h => .inl h, fun g hg => ?_, ?_⟩
        · rcases hg with h | ⟨h4, h5⟩
          · exact .inl h
          · exact .inr ⟨h4, (hown.lt g h5).2⟩
        · have hrows' : Rows (RepD w' I u) xs news := Rows.mono (fun x c => RepD.mono (fun _ h => h) (fun g hg => hbel.block g (himm g hg)) u x c) _ _ hrows
          have := slice_of_own (E := { w := w', I := I, μ := fun _ => v'.ownBlock.getD 0, σ := fun _ => v', live := fun _ => True }) (base := w.heap.size) (b := 0) (te := te) (e := u) (xs := xs) (I' := fun g => I g ∨ (w.heap.size ≤ g ∧ v'.ownBlock = some g)) (fun _ h => .inl h)
            ⟨news, hrows', hown, hpos, fun g hg => by show g = v'.ownBlock.getD 0; have hg : v'.ownBlock = some g := hg; rw [hg]; rfl⟩
            (fun g hg => .inr ⟨(hown.lt g hg).1, hg⟩)
          exact VRep_slice.2 this
      cases a with
      | none =>
        refine Calls.mono (h2 _ _ w) ?_
        rintro e w' ⟨rfl, rfl⟩
        have h0 : List.length xs = 0 := by
          rcases Nat.eq_zero_or_pos (List.length xs) with h | h
          · exact h
          · obtain ⟨_, _, _, e, _⟩ := q3 h; cases e
        refine fin _ _ [] ?_ ?_ (Below.refl _ _)
        · rw [h0]; exact World.ownsRow_nil _ _ _ _
        · rw [List.eq_nil_of_length_eq_zero h0]; rfl
      | some ad =>
        by_cases h0 : 0 < List.length xs
        · obtain ⟨b, off, rows, e, _, hcell, hrows⟩ := q3 h0
          cases e
          have hl := Rows.len (fun x c => RepD.len u x c) xs rows hrows
          refine Calls.mono (h1 b off _ c rows w hl hroom.2 hroom.1 hcell (Rows.one _ _ hrows)) ?_
          rintro e w' ⟨v', rfl, hown, _, hbel⟩
          exact fin v' w' rows hown hrows hbel
        · have h0 : List.length xs = 0 := by omega
          have hx := List.eq_nil_of_length_eq_zero h0
          rw [h0]
          refine Calls.mono (h3 ad c w) ?_
          rintro e w' ⟨v', rfl, hown, _, hbel⟩
          exact fin v' w' [] (by rw [h0]; exact hown) (by rw [hx]; rfl) hbel
end Go.Ev
namespace Go.Ev
open Go Go.RowKit
variable {P : Program}
/-- A copy of a row, new and one's own. -/
def vecS (u : Ty) (te bytes : Nat) : Summ := fun cs look nid => match cs with
  | [c] => match toPH look (.slice u) c with
    | some xs => some ⟨c.subOK look && room (List.length xs) bytes, .whole nid, [(nid, .vec te u xs)]⟩
    | none => none
  | _ => none
theorem vecS_congr (u : Ty) (te bytes : Nat) : SummC (vecS u te bytes) := by
  intro cs look look' nid h
  unfold vecS
  match cs with
  | [] => rfl
  | [c] =>
    have h' : ∀ b ∈ c.refs, look b = look' b := fun b hb => h b (by simpa using hb)
    simp only [toPH_congr h', subOK_congr h']
  | _ :: _ :: _ => rfl
theorem own_base {w : World} {b b' te size n : Nat} {v : Value} {xs : List Value} (h : b ≤ b') (ho : w.ownsRow b' te size v n xs) : w.ownsRow b te size v n xs := by
  refine ⟨ho.1, ?_⟩
  rcases ho.2 with h1 | ⟨g, cap, cur, h1, h2, h3⟩
  · exact .inl h1
  · exact .inr ⟨g, cap, cur, h1, by omega, h3⟩
theorem clone_vec {f te : Nat} {u : Ty} {bytes : Nat} (hcb : callable P f = true) (hpos : 0 < u.size)
    (h1 : ∀ (b off n c : Nat) (news : List Value) (w : World), news.length = n * u.size → n ≤ maxLen → n * bytes ≤ 140737488355328 → (∀ (j : Nat) (v : Value), news[j]? = some v → w.cell? ⟨b, off + j, none⟩ = some v) → (∀ v ∈ news, v.oneCell' = true) →
      Calls P f #[.slice (some ⟨b, off, none⟩) n c] w fun e w' => ∃ v', e = .returned v' ∧ w'.ownsRow w.heap.size te u.size v' n news ∧ v' ≠ .slice none 0 0 ∧ Below w.heap.size w w')
    (h2 : ∀ (n c : Nat) (w : World), Calls P f #[.slice none n c] w fun e w' => e = .returned (.slice none 0 0) ∧ w' = w)
    (h3 : ∀ (a : Addr) (c : Nat) (w : World), Calls P f #[.slice (some a) 0 c] w fun e w' => ∃ v', e = .returned v' ∧ w'.ownsRow w.heap.size te u.size v' 0 [] ∧ v' ≠ .slice none 0 0 ∧ Below w.heap.size w w') :
    SummOK P f (vecS u te bytes) := by
  refine ⟨hcb, vecS_congr u te bytes, ?_⟩
  intro base E hp cs vs nid out H hvs hs hok hf hn
  unfold vecS at hs
  split at hs
  · rename_i c
    split at hs
    · rename_i xs hxs
      simp at hs; subst hs
      simp only [Bool.and_eq_true] at hok
      obtain ⟨hsub, hroom⟩ := hok
      have hroom := room_spec hroom
      match vs, hvs with
      | [v], ⟨hv, _⟩ =>
        obtain ⟨ad, cp, rfl, s1, s2, s3⟩ := src_rep H.blk hxs hsub hv
        have fin : ∀ (v' : Value) (w' : World) (news : List Value), w'.ownsRow E.w.heap.size te u.size v' (List.length xs) news → Rows (RepD E.w E.I u) xs news → Below E.w.heap.size E.w w' →
            ∃ v E', (Ending.returned v' : Ending) = .returned v ∧ E'.w = w' ∧ E.le base E' ∧ HS base E' (wrAll hp [(nid, .vec te u xs)]) ∧ VRep E' (.whole nid) v := by
          intro v' w' news hown hrows hbel
          have hrows' : Rows (RepD w' E.I u) xs news := Rows.mono (fun x c => RepD.mono (fun _ h => h) (fun g hg => hbel.block g (H.imm g hg)) u x c) _ _ hrows
          obtain ⟨hle, H'⟩ := H.newVec hf hn (w' := w') (v := v') (te := te) (e := u) (xs := xs) (cells := news) ⟨hbel.os, hbel.tape, hbel.output, hbel.size, fun k hk => hbel.block k (Nat.lt_of_lt_of_le hk H.base)⟩ (fun g hg => hbel.block g (H.imm g hg)) (fun b g hg => hbel.block g (H.held_lt hg)) hrows' (own_base H.base hown) hpos (fun g hg => by
            have := (hown.lt g hg).1
            exact ⟨fun h => absurd (H.imm g h) (by omega), fun b h => absurd (H.held_lt h) (by omega)⟩)
          refine ⟨v', _, rfl, rfl, hle, H', ?_⟩
          refine ⟨[v'], ⟨.inr rfl, by simp [Env.newVec, upd_same], ?_⟩, by simp [CV.isAgg]⟩
          simp only [Env.newVec, upd_same]
          rcases hown.2 with ⟨h, hn0⟩ | ⟨g, cap, cur, h, _⟩
          · exact ⟨none, 0, 0, h⟩
          · exact ⟨_, _, _, h⟩
        cases ad with
        | none =>
          refine Calls.mono (h2 _ _ E.w) ?_
          rintro e w' ⟨rfl, rfl⟩
          have h0 : List.length xs = 0 := by
            rcases Nat.eq_zero_or_pos (List.length xs) with h | h
            · exact h
            · obtain ⟨_, _, _, h4, _⟩ := s3 h; cases h4
          have hx : xs = [] := List.eq_nil_of_length_eq_zero h0
          subst hx
          exact fin _ _ [] (World.ownsRow_nil _ _ _ _) rfl (Below.refl _ _)
        | some a =>
          by_cases h0 : 0 < List.length xs
          · obtain ⟨b', off', rows, h4, g1, g2⟩ := s3 h0
            cases h4
            have hR : ∀ (x : u.den) (c : List Value), RepD E.w E.I u x c → c.length = u.size := fun x c h => RepD.len u x c h
            refine Calls.mono (h1 b' off' (List.length xs) cp rows E.w (Rows.len hR xs rows g2) (by omega) hroom.1 g1 (fun v hv => Rows.one _ _ g2 v hv)) ?_
            rintro e w' ⟨v', rfl, hown, _, hbel⟩
            exact fin v' w' rows hown g2 hbel
          · have h00 : List.length xs = 0 := by omega
            have hx : xs = [] := List.eq_nil_of_length_eq_zero h00
            subst hx
            refine Calls.mono (h3 a cp E.w) ?_
            rintro e w' ⟨v', rfl, hown, _, hbel⟩
            exact fin v' w' [] hown rfl hbel
    · cases hs
  · cases hs
end Go.Ev
