/- Part of a typed evaluator of the program's functions, proved sound. No condition. -/
import Derived.Test.YtjfmjhfdonpnmaaE6P3
import Derived.Test.YtjfmjhfdonpnmaaE6P1
set_option maxRecDepth 10000
set_option linter.unusedVariables false
set_option linter.unusedSimpArgs false
namespace Go.Ev
open Go Go.RowKit
variable {P : Program}
/-- What a closure caught, as places that no one writes any more. -/
def toRefs (look : Look) : List Ty → CV → Option CV
  | [], .pure .unit _ => some cunit
  | t :: ts, .pair (.ptr b []) r => match look b with
    | .mem c => match toPH look t c, toRefs look ts r with
      | some x, some r' => if c.refs.isEmpty && c.subOK look then some (.pair (.ref t x) r') else none
      | _, _ => none
    | _ => none
  | _, _ => none
theorem toRefs_rep {E : Env} {base : Nat} {look : Look} (L : LRep E base look) {E2 : Env} (hw : E2.w = E.w) (hI : ∀ g, E.I g → E2.I g) : ∀ (ts : List Ty) (c0 c1 : CV) (caps : List Value), toRefs look ts c0 = some c1 → CRep E c0 caps → (∀ g, refH E look c0 g → E2.I g) → CRep E2 c1 caps := by
  intro ts
  induction ts with
  | nil =>
    intro c0 c1 caps h hc hr
    unfold toRefs at h
    split at h
    · rename_i heq; cases heq
      injection h with h; subst h
      exact hc
    · rename_i heq; cases heq
    · cases h
  | cons t ts ih =>
    intro c0 c1 caps h hc hr
    unfold toRefs at h
    split at h
    · exact absurd ‹t :: ts = []› (by simp)
    · rename_i t' ts' b r heq
      injection heq with e1 e2
      subst e1; subst e2
      split at h
      · rename_i c hlb
        split at h
        · rename_i x r' hx hr'
          split at h
          · rename_i hsub
            injection h with h; subst h
            simp only [Bool.and_eq_true, List.isEmpty_iff] at hsub
            obtain ⟨k1, k2, rfl, hk1, hk2⟩ := hc
            obtain ⟨hlive, rfl⟩ := hk1
            have hb := L b
            rw [hlb] at hb
            obtain ⟨cs, te, hheap, hcs⟩ := hb
            have hrep := toPH_rep L (I' := E2.I) hI hx hsub.2 hcs (fun g ⟨b', hb', _⟩ => by rw [hsub.1] at hb'; cases hb')
            refine ⟨_, k2, rfl, ⟨E.μ b, 0, cs.toList, rfl, hr _ ⟨b, by simp [CV.refs], by rw [hlb]; rfl⟩, ?_, by rw [hw]; exact hrep⟩, ih _ _ _ hr' hk2 (fun g ⟨b', hb', hg⟩ => hr g ⟨b', by simp [CV.refs, hb'], hg⟩)⟩
            have hseg := cells_seg hheap (l := []) (m := cs.toList) (r := []) (by simp)
            rw [hw]
            simpa using hseg
          · cases h
        · cases h
      · cases h
    · cases h
/-- A function that gives a closure over its arguments. -/
def cloS (ts : List Ty) (F : List CV → Option (Bool × CV)) : Summ := fun cs look _ => match purify look ts cs with
  | none => none
  | some cs' => match F cs' with
    | none => none
    | some r => some ⟨subsOK look cs && r.1, r.2, frzs look cs⟩
theorem cloS_congr (ts : List Ty) (F : List CV → Option (Bool × CV)) : SummC (cloS ts F) := by
  intro cs look look' nid h
  unfold cloS
  rw [purify_congr h, subsOK_congr h, frzs_congr h]
theorem summ_clo {f : Nat} {ts : List Ty} {F : List CV → Option (Bool × CV)} {call : Nat → List CV → List Blk → (CV → List Blk → Option (CV × List Blk)) → Option (CV × List Blk)} (hcall : ∀ base, CallOK P base call) (hcb : callable P f = true)
    (hF : ∀ look cs cs' c2, purify look ts cs = some cs' → F cs' = some (true, c2) → ∃ f' c0 c1 us hp2, c2 = .clo f' c1 ∧ call f cs' [] (fun v h => some (v, h)) = some (.clo f' c0, hp2) ∧ toRefs (lookH hp2) us c0 = some c1) : SummOK P f (cloS ts F) := by
  refine ⟨hcb, cloS_congr ts F, ?_⟩
  intro base E hp cs vs nid out H hvs hs hok _ _
  unfold cloS at hs
  split at hs
  · cases hs
  · rename_i cs' hcs'
    split at hs
    · cases hs
    · rename_i r hr
      simp at hs; subst hs
      obtain ⟨ok, c2⟩ := r
      simp only [Bool.and_eq_true] at hok
      obtain ⟨hsub, rfl⟩ := hok
      obtain ⟨_, ht, _⟩ := purify_tup hcs'
      obtain ⟨E', hle, H', hw, _, _, _, hI⟩ := HS.frzs (lookH hp) (cs.flatMap CV.refs) H (fun _ => .inl rfl) (Vs_refs hvs ht)
      obtain ⟨f', c0, c1, us, hp2, rfl, hev, htr⟩ := hF _ _ _ _ hcs' hr
      have hvs0 : Vs { E' with live := fun _ => False } cs' vs := purify_rep (base := base) (E' := { E' with live := fun _ => False }) H.blk hw hle.I hcs' hsub hvs (fun c hc g ⟨b, hb, hg⟩ => hI g (.inr ⟨b, List.mem_flatMap.2 ⟨c, hc, hb⟩, hg⟩))
      have hc := (hcall _ f cs' [] _ _ hev { E' with live := fun _ => False } vs H'.empty hvs0).2
      rw [← hw]
      refine Calls.mono hc ?_
      rintro e w' ⟨v, c, hp1, E1, rfl, hk, rfl, hle1, H1, hv, _⟩
      simp only [Option.some.injEq, Prod.mk.injEq] at hk
      obtain ⟨rfl, rfl⟩ := hk
      obtain ⟨hle3, H3⟩ := H'.back H1 hle1 (fun g => E1.I g ∨ refH E1 (lookH hp1) c0 g) (fun _ h => .inl h) (fun g hg => by
        rcases hg with h | ⟨b, _, h⟩
        · exact .inl h
        · exact .inr ⟨(H1.sep b g h).2, H1.held_lt h⟩)
      refine ⟨v, { E' with w := E1.w, I := fun g => E1.I g ∨ refH E1 (lookH hp1) c0 g }, rfl, rfl, hle.trans hle3, H3, ?_⟩
      obtain ⟨cells, hcells, hval⟩ := hv
      obtain ⟨caps, rfl, hcaps⟩ := hcells
      exact ⟨_, ⟨caps, rfl, toRefs_rep (E2 := { E' with w := E1.w, I := fun g => E1.I g ∨ refH E1 (lookH hp1) c0 g }) H1.blk rfl (fun g h => .inl h) us c0 c1 caps htr hcaps (fun g h => .inr h)⟩, hval⟩
end Go.Ev
