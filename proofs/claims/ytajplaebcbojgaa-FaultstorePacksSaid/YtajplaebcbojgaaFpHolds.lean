/- Proved: for every fault and every list of words, the law FaultstorePacks returns true and changes no argument. No condition. -/
import Derived.Test.YtajplaebcbojgaaRead
import Derived.Test.YtajplaebcbojgaaSo
import Derived.Test.YtajplaebcbojgaaFpV
import Derived.Test.YtajplaebcbojgaaFpX
import Derived.Test.YtajplaebcbojgaaFpY
import Derived.Test.YtajplaebcbojgaaFpZ
namespace Go.Proofs.Ytajplaebcbojgaa
open Go.ChangeShapes Go.WideShapes Go.ChangeAt Go.RowKit

theorem fp_walk (st ct cy cl oc : Int) (a : Option Addr) (n c : Nat) (fr : List Int) (la : Int) (a' : Option Addr) (n' c' : Nat) (l : List Int) (w : World) (hs : SlI w .i64 a n fr) (hs' : SlI w .u32 a' n' l) (hl : ∀ x ∈ l, 0 ≤ x ∧ x ≤ 4294967295) (hn : n ≤ 9223372036854775807) (hn' : n' ≤ 9223372036854775807) : Calls Try.prog 3 #[.agg #[.int .i64 st, .int .i64 ct, .int .i64 cy, .int .i64 cl, .int .i64 oc, .slice a n c, .int .i64 la], .slice a' n' c'] w fun e w' => e = .returned (.bool true) ∧ Below w.heap.size w w' := by
  by_cases h1 : n ≤ 100
  · by_cases h2 : n' ≤ 100
    · cases h3 : fgood st cy cl oc la n fr <;> cases h4 : ugood l
      · exact fp_bb st ct cy cl oc a n c fr la a' n' c' l w hs hs' hl h1 h2 h3 h4
      · exact fp_bo st ct cy cl oc a n c fr la a' n' c' l w hs hs' hl h1 h2 h3 h4
      · exact fp_ob st ct cy cl oc a n c fr la a' n' c' l w hs hs' hl h1 h2 h3 h4
      · exact fp_oo st ct cy cl oc a n c fr la a' n' c' l w hs hs' hl h1 h2 h3 h4
    · exact fp_big st ct cy cl oc a n c fr la a' n' c' l w hs hs' hl hn hn' (.inr (by omega))
  · exact fp_big st ct cy cl oc a n c fr la a' n' c' l w hs hs' hl hn hn' (.inl (by omega))

set_option maxRecDepth 100000 in
set_option maxHeartbeats 1000000 in
theorem faultstorePacks_lifted (os : Os) (started : os.Started) (H : Type) (enc : TypeId × Value → H) :
    ReturnsInHanded {} Try.checked os 3 .any (Rows.faultstorePacksSpec.pre6 enc Try.prog Try.f3 Rows.faultstorePacksRow.domain false) (Rows.faultstorePacksSpec.post enc Try.prog Try.f3 false true false false) := by
  refine returnsInHanded_of_change (C := Try.checked) Try.own started (by kernel_rfl) Try.func3
    (ChangeSpec.witness6 (enc := enc) (C := Try.checked) false ⟨#[], #[.agg #[.int .i64 0, .int .i64 0, .int .i64 0, .int .i64 0, .int .i64 0, .slice none 0 0, .int .i64 0], .slice none 0 0], []⟩ 8 (by kernel_rfl) (by kernel_rfl) (by kernel_rfl) (by kernel_rfl)) ?_
  intro W base args ds gs before hval0 hW _ _
  have hval : ∀ (j : Nat) t v, Try.f3.params[j]? = some t → args[j]? = some v → Value.okWide Try.prog W .any base t v := hval0
  have hW' := hW
  obtain ⟨p, q, hA0, hV, rfl, _, _⟩ := hW
  have hA : DataW.TrodAll enc Try.prog W 0 (fun _ => true) true Try.f3.params.toList args.toList ds p := hA0
  rw [Try.params3] at hA hval
  obtain ⟨v0, vs0, d0, ds0, p0, q0, hargs, rfl, rfl, h0, r0⟩ := trodAll_cons hA
  obtain ⟨v1, vs1, d1, ds1, p1, q1, rfl, rfl, rfl, h1, r1⟩ := trodAll_cons r0
  obtain ⟨rfl, rfl, rfl⟩ := trodAll_nil r1
  obtain rfl : args = #[v0, v1] := by cases args; simp_all
  obtain ⟨rfl, rfl⟩ := trodVars_none hV
  have k0 := h0
  have lt0 : ∀ x ∈ p0, x.block < W.heap.size := by obtain ⟨m, hm⟩ := k0; exact DataW.trod_lt m _ _ _ hm
  have k1 := h1
  have lt1 : ∀ x ∈ p1, x.block < W.heap.size := by obtain ⟨m, hm⟩ := k1; exact DataW.trod_lt m _ _ _ hm
  have g0 := Rd.of h0
  obtain ⟨cs0, rfl, _⟩ := okWide_struct Try.underlying24 (hval 0 24 v0 rfl rfl)
  obtain ⟨l0, f0⟩ := Rd.struct Try.underlying24 g0
  rw [show Try.prog.cellsOf 24 = 7 from by kernel_rfl] at l0
  obtain ⟨c0_0, c0_1, c0_2, c0_3, c0_4, c0_5, c0_6, e0⟩ := len7 l0
  rw [e0] at f0
  obtain rfl := arr_of e0
  have f0_0 : Rd Try.prog W 3 [c0_0] := by
    have h := f0 0 _ rfl
    simpa [show Try.prog.cellsOf 3 = 1 from by kernel_rfl] using h
  obtain ⟨st, e0_0, w0_0⟩ := Rd.int Try.underlying3 f0_0
  simp only [List.cons.injEq, and_true] at e0_0
  subst e0_0
  obtain ⟨lo_st, hi_st⟩ := wf_i64 w0_0
  have f0_1 : Rd Try.prog W 3 [c0_1] := by
    have h := f0 1 _ rfl
    simpa [show Try.prog.cellsOf 3 = 1 from by kernel_rfl] using h
  obtain ⟨ct, e0_1, w0_1⟩ := Rd.int Try.underlying3 f0_1
  simp only [List.cons.injEq, and_true] at e0_1
  subst e0_1
  obtain ⟨lo_ct, hi_ct⟩ := wf_i64 w0_1
  have f0_2 : Rd Try.prog W 3 [c0_2] := by
    have h := f0 2 _ rfl
    simpa [show Try.prog.cellsOf 3 = 1 from by kernel_rfl] using h
  obtain ⟨cy, e0_2, w0_2⟩ := Rd.int Try.underlying3 f0_2
  simp only [List.cons.injEq, and_true] at e0_2
  subst e0_2
  obtain ⟨lo_cy, hi_cy⟩ := wf_i64 w0_2
  have f0_3 : Rd Try.prog W 3 [c0_3] := by
    have h := f0 3 _ rfl
    simpa [show Try.prog.cellsOf 3 = 1 from by kernel_rfl] using h
  obtain ⟨cl, e0_3, w0_3⟩ := Rd.int Try.underlying3 f0_3
  simp only [List.cons.injEq, and_true] at e0_3
  subst e0_3
  obtain ⟨lo_cl, hi_cl⟩ := wf_i64 w0_3
  have f0_4 : Rd Try.prog W 3 [c0_4] := by
    have h := f0 4 _ rfl
    simpa [show Try.prog.cellsOf 3 = 1 from by kernel_rfl] using h
  obtain ⟨oc, e0_4, w0_4⟩ := Rd.int Try.underlying3 f0_4
  simp only [List.cons.injEq, and_true] at e0_4
  subst e0_4
  obtain ⟨lo_oc, hi_oc⟩ := wf_i64 w0_4
  have f0_5 : Rd Try.prog W 22 [c0_5] := by
    have h := f0 5 _ rfl
    simpa [show Try.prog.cellsOf 22 = 1 from by kernel_rfl] using h
  obtain ⟨a, n, c, fr, ec0_5, hs_fr, hn_fr, hw_fr⟩ := Rd.ints Try.underlying22 Try.underlying3 (by kernel_rfl) f0_5
  subst ec0_5
  have f0_6 : Rd Try.prog W 3 [c0_6] := by
    have h := f0 6 _ rfl
    simpa [show Try.prog.cellsOf 3 = 1 from by kernel_rfl] using h
  obtain ⟨la, e0_6, w0_6⟩ := Rd.int Try.underlying3 f0_6
  simp only [List.cons.injEq, and_true] at e0_6
  subst e0_6
  obtain ⟨lo_la, hi_la⟩ := wf_i64 w0_6
  have g1 := Rd.of h1
  obtain ⟨s1, s2, s3, e1⟩ := okWide_slice Try.underlying25 (hval 1 25 v1 rfl rfl)
  subst e1
  obtain ⟨a', n', c', l, e1, hs_l, hn_l, hw_l⟩ := Rd.ints Try.underlying25 Try.underlying34 (by kernel_rfl) (show Rd Try.prog W 25 [.slice s1 s2 s3] from g1)
  injection e1 with q1 q2 q3; subst q1 q2 q3
  refine (fp_walk st ct cy cl oc a n c fr la s1 s2 s3 l W hs_fr hs_l (fun x hx => wf_u32 (hw_l x hx)) hn_fr hn_l).mono fun e W' ⟨he, bel⟩ => ?_
  subst he
  exact ⟨_, rfl, _, _, _, [], _, [], hW', trodAll_mk1 (shut_bool Try.underlying4 _), (trodAll_cons_mk (Below.trod Try.laidOut (by kernel_rfl) (of_decide_eq_true (by kernel_rfl)) k0 bel lt0) (trodAll_cons_mk (Below.trod Try.laidOut (by kernel_rfl) (of_decide_eq_true (by kernel_rfl)) k1 bel lt1) trodAll_mk0)), rfl, bel.frame _, fun h => by cases h⟩

theorem faultstorePacks_holds : Rows.FaultstorePacksSaid :=
  OpenClaim.holds_of_wide 3 Try.f3 rfl rfl rfl rfl rfl rfl rfl ⟨rfl, rfl, rfl, rfl, rfl⟩ rfl rfl rfl rfl rfl (by kernel_rfl) Try.func3 (by kernel_rfl)
    (of_decide_eq_true (by kernel_rfl)) (by unfold Func.isWrapper; first | (rw [if_pos (by decide +kernel)]; kernel_rfl) | (rw [if_neg (by decide +kernel)]; exact ⟨rfl, rfl⟩))
    (fun os started H enc _ => faultstorePacks_lifted os started H enc)
#print axioms faultstorePacks_holds
end Go.Proofs.Ytajplaebcbojgaa
