/- Proved: for every stage state, key, guard, quiz and two times, the law StageCauses returns true and changes no argument. No condition. -/
import Derived.Test.YtldlbaldlfedeaaRead
import Derived.Test.YtldlbaldlfedeaaScA0
import Derived.Test.YtldlbaldlfedeaaScA1
import Derived.Test.YtldlbaldlfedeaaScA2
import Derived.Test.YtldlbaldlfedeaaScA3
namespace Go.Proofs.Ytldlbaldlfedeaa
open Go.ChangeShapes Go.WideShapes Go.ChangeAt Go.RowKit

theorem sc_walk (en : Bool) (c s : Int) (key : Bool) (o k : Int) (goff : Bool) (q a er : Int) (op qoff : Bool) (now later : Int) (w : World) (hs : -9223372036854775808 ≤ s) (hs2 : s ≤ 9223372036854775807) (hn : -9223372036854775808 ≤ now) (hn2 : now ≤ 9223372036854775807) (hl : -9223372036854775808 ≤ later) (hl2 : later ≤ 9223372036854775807) :
    Calls Try.prog 4 #[.agg #[.bool en, .int .i64 c, .int .i64 s], .bool key, .agg #[.int .i64 o, .int .i64 k, .bool goff], .agg #[.int .i64 q, .int .i64 a, .int .i64 er, .bool op, .bool qoff], .int .i64 now, .int .i64 later] w
      fun e w' => e = .returned (.bool true) ∧ Below w.heap.size w w' := by
  cases hA : (stValid en c s && (gdValid o k goff && qzValid q a er op qoff))
  · exact sc_err en c s key o k goff q a er op qoff now later w hs hs2 hn hn2 hl hl2 1 rfl (fun w => stage_step_arg en c s key o k goff q a er op qoff now w hA)
  have hv : stValid en c s = true := by simp at hA; exact hA.1
  have hg : gdValid o k goff = true := by simp at hA; exact hA.2.1
  have hq : qzValid q a er op qoff = true := by simp at hA; exact hA.2.2
  clear hA
  cases ht : tm now
  · exact sc_err en c s key o k goff q a er op qoff now later w hs hs2 hn hn2 hl hl2 2 rfl (fun w => stage_step_range en c s key o k goff q a er op qoff now w hv hg hq ht)
  have hnm : now ≤ 1099511627776 := by simp [tm] at ht; omega
  rcases Int.lt_or_le now s with h | hsn
  · exact sc_err en c s key o k goff q a er op qoff now later w hs hs2 hn hn2 hl hl2 16 rfl (fun w => stage_step_time en c s key o k goff q a er op qoff now w hv hg hq ht h)
  have h3 : later < now ∨ (now ≤ later ∧ 1099511627776 < later) ∨ (now ≤ later ∧ later ≤ 1099511627776) := by omega
  cases key
  · cases en
    · rcases h3 with h | ⟨h, h'⟩ | ⟨h, h'⟩
      · exact sc_1f_lt c s o k q a er op goff qoff now later w hs hs2 hn hn2 hl hl2 hv hg hq hsn hnm h
      · exact sc_1f_gt c s o k q a er op goff qoff now later w hs hs2 hn hn2 hl hl2 hv hg hq hsn hnm h h'
      · exact sc_1f_in c s o k q a er op goff qoff now later w hs hs2 hn hn2 hl hl2 hv hg hq hsn hnm h h'
    · rcases h3 with h | ⟨h, h'⟩ | ⟨h, h'⟩
      · exact sc_1t_lt c s o k q a er op goff qoff now later w hs hs2 hn hn2 hl hl2 hv hg hq hsn hnm h
      · exact sc_1t_gt c s o k q a er op goff qoff now later w hs hs2 hn hn2 hl hl2 hv hg hq hsn hnm h h'
      · exact sc_1t_in c s o k q a er op goff qoff now later w hs hs2 hn hn2 hl hl2 hv hg hq hsn hnm h h'
  · cases goff
    · cases qoff
      · cases en
        · rcases h3 with h | ⟨h, h'⟩ | ⟨h, h'⟩
          · exact sc_0f_lt c s o k q a er op now later w hs hs2 hn hn2 hl hl2 hv hg hq hsn hnm h
          · exact sc_0f_gt c s o k q a er op now later w hs hs2 hn hn2 hl hl2 hv hg hq hsn hnm h h'
          · exact sc_0f_in c s o k q a er op now later w hs hs2 hn hn2 hl hl2 hv hg hq hsn hnm h h'
        · rcases h3 with h | ⟨h, h'⟩ | ⟨h, h'⟩
          · exact sc_0t_lt c s o k q a er op now later w hs hs2 hn hn2 hl hl2 hv hg hq hsn hnm h
          · exact sc_0t_gt c s o k q a er op now later w hs hs2 hn hn2 hl hl2 hv hg hq hsn hnm h h'
          · exact sc_0t_in c s o k q a er op now later w hs hs2 hn hn2 hl hl2 hv hg hq hsn hnm h h'
      · cases en
        · rcases h3 with h | ⟨h, h'⟩ | ⟨h, h'⟩
          · exact sc_3f_lt c s o k q a er op now later w hs hs2 hn hn2 hl hl2 hv hg hq hsn hnm h
          · exact sc_3f_gt c s o k q a er op now later w hs hs2 hn hn2 hl hl2 hv hg hq hsn hnm h h'
          · exact sc_3f_in c s o k q a er op now later w hs hs2 hn hn2 hl hl2 hv hg hq hsn hnm h h'
        · rcases h3 with h | ⟨h, h'⟩ | ⟨h, h'⟩
          · exact sc_3t_lt c s o k q a er op now later w hs hs2 hn hn2 hl hl2 hv hg hq hsn hnm h
          · exact sc_3t_gt c s o k q a er op now later w hs hs2 hn hn2 hl hl2 hv hg hq hsn hnm h h'
          · exact sc_3t_in c s o k q a er op now later w hs hs2 hn hn2 hl hl2 hv hg hq hsn hnm h h'
    · cases en
      · rcases h3 with h | ⟨h, h'⟩ | ⟨h, h'⟩
        · exact sc_2f_lt c s o k q a er op qoff now later w hs hs2 hn hn2 hl hl2 hv hg hq hsn hnm h
        · exact sc_2f_gt c s o k q a er op qoff now later w hs hs2 hn hn2 hl hl2 hv hg hq hsn hnm h h'
        · exact sc_2f_in c s o k q a er op qoff now later w hs hs2 hn hn2 hl hl2 hv hg hq hsn hnm h h'
      · rcases h3 with h | ⟨h, h'⟩ | ⟨h, h'⟩
        · exact sc_2t_lt c s o k q a er op qoff now later w hs hs2 hn hn2 hl hl2 hv hg hq hsn hnm h
        · exact sc_2t_gt c s o k q a er op qoff now later w hs hs2 hn hn2 hl hl2 hv hg hq hsn hnm h h'
        · exact sc_2t_in c s o k q a er op qoff now later w hs hs2 hn hn2 hl hl2 hv hg hq hsn hnm h h'

set_option maxRecDepth 100000 in
set_option maxHeartbeats 1000000 in
theorem stageCauses_lifted (os : Os) (started : os.Started) (H : Type) (enc : TypeId × Value → H) :
    ReturnsInHanded {} Try.checked os 4 .any (Rows.stageCausesSpec.pre6 enc Try.prog Try.f4 Rows.stageCausesRow.domain false) (Rows.stageCausesSpec.post enc Try.prog Try.f4 false true false false) := by
  refine returnsInHanded_of_change (C := Try.checked) Try.own started (by kernel_rfl) Try.func4
    (ChangeSpec.witness6 (enc := enc) (C := Try.checked) false ⟨#[], #[.agg #[.bool false, .int .i64 0, .int .i64 0], .bool false, .agg #[.int .i64 0, .int .i64 0, .bool false], .agg #[.int .i64 0, .int .i64 0, .int .i64 0, .bool false, .bool false], .int .i64 0, .int .i64 0], []⟩ 8 (by kernel_rfl) (by kernel_rfl) (by kernel_rfl) (by kernel_rfl)) ?_
  intro W base args ds gs before hval0 hW _ _
  have hval : ∀ (j : Nat) t v, Try.f4.params[j]? = some t → args[j]? = some v → Value.okWide Try.prog W .any base t v := hval0
  have hW' := hW
  obtain ⟨p, q, hA0, hV, rfl, _, _⟩ := hW
  have hA : DataW.TrodAll enc Try.prog W 0 (fun _ => true) true Try.f4.params.toList args.toList ds p := hA0
  rw [Try.params4] at hA hval
  obtain ⟨v0, vs0, d0, ds0, p0, q0, hargs, rfl, rfl, h0, r0⟩ := trodAll_cons hA
  obtain ⟨v1, vs1, d1, ds1, p1, q1, rfl, rfl, rfl, h1, r1⟩ := trodAll_cons r0
  obtain ⟨v2, vs2, d2, ds2, p2, q2, rfl, rfl, rfl, h2, r2⟩ := trodAll_cons r1
  obtain ⟨v3, vs3, d3, ds3, p3, q3, rfl, rfl, rfl, h3, r3⟩ := trodAll_cons r2
  obtain ⟨v4, vs4, d4, ds4, p4, q4, rfl, rfl, rfl, h4, r4⟩ := trodAll_cons r3
  obtain ⟨v5, vs5, d5, ds5, p5, q5, rfl, rfl, rfl, h5, r5⟩ := trodAll_cons r4
  obtain ⟨rfl, rfl, rfl⟩ := trodAll_nil r5
  obtain rfl : args = #[v0, v1, v2, v3, v4, v5] := by cases args; simp_all
  obtain ⟨rfl, rfl⟩ := trodVars_none hV
  have k0 := h0
  have lt0 : ∀ x ∈ p0, x.block < W.heap.size := by obtain ⟨m, hm⟩ := k0; exact DataW.trod_lt m _ _ _ hm
  have k1 := h1
  have lt1 : ∀ x ∈ p1, x.block < W.heap.size := by obtain ⟨m, hm⟩ := k1; exact DataW.trod_lt m _ _ _ hm
  have k2 := h2
  have lt2 : ∀ x ∈ p2, x.block < W.heap.size := by obtain ⟨m, hm⟩ := k2; exact DataW.trod_lt m _ _ _ hm
  have k3 := h3
  have lt3 : ∀ x ∈ p3, x.block < W.heap.size := by obtain ⟨m, hm⟩ := k3; exact DataW.trod_lt m _ _ _ hm
  have k4 := h4
  have lt4 : ∀ x ∈ p4, x.block < W.heap.size := by obtain ⟨m, hm⟩ := k4; exact DataW.trod_lt m _ _ _ hm
  have k5 := h5
  have lt5 : ∀ x ∈ p5, x.block < W.heap.size := by obtain ⟨m, hm⟩ := k5; exact DataW.trod_lt m _ _ _ hm
  have g0 := Rd.of h0
  obtain ⟨cs0, rfl, _⟩ := okWide_struct Try.underlying23 (hval 0 23 v0 rfl rfl)
  obtain ⟨l0, f0⟩ := Rd.struct Try.underlying23 g0
  rw [show Try.prog.cellsOf 23 = 3 from by kernel_rfl] at l0
  obtain ⟨c0_0, c0_1, c0_2, e0⟩ := len3 l0
  rw [e0] at f0
  obtain rfl := arr_of e0
  have f0_0 : Rd Try.prog W 4 [c0_0] := by
    have h := f0 0 _ rfl
    simpa [show Try.prog.cellsOf 4 = 1 from by kernel_rfl] using h
  obtain ⟨en, e0_0⟩ := Rd.bool Try.underlying4 f0_0
  simp only [List.cons.injEq, and_true] at e0_0
  subst e0_0
  have f0_1 : Rd Try.prog W 3 [c0_1] := by
    have h := f0 1 _ rfl
    simpa [show Try.prog.cellsOf 3 = 1 from by kernel_rfl] using h
  obtain ⟨c, e0_1, w0_1⟩ := Rd.int Try.underlying3 f0_1
  simp only [List.cons.injEq, and_true] at e0_1
  subst e0_1
  obtain ⟨lo_c, hi_c⟩ := wf_i64 w0_1
  have f0_2 : Rd Try.prog W 3 [c0_2] := by
    have h := f0 2 _ rfl
    simpa [show Try.prog.cellsOf 3 = 1 from by kernel_rfl] using h
  obtain ⟨s, e0_2, w0_2⟩ := Rd.int Try.underlying3 f0_2
  simp only [List.cons.injEq, and_true] at e0_2
  subst e0_2
  obtain ⟨lo_s, hi_s⟩ := wf_i64 w0_2
  obtain ⟨key, rfl, rfl, rfl⟩ := open_bool Try.underlying4 (hval 1 4 v1 rfl rfl) h1
  have g2 := Rd.of h2
  obtain ⟨cs2, rfl, _⟩ := okWide_struct Try.underlying25 (hval 2 25 v2 rfl rfl)
  obtain ⟨l2, f2⟩ := Rd.struct Try.underlying25 g2
  rw [show Try.prog.cellsOf 25 = 3 from by kernel_rfl] at l2
  obtain ⟨c2_0, c2_1, c2_2, e2⟩ := len3 l2
  rw [e2] at f2
  obtain rfl := arr_of e2
  have f2_0 : Rd Try.prog W 3 [c2_0] := by
    have h := f2 0 _ rfl
    simpa [show Try.prog.cellsOf 3 = 1 from by kernel_rfl] using h
  obtain ⟨o, e2_0, w2_0⟩ := Rd.int Try.underlying3 f2_0
  simp only [List.cons.injEq, and_true] at e2_0
  subst e2_0
  obtain ⟨lo_o, hi_o⟩ := wf_i64 w2_0
  have f2_1 : Rd Try.prog W 3 [c2_1] := by
    have h := f2 1 _ rfl
    simpa [show Try.prog.cellsOf 3 = 1 from by kernel_rfl] using h
  obtain ⟨k, e2_1, w2_1⟩ := Rd.int Try.underlying3 f2_1
  simp only [List.cons.injEq, and_true] at e2_1
  subst e2_1
  obtain ⟨lo_k, hi_k⟩ := wf_i64 w2_1
  have f2_2 : Rd Try.prog W 4 [c2_2] := by
    have h := f2 2 _ rfl
    simpa [show Try.prog.cellsOf 4 = 1 from by kernel_rfl] using h
  obtain ⟨goff, e2_2⟩ := Rd.bool Try.underlying4 f2_2
  simp only [List.cons.injEq, and_true] at e2_2
  subst e2_2
  have g3 := Rd.of h3
  obtain ⟨cs3, rfl, _⟩ := okWide_struct Try.underlying27 (hval 3 27 v3 rfl rfl)
  obtain ⟨l3, f3⟩ := Rd.struct Try.underlying27 g3
  rw [show Try.prog.cellsOf 27 = 5 from by kernel_rfl] at l3
  obtain ⟨c3_0, c3_1, c3_2, c3_3, c3_4, e3⟩ := len5 l3
  rw [e3] at f3
  obtain rfl := arr_of e3
  have f3_0 : Rd Try.prog W 3 [c3_0] := by
    have h := f3 0 _ rfl
    simpa [show Try.prog.cellsOf 3 = 1 from by kernel_rfl] using h
  obtain ⟨q, e3_0, w3_0⟩ := Rd.int Try.underlying3 f3_0
  simp only [List.cons.injEq, and_true] at e3_0
  subst e3_0
  obtain ⟨lo_q, hi_q⟩ := wf_i64 w3_0
  have f3_1 : Rd Try.prog W 3 [c3_1] := by
    have h := f3 1 _ rfl
    simpa [show Try.prog.cellsOf 3 = 1 from by kernel_rfl] using h
  obtain ⟨a, e3_1, w3_1⟩ := Rd.int Try.underlying3 f3_1
  simp only [List.cons.injEq, and_true] at e3_1
  subst e3_1
  obtain ⟨lo_a, hi_a⟩ := wf_i64 w3_1
  have f3_2 : Rd Try.prog W 3 [c3_2] := by
    have h := f3 2 _ rfl
    simpa [show Try.prog.cellsOf 3 = 1 from by kernel_rfl] using h
  obtain ⟨er, e3_2, w3_2⟩ := Rd.int Try.underlying3 f3_2
  simp only [List.cons.injEq, and_true] at e3_2
  subst e3_2
  obtain ⟨lo_er, hi_er⟩ := wf_i64 w3_2
  have f3_3 : Rd Try.prog W 4 [c3_3] := by
    have h := f3 3 _ rfl
    simpa [show Try.prog.cellsOf 4 = 1 from by kernel_rfl] using h
  obtain ⟨op, e3_3⟩ := Rd.bool Try.underlying4 f3_3
  simp only [List.cons.injEq, and_true] at e3_3
  subst e3_3
  have f3_4 : Rd Try.prog W 4 [c3_4] := by
    have h := f3 4 _ rfl
    simpa [show Try.prog.cellsOf 4 = 1 from by kernel_rfl] using h
  obtain ⟨qoff, e3_4⟩ := Rd.bool Try.underlying4 f3_4
  simp only [List.cons.injEq, and_true] at e3_4
  subst e3_4
  obtain ⟨now, rfl, rfl, rfl, w4⟩ := open_int Try.underlying3 (hval 4 3 v4 rfl rfl) h4
  obtain ⟨lo_now, hi_now⟩ := wf_i64 w4
  obtain ⟨later, rfl, rfl, rfl, w5⟩ := open_int Try.underlying3 (hval 5 3 v5 rfl rfl) h5
  obtain ⟨lo_later, hi_later⟩ := wf_i64 w5
  refine (sc_walk en c s key o k goff q a er op qoff now later W lo_s hi_s lo_now hi_now lo_later hi_later).mono fun e W' ⟨he, bel⟩ => ?_
  subst he
  exact ⟨_, rfl, _, _, _, [], _, [], hW', trodAll_mk1 (shut_bool Try.underlying4 _), (trodAll_cons_mk (Below.trod Try.laidOut (by kernel_rfl) (of_decide_eq_true (by kernel_rfl)) k0 bel lt0) (trodAll_cons_mk (Below.trod Try.laidOut (by kernel_rfl) (of_decide_eq_true (by kernel_rfl)) k1 bel lt1) (trodAll_cons_mk (Below.trod Try.laidOut (by kernel_rfl) (of_decide_eq_true (by kernel_rfl)) k2 bel lt2) (trodAll_cons_mk (Below.trod Try.laidOut (by kernel_rfl) (of_decide_eq_true (by kernel_rfl)) k3 bel lt3) (trodAll_cons_mk (Below.trod Try.laidOut (by kernel_rfl) (of_decide_eq_true (by kernel_rfl)) k4 bel lt4) (trodAll_cons_mk (Below.trod Try.laidOut (by kernel_rfl) (of_decide_eq_true (by kernel_rfl)) k5 bel lt5) trodAll_mk0)))))), rfl, bel.frame _, fun h => by cases h⟩

theorem stageCauses_holds : Rows.StageCausesSaid :=
  OpenClaim.holds_of_wide 4 Try.f4 rfl rfl rfl rfl rfl rfl rfl ⟨rfl, rfl, rfl, rfl, rfl⟩ rfl rfl rfl rfl rfl (by kernel_rfl) Try.func4 (by kernel_rfl)
    (of_decide_eq_true (by kernel_rfl)) (by unfold Func.isWrapper; first | (rw [if_pos (by decide +kernel)]; kernel_rfl) | (rw [if_neg (by decide +kernel)]; exact ⟨rfl, rfl⟩))
    (fun os started H enc _ => stageCauses_lifted os started H enc)
#print axioms stageCauses_holds
end Go.Proofs.Ytldlbaldlfedeaa
