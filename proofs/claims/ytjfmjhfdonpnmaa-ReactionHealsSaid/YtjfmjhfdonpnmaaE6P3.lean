/- Part of a typed evaluator of the program's functions, proved sound. No condition. -/
import Derived.Test.YtjfmjhfdonpnmaaE6P2
set_option maxRecDepth 10000
set_option linter.unusedVariables false
set_option linter.unusedSimpArgs false
namespace Go.Ev
open Go Go.RowKit
variable {P : Program}
theorem subOK_ofP (look : Look) (t : Ty) (x : t.den) : (ofP t x).subOK look = true := by
  cases t <;> rfl
theorem purify_self (look : Look) : ∀ (ts : List Ty) (x : HDen ts), purify look ts (ofH ts x) = some (ofH ts x)
  | [], _ => rfl
  | t :: ts, (a, x) => by simp [ofH, purify, toPH_ofP, purify_self look ts x]
theorem subsOK_self (look : Look) : ∀ (ts : List Ty) (x : HDen ts), subsOK look (ofH ts x) = true
  | [], _ => rfl
  | t :: ts, (a, x) => by
    have := subsOK_self look ts x
    simp only [subsOK] at this ⊢
    simp [ofH, subOK_ofP, this]
/-- A contract out of a summary, for pure arguments. -/
theorem calls_of_summN {f : Nat} {ts rs : List Ty} {p : HDen ts → Bool} {v : HDen ts → HDen rs} (h : SummOK P f (shN ts rs p v)) (x : HDen ts) (hp : p x = true) {w : World} {I : Nat → Prop} (himm : ∀ g, I g → g < w.heap.size) {vs : List Value} (hvs : Vs (pureE w I) (ofH ts x) vs) :
    Calls P f vs.toArray w fun e w' => ∃ u E', e = .returned u ∧ E'.w = w' ∧ Below w.heap.size w w' ∧ VRep E' (tupOf (ofH rs (v x))) u := by
  have hs : shN ts rs p v (ofH ts x) (lookH []) 0 = some ⟨subsOK (lookH []) (ofH ts x) && p x, tupOf (ofH rs (v x)), []⟩ := by
    unfold shN fN pureN
    rw [purify_self]
    simp only [toH_ofH]
  refine Calls.mono (h.2.2 w.heap.size (pureE w I) [] (ofH ts x) vs 0 _ (HS.pureE himm) hvs hs ?_ (by simp [lookH]) (by simp)) ?_
  · show (subsOK (lookH []) (ofH ts x) && p x) = true
    rw [subsOK_self, hp]; rfl
  · rintro e w' ⟨u, E', rfl, rfl, hle, _, hv⟩
    exact ⟨u, E', rfl, rfl, hle.bel, hv⟩
end Go.Ev
namespace Go.Ev
open Go
/-! Plain lemmas about functions that were printed. -/
section
variable {R : Type} {x y : Option R}
theorem gd_tt : gd true x = x := rfl
theorem inB_t {i : Int} {n : Nat} (h0 : 0 ≤ i) (h1 : i < n) : inB i n = true := by simp [inB]; omega
theorem gd_inB {i : Int} {n : Nat} (h0 : 0 ≤ i) (h1 : i < n) : gd (inB i n) x = x := by rw [inB_t h0 h1]; rfl
theorem gd_room {n b : Nat} (h1 : n * b ≤ 140737488355328) (h2 : n ≤ 140737488355328) : gd (room n b) x = x := by rw [room_ok h1 h2]; rfl
end
section
variable {α : Type} {x y : α}
theorem cond_dtt {c : Prop} [Decidable c] (h : c) : (bif decide c then x else y) = x := by rw [decide_eq_true h]; rfl
theorem cond_dff {c : Prop} [Decidable c] (h : ¬ c) : (bif decide c then x else y) = y := by rw [decide_eq_false h]; rfl
theorem cond_ett {a b : Int} (h : a = b) : (bif a == b then x else y) = x := by rw [beq_iff_eq.2 h]; rfl
theorem cond_eff {a b : Int} (h : ¬ a = b) : (bif a == b then x else y) = y := by rw [beq_eq_false_iff_ne.2 h]; rfl
theorem cond_ntt {a b : Int} (h : ¬ a = b) : (bif a != b then x else y) = x := by rw [bne_iff_ne.2 h]; rfl
theorem cond_nff {a b : Int} (h : a = b) : (bif a != b then x else y) = y := by subst h; rw [bne_self_eq_false]; rfl
theorem cond_t : (bif true then x else y) = x := rfl
theorem cond_f : (bif false then x else y) = y := rfl
end
theorem wi64 {n : Int} (h0 : -9223372036854775808 ≤ n) (h1 : n ≤ 9223372036854775807) : IntKind.wrap .i64 n = n := IntWalk.i64_in n ⟨h0, h1⟩
end Go.Ev
