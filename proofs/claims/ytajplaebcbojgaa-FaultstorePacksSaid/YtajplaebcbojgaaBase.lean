/- Small words and lemmas that all walks of this seat share: blocks of the call's own, known whole; the frame of a call. -/
import Derived.Test.YtajplaebcbojgaaProg
import Derived.WalkKit
import Derived.WalkSpells
import Derived.WalkLawsBesides
import Derived.KernelRfl
import Derived.Deep.RegionHeld3
import Derived.Deep.RegionWith
import Derived.Deep.RegionLaw
import Derived.Deep.QuietTactic
import Derived.BigQuiet
import Derived.BigGuardPart
import Derived.Deep.DeepCutAuto
import Derived.Deep.LoopGhost
import Derived.Lib.Hide
import Derived.Handy

set_option linter.unusedVariables false
set_option linter.unusedSimpArgs false
namespace Go.Proofs.Ytajplaebcbojgaa
open Go.RowKit

/-! 'Above w1 is w'': what the walk asks of itself where a cell of a block below the base is read -/
theorem above_alloc {w1 w' : World} (o : Obj) (h : Below w1.heap.size w1 w') : Below w1.heap.size w1 (w'.alloc o) := h.alloc h.size o
theorem above_drew {w1 w' : World} (h : Below w1.heap.size w1 w') : Below w1.heap.size w1 w'.drew := h.drew
theorem above_drewN {w1 w' : World} (n : Nat) (h : Below w1.heap.size w1 w') : Below w1.heap.size w1 (w'.drewN n) := ⟨h.os, h.tape, h.output, h.size, h.block⟩
theorem above_setCell {w1 w' : World} {b i : Nat} (u : Value) (h : Below w1.heap.size w1 w') (hp : w1.heap.size ≤ b) : Below w1.heap.size w1 (w'.setCell ⟨b, i, none⟩ u) := h.setCell (p := ⟨b, i, none⟩) hp u
theorem below_drewN {B : Nat} {a w : World} {n : Nat} (h : Below B a w) : Below B a (w.drewN n) := ⟨h.os, h.tape, h.output, h.size, h.block⟩
theorem nat_le_succ {a b : Nat} (h : a ≤ b) : a ≤ b + 1 := Nat.le_succ_of_le h
theorem nat_le_lt {a b : Nat} (h : a < b) : a ≤ b := Nat.le_of_lt h
attribute [go_sem] Below.refl above_alloc above_drew above_drewN above_setCell nat_le_succ nat_le_lt
theorem hb_lt {W w1 : World} (hb : Below W.heap.size W w1) : ∀ b, b < W.heap.size → b < w1.heap.size := fun _ h => Nat.lt_of_lt_of_le h hb.size
theorem bcell {W w1 : World} (hb : Below W.heap.size W w1) : (∀ b o, b < W.heap.size → w1.cell? ⟨b, o, none⟩ = W.cell? ⟨b, o, none⟩) ∧ (∀ b o, b < W.heap.size → w1.frozen? ⟨b, o, none⟩ = W.frozen? ⟨b, o, none⟩) :=
  ⟨fun b o h => hb.cell (p := ⟨b, o, none⟩) h, fun b o h => hb.frozen (p := ⟨b, o, none⟩) h⟩
theorem ret_b {a b : Bool} (h : a = b) : Ending.returned (.bool a) = .returned (.bool b) := by rw [h]
theorem ret_i {k : IntKind} {a b : Int} (h : a = b) : Ending.returned (.int k a) = .returned (.int k b) := by rw [h]

/-- Block g is just the cells cs of element type t, none frozen. -/
def Blk (w : World) (g : Nat) (t : TypeId) (cs : Array Value) : Prop := w.heap[g]? = some (.cells cs t (0, 0))
section
variable {w w' : World} {g : Nat} {t : TypeId} {cs : Array Value}
theorem Blk.lt (h : Blk w g t cs) : g < w.heap.size := by
  rcases Nat.lt_or_ge g w.heap.size with hlt | hge
  · exact hlt
  · unfold Blk at h; rw [Array.getElem?_eq_none hge] at h; cases h
theorem Blk.cell (h : Blk w g t cs) : ∀ i, w.cell? ⟨g, i, none⟩ = cs[i]? := fun i => cell_of_row w g i cs t (0, 0) h
theorem Blk.cellA (h : Blk w g t cs) : ∀ (W : World) (i : Nat), Below w.heap.size w W → W.cell? ⟨g, i, none⟩ = cs[i]? := fun _ i hb => (hb.cell (p := ⟨g, i, none⟩) h.lt).trans (h.cell i)
theorem Blk.free (h : Blk w g t cs) : ∀ i, w.frozen? ⟨g, i, none⟩ = false := fun i => by
  unfold Blk at h
  simp [World.frozen?, h]
theorem Blk.freeA (h : Blk w g t cs) : ∀ (W : World) (i : Nat), Below w.heap.size w W → W.frozen? ⟨g, i, none⟩ = false := fun _ i hb => (hb.frozen (p := ⟨g, i, none⟩) h.lt).trans (h.free i)
theorem Blk.new (hg : g = w.heap.size) : Blk (w.alloc (.cells cs t)) g t cs := by subst hg; exact heap_alloc_new w _
theorem Blk.drew (h : Blk w g t cs) : Blk w.drew g t cs := h
theorem Blk.drewN {n : Nat} (h : Blk w g t cs) : Blk (w.drewN n) g t cs := h
theorem Blk.alloc (h : Blk w g t cs) (o : Obj) : Blk (w.alloc o) g t cs := (Below.heap_alloc w o g h.lt).trans h
theorem Blk.cast {cs' : Array Value} (h : Blk w g t cs) (he : cs = cs') : Blk w g t cs' := he ▸ h
theorem Blk.set_ {i : Nat} {u : Value} (h : Blk w g t cs) : Blk (w.setCell ⟨g, i, none⟩ u) g t (cs.setIfInBounds i u) := by
  unfold Blk at h ⊢
  simp [World.setCell, Array.getElem?_modify, h]
theorem Blk.far {p : Addr} {u : Value} (hp : g ≠ p.block) (h : Blk w g t cs) : Blk (w.setCell p u) g t cs := (Below.heap_setCell w p u g hp).trans h
theorem Blk.below {B : Nat} (h : Blk w g t cs) (hb : Below B w w') (hg : g < B) : Blk w' g t cs := (hb.block g hg).trans h
theorem Blk.keep (h : Blk w g t cs) (hb : Below w.heap.size w w') : Blk w' g t cs := h.below hb h.lt
theorem Blk.keepB (hb : Below w.heap.size w w') (h : Blk w g t cs) : Blk w' g t cs := h.below hb h.lt
def CallB (w w' : World) : Prop := Below w.heap.size w w'
theorem CallB.of (hb : Below w.heap.size w w') : CallB w w' := hb
theorem Blk.keepC (hb : CallB w w') (h : Blk w g t cs) : Blk w' g t cs := h.below hb h.lt
theorem Blk.grown {row : Option Nat} (h : Blk w g t cs) (hb : w.grownBy w' row) (hg : some g ≠ row) : Blk w' g t cs := (hb.block g h.lt hg).trans h
end

theorem Blk.ne_ {w : World} {g g' : Nat} {t t' : TypeId} {cs cs' : Array Value} (h : Blk w g t cs) (h' : Blk w g' t' cs') (hne : t ≠ t') : g ≠ g' := by
  rintro rfl
  unfold Blk at h h'
  rw [h] at h'
  injection h' with h'
  injection h' with _ ht
  exact hne ht
theorem own_blk_ne {w : World} {g : Nat} {t : TypeId} {cs : Array Value} {base : Nat} {e : TypeId} {size n : Nat} {v : Value} {xs : List Value} (h : w.ownsRow base e size v n xs) (hg : Blk w g t cs) (hne : e ≠ t) : some g ≠ v.ownBlock := by
  rcases h.2 with ⟨rfl, _⟩ | ⟨g', cap, cur, rfl, _, hh, _⟩
  · simp [Value.ownBlock]
  · intro he
    have : g' = g := by simpa [Value.ownBlock] using he.symm
    subst this
    exact Blk.ne_ (t := e) hh hg hne rfl
theorem own_shape {w : World} {base : Nat} {e : TypeId} {size n : Nat} {v : Value} {xs : List Value} (h : w.ownsRow base e size v n xs) : ∃ A c, v = .slice A n c := by
  rcases h.2 with ⟨rfl, rfl⟩ | ⟨g', cap, cur, rfl, _⟩
  · exact ⟨_, _, rfl⟩
  · exact ⟨_, _, rfl⟩
theorem ownsRow_base {w : World} {base base' : Nat} {e : TypeId} {size n : Nat} {v : Value} {xs : List Value} (h : w.ownsRow base e size v n xs) (hb : base' ≤ base) : w.ownsRow base' e size v n xs := by
  refine ⟨h.1, ?_⟩
  rcases h.2 with h2 | ⟨g, cap, cur, hv, hg, r⟩
  · exact .inl h2
  · exact .inr ⟨g, cap, cur, hv, by omega, r⟩
theorem own_lt_ne {w : World} {g : Nat} {base : Nat} {e : TypeId} {size n : Nat} {v : Value} {xs : List Value} (h : w.ownsRow base e size v n xs) (hg : g < base) : some g ≠ v.ownBlock := by
  intro he
  have := (h.lt g he.symm).1
  omega
theorem own_below {w w' : World} {B base : Nat} {e : TypeId} {size n : Nat} {v : Value} {xs : List Value} (h : w.ownsRow base e size v n xs) (hb : Below B w w') (hB : w.heap.size ≤ B) : w'.ownsRow base e size v n xs := by
  refine ⟨h.1, ?_⟩
  rcases h.2 with h2 | ⟨g, cap, cur, hv, hg, hh, r⟩
  · exact .inl h2
  · have hlt : g < w.heap.size := by
      rcases Nat.lt_or_ge g w.heap.size with hlt | hge
      · exact hlt
      · rw [Array.getElem?_eq_none hge] at hh; cases hh
    exact .inr ⟨g, cap, cur, hv, hg, (hb.block g (by omega)).trans hh, r⟩
theorem own_keep {w w' : World} {base : Nat} {e : TypeId} {size n : Nat} {v : Value} {xs : List Value} (h : w.ownsRow base e size v n xs) (hb : Below w.heap.size w w') : w'.ownsRow base e size v n xs := own_below h hb (Nat.le_refl _)
/-- Behind an append, below a base under the row. -/
theorem below_grow {B base : Nat} {a w w' : World} {e : TypeId} {size n : Nat} {v : Value} {xs : List Value} (hB : Below B a w) (h : w.ownsRow base e size v n xs) (hg : w.grownBy w' v.ownBlock) (hb : B ≤ base) (hs : B ≤ w.heap.size) : Below B a w' :=
  hB.grown hg hs fun k hk => Nat.le_trans hb (h.lt k hk).1

theorem step_append_own {P : Program} {ops : Array Oper} {o : Oper} {a : Act} (w : World) {K : Act → World → Prop} {Q : Exit → Act → World → Prop} {E : Prop} (hgd : o.guard = none) (s x : Operand) (t : TypeId)
    (ho : o.op = .call { callee := .builtin .append, args := #[s, x], argTypes := #[t, t] })
    (base : Nat) (e : TypeId) (i : TypeInfo) (z : Value) (size bytes : Nat) (ht : P.underlying t = some (.slice e)) (hi : P.info? e = some i) (hz : i.zero = some z)
    (hsize : i.size = size) (hby : i.bytes = bytes) (hzs : z.cells.size = size) (hsz : 0 < size)
    (v : Value) (n : Nat) (xs : List Value) (hs : a.eval s = v) (hown : w.ownsRow base e size v n xs)
    (ad : Addr) (m c : Nat) (news : List Value) (hx : a.eval x = .slice (some ad) m c) (hl : news.length = m * size) (hnews : ∀ j u, news[j]? = some u → w.cell? (ad.add j) = some u) (h1 : ∀ u ∈ news, u.oneCell' = true)
    (h63 : n + m ≤ maxLen) (hbytes : (n + m) * bytes ≤ 140737488355328) (hbase : base ≤ w.heap.size)
    (h : ∀ v' w', w'.ownsRow base e size v' (n + m) (xs ++ news) → w.grownBy w' v.ownBlock → (v' = .slice none 0 0 ↔ v = .slice none 0 0 ∧ m = 0) → K (a.put o.dst v') w') :
    if Region.wanted o (yielded ops a.tmps) = true then Oper.wp P o a w K Q else E := by
  rw [if_pos (by simp [Region.wanted, hgd])]
  exact wp_append_own w s x t ho base e i z size bytes ht hi hz hsize hby hzs hsz v n xs hs hown ad m c news hx hl hnews h1 h63 hbytes hbase h

/-! ### Results that lie in a variable of the call's own (structs), met whole -/
def aggD (d : TypeDesc) : Bool := match d with | .struct _ | .array _ _ => true | _ => false
section
variable {P : Program} {fn : Func} {tmps : Array Value} {w : World}
theorem Blk.loadVar {g : Nat} {t ty : TypeId} {cs : Array Value} {d : TypeDesc} (h : Blk w g t cs) (hu : P.underlying ty = some d) (hd : aggD d = true) (hi : (P.info? ty).map (·.size) = some cs.size) :
    (loadVar ty ⟨g, 0, none⟩).run P w = .ok (.agg cs) w := run_loadVar_row w g t ty cs (0, 0) d h hu (by cases d <;> simp_all [aggD]) hi
theorem res_row {p : Tmp} {ty : TypeId} (h : fn.results = #[.cell p ty]) {g : Nat} {t : TypeId} {cs : Array Value} {d : TypeDesc} (hp : tmps.getD p undef = .pointer (some ⟨g, 0, none⟩)) (hb : Blk w g t cs)
    (hu : P.underlying ty = some d) (hd : aggD d = true) (hi : (P.info? ty).map (·.size) = some cs.size) : (results fn tmps).run P w = .ok (.agg cs) w :=
  results_cell_row h tmps w g t cs (0, 0) d hp hb hu (by cases d <;> simp_all [aggD]) hi
theorem res_row_tmp {p u : Tmp} {ty : TypeId} (h : fn.results = #[.cell p ty, .tmp u]) {g : Nat} {t : TypeId} {cs : Array Value} {d : TypeDesc} (hp : tmps.getD p undef = .pointer (some ⟨g, 0, none⟩)) (hb : Blk w g t cs)
    (hu : P.underlying ty = some d) (hd : aggD d = true) (hi : (P.info? ty).map (·.size) = some cs.size) : (results fn tmps).run P w = .ok (.tuple #[.agg cs, tmps.getD u undef]) w := by
  have hp' : tmps[p]?.getD undef = .pointer (some ⟨g, 0, none⟩) := by simpa using hp
  simp [results, h, hp', asAddr, Blk.loadVar hb hu hd hi]
theorem res_row_row_tmp {p q u : Tmp} {ty tz : TypeId} (h : fn.results = #[.cell p ty, .cell q tz, .tmp u]) {g k : Nat} {t s : TypeId} {cs ds : Array Value} {d e : TypeDesc}
    (hp : tmps.getD p undef = .pointer (some ⟨g, 0, none⟩)) (hq : tmps.getD q undef = .pointer (some ⟨k, 0, none⟩)) (hb : Blk w g t cs) (hk : Blk w k s ds)
    (hu : P.underlying ty = some d) (hd : aggD d = true) (hi : (P.info? ty).map (·.size) = some cs.size) (hv : P.underlying tz = some e) (he : aggD e = true) (hj : (P.info? tz).map (·.size) = some ds.size) :
    (results fn tmps).run P w = .ok (.tuple #[.agg cs, .agg ds, tmps.getD u undef]) w := by
  have hp' : tmps[p]?.getD undef = .pointer (some ⟨g, 0, none⟩) := by simpa using hp
  have hq' : tmps[q]?.getD undef = .pointer (some ⟨k, 0, none⟩) := by simpa using hq
  simp [results, h, hp', hq', asAddr, Blk.loadVar hb hu hd hi, Blk.loadVar hk hv he hj]
theorem ret_t2 {a b c d : Value} (h : a = c) (k : b = d) : Ending.returned (.tuple #[a, b]) = .returned (.tuple #[c, d]) := by rw [h, k]
theorem ret_t3 {a b c d e f : Value} (h : a = d) (k : b = e) (l : c = f) : Ending.returned (.tuple #[a, b, c]) = .returned (.tuple #[d, e, f]) := by rw [h, k, l]
end
end Go.Proofs.Ytajplaebcbojgaa
