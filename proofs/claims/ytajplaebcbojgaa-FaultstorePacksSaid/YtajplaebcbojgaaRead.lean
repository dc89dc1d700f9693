/- How arguments read: what a law's walk is told of what comes in. -/
import Derived.Test.YtajplaebcbojgaaRows
import Derived.Test.YtajplaebcbojgaaBase
import Derived.ProofKit
import Derived.OpenShut
import Derived.ShutString
import Derived.ChangeOld
import Derived.Deep.Slices
import Derived.Deep.Fields
namespace Go.Proofs.Ytajplaebcbojgaa
open Go.ChangeShapes Go.WideShapes Go.ChangeAt Go.RowKit

/-- The cells cs read as a value of type t. -/
def Rd (P : Program) (W : World) (t : TypeId) (cs : List Value) : Prop :=
  ∃ (H : Type) (enc : TypeId × Value → H) (spare : Nat → Bool) (held : Bool) (fuel : Nat) (x : DataW H × List MemPlace), DataW.trod enc P W 0 spare held fuel t cs = some x
section
variable {P : Program} {W : World} {t : TypeId} {cs : List Value}
theorem Rd.of {H : Type} {enc : TypeId × Value → H} {spare : Nat → Bool} {held : Bool} {v : Value} {d : DataW H} {p : List MemPlace} (h : DataW.Trod enc P W 0 spare held t v d p) : Rd P W t v.cells.toList := by
  obtain ⟨fuel, hf⟩ := h
  exact ⟨H, enc, spare, held, fuel, _, hf⟩
theorem Rd.bool (ht : P.underlying t = some .bool) (h : Rd P W t cs) : ∃ b, cs = [.bool b] := by
  obtain ⟨_, _, _, _, _, _, hf⟩ := h
  obtain ⟨b, e, _⟩ := DataW.trod_bool ht hf
  exact ⟨b, e⟩
theorem Rd.int {k : IntKind} (ht : P.underlying t = some (.int k)) (h : Rd P W t cs) : ∃ n, cs = [.int k n] ∧ (Lit.int k n).wf = true := by
  obtain ⟨_, _, _, _, _, _, hf⟩ := h
  obtain ⟨n, e, _, w⟩ := DataW.trod_int ht hf
  exact ⟨n, e, w⟩
theorem Rd.struct {fs : Array Field} (ht : P.underlying t = some (.struct fs)) (h : Rd P W t cs) :
    cs.length = P.cellsOf t ∧ ∀ (i : Nat) (f : Field), fs[i]? = some f → Rd P W f.type ((cs.drop f.offset).take (P.cellsOf f.type)) := by
  obtain ⟨_, _, _, _, _, _, hf⟩ := h
  obtain ⟨xs, n, _, _, hl, hxl, hi⟩ := DataW.trod_struct ht hf
  refine ⟨hl, fun i f hfi => ?_⟩
  have hlt : i < fs.size := (Array.getElem?_eq_some_iff.1 hfi).1
  have h2 := hi i f hfi
  rw [List.getElem?_eq_getElem (by omega)] at h2
  exact ⟨_, _, _, _, _, _, h2⟩
theorem Rd.array {n : Nat} {e : TypeId} (ht : P.underlying t = some (.array n e)) (h : Rd P W t cs) :
    cs.length = P.cellsOf t ∧ ∀ i, i < n → Rd P W e ((cs.drop (i * P.cellsOf e)).take (P.cellsOf e)) := by
  obtain ⟨_, _, _, _, _, _, hf⟩ := h
  obtain ⟨xs, n', _, _, hl, hxl, hi⟩ := DataW.trod_array ht hf
  refine ⟨hl, fun i hin => ?_⟩
  have h2 := hi i hin
  rw [List.getElem?_eq_getElem (by omega)] at h2
  exact ⟨_, _, _, _, _, _, h2⟩
theorem Rd.slice {e : TypeId} (ht : P.underlying t = some (.slice e)) (h : Rd P W t cs) :
    cs = [.slice none 0 0] ∨ ∃ (a : Addr) (len cap : Nat), cs = [.slice (some a) len cap] ∧ len ≤ cap ∧ cap ≤ maxLen ∧
      ∀ i, i < len → ∃ cs', W.cells? 0 (a.add (i * P.cellsOf e)) (P.cellsOf e) = some cs' ∧ Rd P W e cs' := by
  obtain ⟨_, _, _, _, _, _, hf⟩ := h
  rcases DataW.trod_slice ht hf with ⟨h0, _⟩ | ⟨a, len, cap, elems, rest, n, _, rfl, rfl, _, hl, hm, hlen, hel, _⟩
  · exact .inl h0
  · refine .inr ⟨a, len, cap, rfl, hl, hm, fun i hi => ?_⟩
    have h2 := hel i hi
    rw [List.getElem?_eq_getElem (by omega)] at h2
    obtain ⟨cs', h3, h4⟩ := Option.bind_eq_some_iff.1 h2
    exact ⟨cs', h3, _, _, _, _, _, _, h4⟩
end
theorem arr_of {cs : Array Value} {l : List Value} (h : cs.toList = l) : cs = l.toArray := by cases cs; simp_all
theorem len3 {l : List Value} (h : l.length = 3) : ∃ a b c, l = [a, b, c] := by
  match l, h with
  | [a, b, c], _ => exact ⟨a, b, c, rfl⟩
theorem len2 {l : List Value} (h : l.length = 2) : ∃ a b, l = [a, b] := by
  match l, h with
  | [a, b], _ => exact ⟨a, b, rfl⟩
theorem len4 {l : List Value} (h : l.length = 4) : ∃ a b c d, l = [a, b, c, d] := by
  match l, h with
  | [a, b, c, d], _ => exact ⟨a, b, c, d, rfl⟩
theorem len5 {l : List Value} (h : l.length = 5) : ∃ a b c d e, l = [a, b, c, d, e] := by
  match l, h with
  | [a, b, c, d, e], _ => exact ⟨a, b, c, d, e, rfl⟩
theorem len6 {l : List Value} (h : l.length = 6) : ∃ a b c d e f, l = [a, b, c, d, e, f] := by
  match l, h with
  | [a, b, c, d, e, f], _ => exact ⟨a, b, c, d, e, f, rfl⟩
theorem len7 {l : List Value} (h : l.length = 7) : ∃ a b c d e f g, l = [a, b, c, d, e, f, g] := by
  match l, h with
  | [a, b, c, d, e, f, g], _ => exact ⟨a, b, c, d, e, f, g, rfl⟩
theorem len8 {l : List Value} (h : l.length = 8) : ∃ a b c d e f g i, l = [a, b, c, d, e, f, g, i] := by
  match l, h with
  | [a, b, c, d, e, f, g, i], _ => exact ⟨a, b, c, d, e, f, g, i, rfl⟩
theorem wf_i64 {n : Int} (h : (Lit.int .i64 n).wf = true) : -9223372036854775808 ≤ n ∧ n ≤ 9223372036854775807 := by
  simp [Lit.wf, IntKind.min, IntKind.max, IntKind.signed, IntKind.bits] at h; omega
theorem wf_u32 {n : Int} (h : (Lit.int .u32 n).wf = true) : 0 ≤ n ∧ n ≤ 4294967295 := by
  simp [Lit.wf, IntKind.min, IntKind.max, IntKind.signed, IntKind.bits] at h; omega
theorem wf_u8 {n : Int} (h : (Lit.int .u8 n).wf = true) : 0 ≤ n ∧ n ≤ 255 := by
  simp [Lit.wf, IntKind.min, IntKind.max, IntKind.signed, IntKind.bits] at h; omega
theorem wf_u16 {n : Int} (h : (Lit.int .u16 n).wf = true) : 0 ≤ n ∧ n ≤ 65535 := by
  simp [Lit.wf, IntKind.min, IntKind.max, IntKind.signed, IntKind.bits] at h; omega
theorem wf_u64 {n : Int} (h : (Lit.int .u64 n).wf = true) : 0 ≤ n ∧ n ≤ 18446744073709551615 := by
  simp [Lit.wf, IntKind.min, IntKind.max, IntKind.signed, IntKind.bits] at h; omega
theorem Try.own : ownKnob Try.prog.godebug = none := by kernel_rfl
theorem Try.laidOut : laidOutB Try.prog = true := by kernel_rfl
end Go.Proofs.Ytajplaebcbojgaa
