/-
  No cell of these rows narrows 'for every input' (looked for: loops, veiled, ifaces, maps, wideKeys, modest, calm, conditions, laid).
  DERIVED. THE GIVEN ROWS OF THIS SEAT. 6 by the template 'for every input the law returns true; each argument reads behind the call as it read before'; 0 by the template 'total and deterministic' (their statements: YtfbegeikpjdpiaaTotals.lean).
  GIVEN WITH THE SEED: the statements are not yours to turn. If you find one false, say at which input.
  Laid BY PROGRAM, IN A SANDBOX (cutbox-rows.mjs): the forced cells as the released guide's own fill.sh prints them over the translation dba8792057b95883… (all of the seat's roots in one cut). By AI agents, Wed Nov 11 2026. No macro, syntax, notation, axiom, sorry.
-/
import Derived.Test.YtfbegeikpjdpiaaChecked
import GoSem.Claim
import GoSem.ClaimJoined
import GoSem.ClaimMapViews
import Derived.JoinedTies
import Derived.KernelRfl
namespace Go.Proofs.Ytfbegeikpjdpiaa
/- THE CELL 'sum', in the pinned program and in every row, IS THE sha256 OF THE DUMP (.gsa) THAT YtfbegeikpjdpiaaProg.lean LOADS. Nothing in Lean hashes anything: it is a label: what it is worth is what the hold of that sum in a sandbox is worth. -/
noncomputable def Try.pinned : Pinned := { name := "ytfbegeikpjdpiaa", sum := "dba8792057b9588385f820cf633512a0fd9182316a6c0367c9d1fab53eb17da0", checked := Try.checked }
namespace Rows
def none {H : Type} : Left H := { results := [], args := [] }

/-- 'magnetolaw51.NvmFormats': WHATEVER THE INPUT: true; the input reads as it did. -/
def nvmFormatsSpec : ChangeSpec := { name := "nvmFormats", fn := fun _ => fun
  | [d1, d2, d3, d4] => { results := [.lit (.bool true)], args := [d1, d2, d3, d4] }
  | _ => none }
def nvmFormatsRow : OpenClaim := { program := "ytfbegeikpjdpiaa", sum := "dba8792057b9588385f820cf633512a0fd9182316a6c0367c9d1fab53eb17da0", func := "magneto/magnetolaw51.NvmFormats", spec := "nvmFormats", inPlace := ["slices.overlaps[magneto/api.Entry]"], unfollowed := true, recurses := true, apart := false }
def NvmFormatsSaid : Prop := nvmFormatsRow.holds Try.pinned (OpenSpec.ofChange nvmFormatsSpec)

/-- ITS FALSE NEIGHBOUR: 'it returns false'. Refute it at one input. -/
def nvmFormatsWrong : ChangeSpec := { name := "nvmFormats", fn := fun _ => fun
  | [d1, d2, d3, d4] => { results := [.lit (.bool false)], args := [d1, d2, d3, d4] }
  | _ => none }
def NvmFormatsWrongFalsely : Prop := nvmFormatsRow.holds Try.pinned (OpenSpec.ofChange nvmFormatsWrong)

/-- 'magnetolaw51.NvmWrites': WHATEVER THE INPUT: true; the input reads as it did. -/
def nvmWritesSpec : ChangeSpec := { name := "nvmWrites", fn := fun _ => fun
  | [d1, d2, d3, d4] => { results := [.lit (.bool true)], args := [d1, d2, d3, d4] }
  | _ => none }
def nvmWritesRow : OpenClaim := { program := "ytfbegeikpjdpiaa", sum := "dba8792057b9588385f820cf633512a0fd9182316a6c0367c9d1fab53eb17da0", func := "magneto/magnetolaw51.NvmWrites", spec := "nvmWrites", inPlace := ["slices.overlaps[magneto/api.Entry]"], unfollowed := true, recurses := true, apart := false }
def NvmWritesSaid : Prop := nvmWritesRow.holds Try.pinned (OpenSpec.ofChange nvmWritesSpec)

/-- ITS FALSE NEIGHBOUR: 'it returns false'. Refute it at one input. -/
def nvmWritesWrong : ChangeSpec := { name := "nvmWrites", fn := fun _ => fun
  | [d1, d2, d3, d4] => { results := [.lit (.bool false)], args := [d1, d2, d3, d4] }
  | _ => none }
def NvmWritesWrongFalsely : Prop := nvmWritesRow.holds Try.pinned (OpenSpec.ofChange nvmWritesWrong)

/-- 'magnetolaw51.NvmCollects': WHATEVER THE INPUT: true; the input reads as it did. -/
def nvmCollectsSpec : ChangeSpec := { name := "nvmCollects", fn := fun _ => fun
  | [d1, d2] => { results := [.lit (.bool true)], args := [d1, d2] }
  | _ => none }
def nvmCollectsRow : OpenClaim := { program := "ytfbegeikpjdpiaa", sum := "dba8792057b9588385f820cf633512a0fd9182316a6c0367c9d1fab53eb17da0", func := "magneto/magnetolaw51.NvmCollects", spec := "nvmCollects", inPlace := ["slices.overlaps[magneto/api.Entry]"], unfollowed := true, recurses := true, apart := false }
def NvmCollectsSaid : Prop := nvmCollectsRow.holds Try.pinned (OpenSpec.ofChange nvmCollectsSpec)

/-- ITS FALSE NEIGHBOUR: 'it returns false'. Refute it at one input. -/
def nvmCollectsWrong : ChangeSpec := { name := "nvmCollects", fn := fun _ => fun
  | [d1, d2] => { results := [.lit (.bool false)], args := [d1, d2] }
  | _ => none }
def NvmCollectsWrongFalsely : Prop := nvmCollectsRow.holds Try.pinned (OpenSpec.ofChange nvmCollectsWrong)

/-- 'magnetolaw51.NvmCollected': WHATEVER THE INPUT: true; the input reads as it did. -/
def nvmCollectedSpec : ChangeSpec := { name := "nvmCollected", fn := fun _ => fun
  | [d] => { results := [.lit (.bool true)], args := [d] }
  | _ => none }
def nvmCollectedRow : OpenClaim := { program := "ytfbegeikpjdpiaa", sum := "dba8792057b9588385f820cf633512a0fd9182316a6c0367c9d1fab53eb17da0", func := "magneto/magnetolaw51.NvmCollected", spec := "nvmCollected", inPlace := ["slices.overlaps[magneto/api.Entry]"], unfollowed := true, recurses := true, apart := false }
def NvmCollectedSaid : Prop := nvmCollectedRow.holds Try.pinned (OpenSpec.ofChange nvmCollectedSpec)

/-- ITS FALSE NEIGHBOUR: 'it returns false'. Refute it at one input. -/
def nvmCollectedWrong : ChangeSpec := { name := "nvmCollected", fn := fun _ => fun
  | [d] => { results := [.lit (.bool false)], args := [d] }
  | _ => none }
def NvmCollectedWrongFalsely : Prop := nvmCollectedRow.holds Try.pinned (OpenSpec.ofChange nvmCollectedWrong)

/-- 'magnetolaw51.NvmOwn': WHATEVER THE INPUT: true; the input reads as it did. -/
def nvmOwnSpec : ChangeSpec := { name := "nvmOwn", fn := fun _ => fun
  | [d1, d2, d3, d4] => { results := [.lit (.bool true)], args := [d1, d2, d3, d4] }
  | _ => none }
def nvmOwnRow : OpenClaim := { program := "ytfbegeikpjdpiaa", sum := "dba8792057b9588385f820cf633512a0fd9182316a6c0367c9d1fab53eb17da0", func := "magneto/magnetolaw51.NvmOwn", spec := "nvmOwn", inPlace := ["slices.overlaps[magneto/api.Entry]"], unfollowed := true, recurses := true, apart := false }
def NvmOwnSaid : Prop := nvmOwnRow.holds Try.pinned (OpenSpec.ofChange nvmOwnSpec)

/-- ITS FALSE NEIGHBOUR: 'it returns false'. Refute it at one input. -/
def nvmOwnWrong : ChangeSpec := { name := "nvmOwn", fn := fun _ => fun
  | [d1, d2, d3, d4] => { results := [.lit (.bool false)], args := [d1, d2, d3, d4] }
  | _ => none }
def NvmOwnWrongFalsely : Prop := nvmOwnRow.holds Try.pinned (OpenSpec.ofChange nvmOwnWrong)

/-- 'magnetolaw51.NvmOpens': WHATEVER THE INPUT: true; the input reads as it did. -/
def nvmOpensSpec : ChangeSpec := { name := "nvmOpens", fn := fun _ => fun
  | [d1, d2, d3, d4] => { results := [.lit (.bool true)], args := [d1, d2, d3, d4] }
  | _ => none }
def nvmOpensRow : OpenClaim := { program := "ytfbegeikpjdpiaa", sum := "dba8792057b9588385f820cf633512a0fd9182316a6c0367c9d1fab53eb17da0", func := "magneto/magnetolaw51.NvmOpens", spec := "nvmOpens", inPlace := ["slices.overlaps[magneto/api.Entry]"], unfollowed := true, recurses := true, apart := false }
def NvmOpensSaid : Prop := nvmOpensRow.holds Try.pinned (OpenSpec.ofChange nvmOpensSpec)

/-- ITS FALSE NEIGHBOUR: 'it returns false'. Refute it at one input. -/
def nvmOpensWrong : ChangeSpec := { name := "nvmOpens", fn := fun _ => fun
  | [d1, d2, d3, d4] => { results := [.lit (.bool false)], args := [d1, d2, d3, d4] }
  | _ => none }
def NvmOpensWrongFalsely : Prop := nvmOpensRow.holds Try.pinned (OpenSpec.ofChange nvmOpensWrong)

/- THE SECOND FORM. 'bulk': how many values and letters a reading holds, each counted each time it is reached (what is shared counts as often as it is met; a slice's spare places count too). A statement '..UptoSaid' is the law's where the arguments, and the package variables that the reading takes, are together of bulk at most 1048576: NARROWER than '..Said'. Prove '..Said' where nothing that the law and all that it calls make is longer than what came in: it says more and counts as full. Else prove '..UptoSaid'. A law counts once. -/
mutual
def uptoBulk {H : Type} : DataW H → Nat
  | .lit (.string bytes) => bytes.length + 1
  | .lit _ => 1
  | .nil => 1
  | .ptr d => uptoBulk d + 1
  | .slice elems spare => uptoBulkAll elems + uptoBulkAll spare + 1
  | .agg parts => uptoBulkAll parts + 1
  | .iface _ d => uptoBulk d + 1
  | .map entries => uptoBulkEntries entries + 1
  | .held _ => 1
def uptoBulkAll {H : Type} : List (DataW H) → Nat
  | [] => 0
  | d :: r => uptoBulk d + uptoBulkAll r
def uptoBulkEntries {H : Type} : List (Lit × DataW H) → Nat
  | [] => 0
  | x :: r => uptoBulkEntry x + uptoBulkEntries r
def uptoBulkEntry {H : Type} : Lit × DataW H → Nat
  | (.string bytes, d) => bytes.length + uptoBulk d + 1
  | (_, d) => uptoBulk d + 1
 end
def uptoSmall : (H : Type) → List (DataW H) → Bool := fun _ ds => decide (uptoBulkAll ds ≤ 1048576)
def OpenSpec.upto (s : _root_.Go.ChangeSpec) : _root_.Go.OpenSpec := { _root_.Go.OpenSpec.ofChange s with cond := some uptoSmall }

/-- 'magnetolaw51.NvmFormats', WHERE WHAT IT READS IS OF BULK AT MOST 1048576: true; the input reads as it did. -/
def nvmFormatsUptoRow : OpenClaim := { program := "ytfbegeikpjdpiaa", sum := "dba8792057b9588385f820cf633512a0fd9182316a6c0367c9d1fab53eb17da0", func := "magneto/magnetolaw51.NvmFormats", spec := "nvmFormats", inPlace := ["slices.overlaps[magneto/api.Entry]"], unfollowed := true, recurses := true, apart := false, narrowed := true }
def NvmFormatsUptoSaid : Prop := nvmFormatsUptoRow.holds Try.pinned (OpenSpec.upto nvmFormatsSpec)

/-- 'magnetolaw51.NvmWrites', WHERE WHAT IT READS IS OF BULK AT MOST 1048576: true; the input reads as it did. -/
def nvmWritesUptoRow : OpenClaim := { program := "ytfbegeikpjdpiaa", sum := "dba8792057b9588385f820cf633512a0fd9182316a6c0367c9d1fab53eb17da0", func := "magneto/magnetolaw51.NvmWrites", spec := "nvmWrites", inPlace := ["slices.overlaps[magneto/api.Entry]"], unfollowed := true, recurses := true, apart := false, narrowed := true }
def NvmWritesUptoSaid : Prop := nvmWritesUptoRow.holds Try.pinned (OpenSpec.upto nvmWritesSpec)

/-- 'magnetolaw51.NvmCollects', WHERE WHAT IT READS IS OF BULK AT MOST 1048576: true; the input reads as it did. -/
def nvmCollectsUptoRow : OpenClaim := { program := "ytfbegeikpjdpiaa", sum := "dba8792057b9588385f820cf633512a0fd9182316a6c0367c9d1fab53eb17da0", func := "magneto/magnetolaw51.NvmCollects", spec := "nvmCollects", inPlace := ["slices.overlaps[magneto/api.Entry]"], unfollowed := true, recurses := true, apart := false, narrowed := true }
def NvmCollectsUptoSaid : Prop := nvmCollectsUptoRow.holds Try.pinned (OpenSpec.upto nvmCollectsSpec)

/-- 'magnetolaw51.NvmCollected', WHERE WHAT IT READS IS OF BULK AT MOST 1048576: true; the input reads as it did. -/
def nvmCollectedUptoRow : OpenClaim := { program := "ytfbegeikpjdpiaa", sum := "dba8792057b9588385f820cf633512a0fd9182316a6c0367c9d1fab53eb17da0", func := "magneto/magnetolaw51.NvmCollected", spec := "nvmCollected", inPlace := ["slices.overlaps[magneto/api.Entry]"], unfollowed := true, recurses := true, apart := false, narrowed := true }
def NvmCollectedUptoSaid : Prop := nvmCollectedUptoRow.holds Try.pinned (OpenSpec.upto nvmCollectedSpec)

/-- 'magnetolaw51.NvmOwn', WHERE WHAT IT READS IS OF BULK AT MOST 1048576: true; the input reads as it did. -/
def nvmOwnUptoRow : OpenClaim := { program := "ytfbegeikpjdpiaa", sum := "dba8792057b9588385f820cf633512a0fd9182316a6c0367c9d1fab53eb17da0", func := "magneto/magnetolaw51.NvmOwn", spec := "nvmOwn", inPlace := ["slices.overlaps[magneto/api.Entry]"], unfollowed := true, recurses := true, apart := false, narrowed := true }
def NvmOwnUptoSaid : Prop := nvmOwnUptoRow.holds Try.pinned (OpenSpec.upto nvmOwnSpec)

/-- 'magnetolaw51.NvmOpens', WHERE WHAT IT READS IS OF BULK AT MOST 1048576: true; the input reads as it did. -/
def nvmOpensUptoRow : OpenClaim := { program := "ytfbegeikpjdpiaa", sum := "dba8792057b9588385f820cf633512a0fd9182316a6c0367c9d1fab53eb17da0", func := "magneto/magnetolaw51.NvmOpens", spec := "nvmOpens", inPlace := ["slices.overlaps[magneto/api.Entry]"], unfollowed := true, recurses := true, apart := false, narrowed := true }
def NvmOpensUptoSaid : Prop := nvmOpensUptoRow.holds Try.pinned (OpenSpec.upto nvmOpensSpec)

end Rows
end Go.Proofs.Ytfbegeikpjdpiaa
