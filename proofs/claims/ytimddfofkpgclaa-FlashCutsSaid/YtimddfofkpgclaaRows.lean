/-
  No cell of these rows narrows 'for every input' (looked for: loops, veiled, ifaces, maps, wideKeys, modest, calm, conditions, laid).
  DERIVED. THE GIVEN ROWS OF THIS SEAT. 8 by the template 'for every input the law returns true; each argument reads behind the call as it read before'; 0 by the template 'total and deterministic' (their statements: YtimddfofkpgclaaTotals.lean).
  GIVEN WITH THE SEED: the statements are not yours to turn. If you find one false, say at which input.
  Laid BY PROGRAM, IN A SANDBOX (cutbox-rows.mjs): the forced cells as the released guide's own fill.sh prints them over the translation 5b3a86265c7354c0… (all of the seat's roots in one cut). By AI agents, Wed Nov 11 2026. No macro, syntax, notation, axiom, sorry.
-/
import Derived.Test.YtimddfofkpgclaaChecked
import GoSem.Claim
import GoSem.ClaimJoined
import GoSem.ClaimMapViews
import Derived.JoinedTies
import Derived.KernelRfl
namespace Go.Proofs.Ytimddfofkpgclaa
/- THE CELL 'sum', in the pinned program and in every row, IS THE sha256 OF THE DUMP (.gsa) THAT YtimddfofkpgclaaProg.lean LOADS. Nothing in Lean hashes anything: it is a label: what it is worth is what the hold of that sum in a sandbox is worth. -/
noncomputable def Try.pinned : Pinned := { name := "ytimddfofkpgclaa", sum := "5b3a86265c7354c05358e78209c7f3a94fd4991681a80df270652560b94a8d0a", checked := Try.checked }
namespace Rows
def none {H : Type} : Left H := { results := [], args := [] }

/-- 'magnetolaw50.FlashNew': WHATEVER THE INPUT: true; the input reads as it did. -/
def flashNewSpec : ChangeSpec := { name := "flashNew", fn := fun _ => fun
  | [d1, d2, d3] => { results := [.lit (.bool true)], args := [d1, d2, d3] }
  | _ => none }
def flashNewRow : OpenClaim := { program := "ytimddfofkpgclaa", sum := "5b3a86265c7354c05358e78209c7f3a94fd4991681a80df270652560b94a8d0a", func := "magneto/magnetolaw50.FlashNew", spec := "flashNew", unfollowed := true, recurses := true, apart := false }
def FlashNewSaid : Prop := flashNewRow.holds Try.pinned (OpenSpec.ofChange flashNewSpec)

/-- ITS FALSE NEIGHBOUR: 'it returns false'. Refute it at one input. -/
def flashNewWrong : ChangeSpec := { name := "flashNew", fn := fun _ => fun
  | [d1, d2, d3] => { results := [.lit (.bool false)], args := [d1, d2, d3] }
  | _ => none }
def FlashNewWrongFalsely : Prop := flashNewRow.holds Try.pinned (OpenSpec.ofChange flashNewWrong)

/-- 'magnetolaw50.FlashPrograms': WHATEVER THE INPUT: true; the input reads as it did. -/
def flashProgramsSpec : ChangeSpec := { name := "flashPrograms", fn := fun _ => fun
  | [d1, d2, d3, d4] => { results := [.lit (.bool true)], args := [d1, d2, d3, d4] }
  | _ => none }
def flashProgramsRow : OpenClaim := { program := "ytimddfofkpgclaa", sum := "5b3a86265c7354c05358e78209c7f3a94fd4991681a80df270652560b94a8d0a", func := "magneto/magnetolaw50.FlashPrograms", spec := "flashPrograms", unfollowed := true, recurses := true, apart := false }
def FlashProgramsSaid : Prop := flashProgramsRow.holds Try.pinned (OpenSpec.ofChange flashProgramsSpec)

/-- ITS FALSE NEIGHBOUR: 'it returns false'. Refute it at one input. -/
def flashProgramsWrong : ChangeSpec := { name := "flashPrograms", fn := fun _ => fun
  | [d1, d2, d3, d4] => { results := [.lit (.bool false)], args := [d1, d2, d3, d4] }
  | _ => none }
def FlashProgramsWrongFalsely : Prop := flashProgramsRow.holds Try.pinned (OpenSpec.ofChange flashProgramsWrong)

/-- 'magnetolaw50.FlashBits': WHATEVER THE INPUT: true; the input reads as it did. -/
def flashBitsSpec : ChangeSpec := { name := "flashBits", fn := fun _ => fun
  | [d1, d2, d3, d4] => { results := [.lit (.bool true)], args := [d1, d2, d3, d4] }
  | _ => none }
def flashBitsRow : OpenClaim := { program := "ytimddfofkpgclaa", sum := "5b3a86265c7354c05358e78209c7f3a94fd4991681a80df270652560b94a8d0a", func := "magneto/magnetolaw50.FlashBits", spec := "flashBits", unfollowed := true, recurses := true, apart := false }
def FlashBitsSaid : Prop := flashBitsRow.holds Try.pinned (OpenSpec.ofChange flashBitsSpec)

/-- ITS FALSE NEIGHBOUR: 'it returns false'. Refute it at one input. -/
def flashBitsWrong : ChangeSpec := { name := "flashBits", fn := fun _ => fun
  | [d1, d2, d3, d4] => { results := [.lit (.bool false)], args := [d1, d2, d3, d4] }
  | _ => none }
def FlashBitsWrongFalsely : Prop := flashBitsRow.holds Try.pinned (OpenSpec.ofChange flashBitsWrong)

/-- 'magnetolaw50.FlashReads': WHATEVER THE INPUT: true; the input reads as it did. -/
def flashReadsSpec : ChangeSpec := { name := "flashReads", fn := fun _ => fun
  | [d1, d2, d3] => { results := [.lit (.bool true)], args := [d1, d2, d3] }
  | _ => none }
def flashReadsRow : OpenClaim := { program := "ytimddfofkpgclaa", sum := "5b3a86265c7354c05358e78209c7f3a94fd4991681a80df270652560b94a8d0a", func := "magneto/magnetolaw50.FlashReads", spec := "flashReads", unfollowed := true, recurses := true, apart := false }
def FlashReadsSaid : Prop := flashReadsRow.holds Try.pinned (OpenSpec.ofChange flashReadsSpec)

/-- ITS FALSE NEIGHBOUR: 'it returns false'. Refute it at one input. -/
def flashReadsWrong : ChangeSpec := { name := "flashReads", fn := fun _ => fun
  | [d1, d2, d3] => { results := [.lit (.bool false)], args := [d1, d2, d3] }
  | _ => none }
def FlashReadsWrongFalsely : Prop := flashReadsRow.holds Try.pinned (OpenSpec.ofChange flashReadsWrong)

/-- 'magnetolaw50.FlashErases': WHATEVER THE INPUT: true; the input reads as it did. -/
def flashErasesSpec : ChangeSpec := { name := "flashErases", fn := fun _ => fun
  | [d1, d2, d3] => { results := [.lit (.bool true)], args := [d1, d2, d3] }
  | _ => none }
def flashErasesRow : OpenClaim := { program := "ytimddfofkpgclaa", sum := "5b3a86265c7354c05358e78209c7f3a94fd4991681a80df270652560b94a8d0a", func := "magneto/magnetolaw50.FlashErases", spec := "flashErases", unfollowed := true, recurses := true, apart := false }
def FlashErasesSaid : Prop := flashErasesRow.holds Try.pinned (OpenSpec.ofChange flashErasesSpec)

/-- ITS FALSE NEIGHBOUR: 'it returns false'. Refute it at one input. -/
def flashErasesWrong : ChangeSpec := { name := "flashErases", fn := fun _ => fun
  | [d1, d2, d3] => { results := [.lit (.bool false)], args := [d1, d2, d3] }
  | _ => none }
def FlashErasesWrongFalsely : Prop := flashErasesRow.holds Try.pinned (OpenSpec.ofChange flashErasesWrong)

/-- 'magnetolaw50.FlashSequences': WHATEVER THE INPUT: true; the input reads as it did. -/
def flashSequencesSpec : ChangeSpec := { name := "flashSequences", fn := fun _ => fun
  | [d1, d2, d3, d4] => { results := [.lit (.bool true)], args := [d1, d2, d3, d4] }
  | _ => none }
def flashSequencesRow : OpenClaim := { program := "ytimddfofkpgclaa", sum := "5b3a86265c7354c05358e78209c7f3a94fd4991681a80df270652560b94a8d0a", func := "magneto/magnetolaw50.FlashSequences", spec := "flashSequences", unfollowed := true, recurses := true, apart := false }
def FlashSequencesSaid : Prop := flashSequencesRow.holds Try.pinned (OpenSpec.ofChange flashSequencesSpec)

/-- ITS FALSE NEIGHBOUR: 'it returns false'. Refute it at one input. -/
def flashSequencesWrong : ChangeSpec := { name := "flashSequences", fn := fun _ => fun
  | [d1, d2, d3, d4] => { results := [.lit (.bool false)], args := [d1, d2, d3, d4] }
  | _ => none }
def FlashSequencesWrongFalsely : Prop := flashSequencesRow.holds Try.pinned (OpenSpec.ofChange flashSequencesWrong)

/-- 'magnetolaw50.FlashWears': WHATEVER THE INPUT: true; the input reads as it did. -/
def flashWearsSpec : ChangeSpec := { name := "flashWears", fn := fun _ => fun
  | [d1, d2] => { results := [.lit (.bool true)], args := [d1, d2] }
  | _ => none }
def flashWearsRow : OpenClaim := { program := "ytimddfofkpgclaa", sum := "5b3a86265c7354c05358e78209c7f3a94fd4991681a80df270652560b94a8d0a", func := "magneto/magnetolaw50.FlashWears", spec := "flashWears", unfollowed := true, recurses := true, apart := false }
def FlashWearsSaid : Prop := flashWearsRow.holds Try.pinned (OpenSpec.ofChange flashWearsSpec)

/-- ITS FALSE NEIGHBOUR: 'it returns false'. Refute it at one input. -/
def flashWearsWrong : ChangeSpec := { name := "flashWears", fn := fun _ => fun
  | [d1, d2] => { results := [.lit (.bool false)], args := [d1, d2] }
  | _ => none }
def FlashWearsWrongFalsely : Prop := flashWearsRow.holds Try.pinned (OpenSpec.ofChange flashWearsWrong)

/-- 'magnetolaw50.FlashCuts': WHATEVER THE INPUT: true; the input reads as it did. -/
def flashCutsSpec : ChangeSpec := { name := "flashCuts", fn := fun _ => fun
  | [d1, d2, d3, d4, d5] => { results := [.lit (.bool true)], args := [d1, d2, d3, d4, d5] }
  | _ => none }
def flashCutsRow : OpenClaim := { program := "ytimddfofkpgclaa", sum := "5b3a86265c7354c05358e78209c7f3a94fd4991681a80df270652560b94a8d0a", func := "magneto/magnetolaw50.FlashCuts", spec := "flashCuts", unfollowed := true, recurses := true, apart := false }
def FlashCutsSaid : Prop := flashCutsRow.holds Try.pinned (OpenSpec.ofChange flashCutsSpec)

/-- ITS FALSE NEIGHBOUR: 'it returns false'. Refute it at one input. -/
def flashCutsWrong : ChangeSpec := { name := "flashCuts", fn := fun _ => fun
  | [d1, d2, d3, d4, d5] => { results := [.lit (.bool false)], args := [d1, d2, d3, d4, d5] }
  | _ => none }
def FlashCutsWrongFalsely : Prop := flashCutsRow.holds Try.pinned (OpenSpec.ofChange flashCutsWrong)

/- THE SECOND FORM. 'bulk': how many values and letters a reading holds, each counted each time it is reached (what is shared counts as often as it is met; a slice's spare places count too). A statement '..UptoSaid' is the law's where the arguments, and the package variables that the reading takes, are together of bulk at most 1048576: NARROWER than '..Said'. Prove '..Said' where nothing that the law and all that it calls make is longer than what came in: it says more and counts as full. Else prove '..UptoSaid'. A law counts once. -/
mutual
def uptoBulk {H : Type} : DataW H → Nat
  | .lit (.string bytes) => bytes.length + 1
  | .lit _ => 1
  | .nil => 1
  | .ptr d => uptoBulk d + 1
  | .slice elems spare => uptoBulkAll elems + uptoBulkAll spare + 1
  | .agg parts => uptoBulkAll parts + 1
  | .iface _ d => uptoBulk d + 1
  | .map entries => uptoBulkEntries entries + 1
  | .held _ => 1
def uptoBulkAll {H : Type} : List (DataW H) → Nat
  | [] => 0
  | d :: r => uptoBulk d + uptoBulkAll r
def uptoBulkEntries {H : Type} : List (Lit × DataW H) → Nat
  | [] => 0
  | x :: r => uptoBulkEntry x + uptoBulkEntries r
def uptoBulkEntry {H : Type} : Lit × DataW H → Nat
  | (.string bytes, d) => bytes.length + uptoBulk d + 1
  | (_, d) => uptoBulk d + 1
 end
def uptoSmall : (H : Type) → List (DataW H) → Bool := fun _ ds => decide (uptoBulkAll ds ≤ 1048576)
def OpenSpec.upto (s : _root_.Go.ChangeSpec) : _root_.Go.OpenSpec := { _root_.Go.OpenSpec.ofChange s with cond := some uptoSmall }

/-- 'magnetolaw50.FlashNew', WHERE WHAT IT READS IS OF BULK AT MOST 1048576: true; the input reads as it did. -/
def flashNewUptoRow : OpenClaim := { program := "ytimddfofkpgclaa", sum := "5b3a86265c7354c05358e78209c7f3a94fd4991681a80df270652560b94a8d0a", func := "magneto/magnetolaw50.FlashNew", spec := "flashNew", unfollowed := true, recurses := true, apart := false, narrowed := true }
def FlashNewUptoSaid : Prop := flashNewUptoRow.holds Try.pinned (OpenSpec.upto flashNewSpec)

/-- 'magnetolaw50.FlashPrograms', WHERE WHAT IT READS IS OF BULK AT MOST 1048576: true; the input reads as it did. -/
def flashProgramsUptoRow : OpenClaim := { program := "ytimddfofkpgclaa", sum := "5b3a86265c7354c05358e78209c7f3a94fd4991681a80df270652560b94a8d0a", func := "magneto/magnetolaw50.FlashPrograms", spec := "flashPrograms", unfollowed := true, recurses := true, apart := false, narrowed := true }
def FlashProgramsUptoSaid : Prop := flashProgramsUptoRow.holds Try.pinned (OpenSpec.upto flashProgramsSpec)

/-- 'magnetolaw50.FlashBits', WHERE WHAT IT READS IS OF BULK AT MOST 1048576: true; the input reads as it did. -/
def flashBitsUptoRow : OpenClaim := { program := "ytimddfofkpgclaa", sum := "5b3a86265c7354c05358e78209c7f3a94fd4991681a80df270652560b94a8d0a", func := "magneto/magnetolaw50.FlashBits", spec := "flashBits", unfollowed := true, recurses := true, apart := false, narrowed := true }
def FlashBitsUptoSaid : Prop := flashBitsUptoRow.holds Try.pinned (OpenSpec.upto flashBitsSpec)

/-- 'magnetolaw50.FlashReads', WHERE WHAT IT READS IS OF BULK AT MOST 1048576: true; the input reads as it did. -/
def flashReadsUptoRow : OpenClaim := { program := "ytimddfofkpgclaa", sum := "5b3a86265c7354c05358e78209c7f3a94fd4991681a80df270652560b94a8d0a", func := "magneto/magnetolaw50.FlashReads", spec := "flashReads", unfollowed := true, recurses := true, apart := false, narrowed := true }
def FlashReadsUptoSaid : Prop := flashReadsUptoRow.holds Try.pinned (OpenSpec.upto flashReadsSpec)

/-- 'magnetolaw50.FlashErases', WHERE WHAT IT READS IS OF BULK AT MOST 1048576: true; the input reads as it did. -/
def flashErasesUptoRow : OpenClaim := { program := "ytimddfofkpgclaa", sum := "5b3a86265c7354c05358e78209c7f3a94fd4991681a80df270652560b94a8d0a", func := "magneto/magnetolaw50.FlashErases", spec := "flashErases", unfollowed := true, recurses := true, apart := false, narrowed := true }
def FlashErasesUptoSaid : Prop := flashErasesUptoRow.holds Try.pinned (OpenSpec.upto flashErasesSpec)

/-- 'magnetolaw50.FlashSequences', WHERE WHAT IT READS IS OF BULK AT MOST 1048576: true; the input reads as it did. -/
def flashSequencesUptoRow : OpenClaim := { program := "ytimddfofkpgclaa", sum := "5b3a86265c7354c05358e78209c7f3a94fd4991681a80df270652560b94a8d0a", func := "magneto/magnetolaw50.FlashSequences", spec := "flashSequences", unfollowed := true, recurses := true, apart := false, narrowed := true }
def FlashSequencesUptoSaid : Prop := flashSequencesUptoRow.holds Try.pinned (OpenSpec.upto flashSequencesSpec)

/-- 'magnetolaw50.FlashWears', WHERE WHAT IT READS IS OF BULK AT MOST 1048576: true; the input reads as it did. -/
def flashWearsUptoRow : OpenClaim := { program := "ytimddfofkpgclaa", sum := "5b3a86265c7354c05358e78209c7f3a94fd4991681a80df270652560b94a8d0a", func := "magneto/magnetolaw50.FlashWears", spec := "flashWears", unfollowed := true, recurses := true, apart := false, narrowed := true }
def FlashWearsUptoSaid : Prop := flashWearsUptoRow.holds Try.pinned (OpenSpec.upto flashWearsSpec)

/-- 'magnetolaw50.FlashCuts', WHERE WHAT IT READS IS OF BULK AT MOST 1048576: true; the input reads as it did. -/
def flashCutsUptoRow : OpenClaim := { program := "ytimddfofkpgclaa", sum := "5b3a86265c7354c05358e78209c7f3a94fd4991681a80df270652560b94a8d0a", func := "magneto/magnetolaw50.FlashCuts", spec := "flashCuts", unfollowed := true, recurses := true, apart := false, narrowed := true }
def FlashCutsUptoSaid : Prop := flashCutsUptoRow.holds Try.pinned (OpenSpec.upto flashCutsSpec)

end Rows
end Go.Proofs.Ytimddfofkpgclaa
