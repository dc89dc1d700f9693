/-
  No cell of these rows narrows 'for every input' (looked for: loops, veiled, ifaces, maps, wideKeys, modest, calm, conditions, laid).
  DERIVED. THE GIVEN ROWS OF THIS SEAT. 5 by the template 'for every input the law returns true; each argument reads behind the call as it read before'; 0 by the template 'total and deterministic' (their statements: YtaaagikcbnbncaaTotals.lean).
  GIVEN WITH THE SEED: the statements are not yours to turn. If you find one false, say at which input.
  Laid BY PROGRAM, IN A SANDBOX (cutbox-rows.mjs): the forced cells as the released guide's own fill.sh prints them over the translation a2b0577914454939… (all of the seat's roots in one cut). By AI agents, Wed Nov 11 2026. No macro, syntax, notation, axiom, sorry.
-/
import Derived.Test.YtaaagikcbnbncaaChecked
import GoSem.Claim
import GoSem.ClaimJoined
import GoSem.ClaimMapViews
import Derived.JoinedTies
import Derived.KernelRfl
namespace Go.Proofs.Ytaaagikcbnbncaa
/- THE CELL 'sum', in the pinned program and in every row, IS THE sha256 OF THE DUMP (.gsa) THAT YtaaagikcbnbncaaProg.lean LOADS. Nothing in Lean hashes anything: it is a label: what it is worth is what the hold of that sum in a sandbox is worth. -/
noncomputable def Try.pinned : Pinned := { name := "ytaaagikcbnbncaa", sum := "a2b0577914454939244e834e01ca94e667a99bd3ac86935b3194c6719ce1cf81", checked := Try.checked }
namespace Rows
def none {H : Type} : Left H := { results := [], args := [] }

/-- 'magnetolaw55.UpdateStates': WHATEVER THE INPUT: true; the input reads as it did. -/
def updateStatesSpec : ChangeSpec := { name := "updateStates", fn := fun _ => fun
  | [d] => { results := [.lit (.bool true)], args := [d] }
  | _ => none }
def updateStatesRow : OpenClaim := { program := "ytaaagikcbnbncaa", sum := "a2b0577914454939244e834e01ca94e667a99bd3ac86935b3194c6719ce1cf81", func := "magneto/magnetolaw55.UpdateStates", spec := "updateStates", unfollowed := true, recurses := true, apart := false }
def UpdateStatesSaid : Prop := updateStatesRow.holds Try.pinned (OpenSpec.ofChange updateStatesSpec)

/-- ITS FALSE NEIGHBOUR: 'it returns false'. Refute it at one input. -/
def updateStatesWrong : ChangeSpec := { name := "updateStates", fn := fun _ => fun
  | [d] => { results := [.lit (.bool false)], args := [d] }
  | _ => none }
def UpdateStatesWrongFalsely : Prop := updateStatesRow.holds Try.pinned (OpenSpec.ofChange updateStatesWrong)

/-- 'magnetolaw55.UpdateBlocks': WHATEVER THE INPUT: true; the input reads as it did. -/
def updateBlocksSpec : ChangeSpec := { name := "updateBlocks", fn := fun _ => fun
  | [d1, d2, d3, d4, d5] => { results := [.lit (.bool true)], args := [d1, d2, d3, d4, d5] }
  | _ => none }
def updateBlocksRow : OpenClaim := { program := "ytaaagikcbnbncaa", sum := "a2b0577914454939244e834e01ca94e667a99bd3ac86935b3194c6719ce1cf81", func := "magneto/magnetolaw55.UpdateBlocks", spec := "updateBlocks", unfollowed := true, recurses := true, apart := false }
def UpdateBlocksSaid : Prop := updateBlocksRow.holds Try.pinned (OpenSpec.ofChange updateBlocksSpec)

/-- ITS FALSE NEIGHBOUR: 'it returns false'. Refute it at one input. -/
def updateBlocksWrong : ChangeSpec := { name := "updateBlocks", fn := fun _ => fun
  | [d1, d2, d3, d4, d5] => { results := [.lit (.bool false)], args := [d1, d2, d3, d4, d5] }
  | _ => none }
def UpdateBlocksWrongFalsely : Prop := updateBlocksRow.holds Try.pinned (OpenSpec.ofChange updateBlocksWrong)

/-- 'magnetolaw55.UpdateWrong': WHATEVER THE INPUT: true; the input reads as it did. -/
def updateWrongSpec : ChangeSpec := { name := "updateWrong", fn := fun _ => fun
  | [d1, d2, d3, d4, d5] => { results := [.lit (.bool true)], args := [d1, d2, d3, d4, d5] }
  | _ => none }
def updateWrongRow : OpenClaim := { program := "ytaaagikcbnbncaa", sum := "a2b0577914454939244e834e01ca94e667a99bd3ac86935b3194c6719ce1cf81", func := "magneto/magnetolaw55.UpdateWrong", spec := "updateWrong", unfollowed := true, recurses := true, apart := false }
def UpdateWrongSaid : Prop := updateWrongRow.holds Try.pinned (OpenSpec.ofChange updateWrongSpec)

/-- ITS FALSE NEIGHBOUR: 'it returns false'. Refute it at one input. -/
def updateWrongWrong : ChangeSpec := { name := "updateWrong", fn := fun _ => fun
  | [d1, d2, d3, d4, d5] => { results := [.lit (.bool false)], args := [d1, d2, d3, d4, d5] }
  | _ => none }
def UpdateWrongWrongFalsely : Prop := updateWrongRow.holds Try.pinned (OpenSpec.ofChange updateWrongWrong)

/-- 'magnetolaw55.UpdateSame': WHATEVER THE INPUT: true; the input reads as it did. -/
def updateSameSpec : ChangeSpec := { name := "updateSame", fn := fun _ => fun
  | [d1, d2, d3, d4] => { results := [.lit (.bool true)], args := [d1, d2, d3, d4] }
  | _ => none }
def updateSameRow : OpenClaim := { program := "ytaaagikcbnbncaa", sum := "a2b0577914454939244e834e01ca94e667a99bd3ac86935b3194c6719ce1cf81", func := "magneto/magnetolaw55.UpdateSame", spec := "updateSame", unfollowed := true, recurses := true, apart := false }
def UpdateSameSaid : Prop := updateSameRow.holds Try.pinned (OpenSpec.ofChange updateSameSpec)

/-- ITS FALSE NEIGHBOUR: 'it returns false'. Refute it at one input. -/
def updateSameWrong : ChangeSpec := { name := "updateSame", fn := fun _ => fun
  | [d1, d2, d3, d4] => { results := [.lit (.bool false)], args := [d1, d2, d3, d4] }
  | _ => none }
def UpdateSameWrongFalsely : Prop := updateSameRow.holds Try.pinned (OpenSpec.ofChange updateSameWrong)

/-- 'magnetolaw55.UpdateForward': WHATEVER THE INPUT: true; the input reads as it did. -/
def updateForwardSpec : ChangeSpec := { name := "updateForward", fn := fun _ => fun
  | [d1, d2, d3, d4, d5] => { results := [.lit (.bool true)], args := [d1, d2, d3, d4, d5] }
  | _ => none }
def updateForwardRow : OpenClaim := { program := "ytaaagikcbnbncaa", sum := "a2b0577914454939244e834e01ca94e667a99bd3ac86935b3194c6719ce1cf81", func := "magneto/magnetolaw55.UpdateForward", spec := "updateForward", unfollowed := true, recurses := true, apart := false }
def UpdateForwardSaid : Prop := updateForwardRow.holds Try.pinned (OpenSpec.ofChange updateForwardSpec)

/-- ITS FALSE NEIGHBOUR: 'it returns false'. Refute it at one input. -/
def updateForwardWrong : ChangeSpec := { name := "updateForward", fn := fun _ => fun
  | [d1, d2, d3, d4, d5] => { results := [.lit (.bool false)], args := [d1, d2, d3, d4, d5] }
  | _ => none }
def UpdateForwardWrongFalsely : Prop := updateForwardRow.holds Try.pinned (OpenSpec.ofChange updateForwardWrong)

/- THE SECOND FORM. 'bulk': how many values and letters a reading holds, each counted each time it is reached (what is shared counts as often as it is met; a slice's spare places count too). A statement '..UptoSaid' is the law's where the arguments, and the package variables that the reading takes, are together of bulk at most 1048576: NARROWER than '..Said'. Prove '..Said' where nothing that the law and all that it calls make is longer than what came in: it says more and counts as full. Else prove '..UptoSaid'. A law counts once. -/
mutual
def uptoBulk {H : Type} : DataW H → Nat
  | .lit (.string bytes) => bytes.length + 1
  | .lit _ => 1
  | .nil => 1
  | .ptr d => uptoBulk d + 1
  | .slice elems spare => uptoBulkAll elems + uptoBulkAll spare + 1
  | .agg parts => uptoBulkAll parts + 1
  | .iface _ d => uptoBulk d + 1
  | .map entries => uptoBulkEntries entries + 1
  | .held _ => 1
def uptoBulkAll {H : Type} : List (DataW H) → Nat
  | [] => 0
  | d :: r => uptoBulk d + uptoBulkAll r
def uptoBulkEntries {H : Type} : List (Lit × DataW H) → Nat
  | [] => 0
  | x :: r => uptoBulkEntry x + uptoBulkEntries r
def uptoBulkEntry {H : Type} : Lit × DataW H → Nat
  | (.string bytes, d) => bytes.length + uptoBulk d + 1
  | (_, d) => uptoBulk d + 1
 end
def uptoSmall : (H : Type) → List (DataW H) → Bool := fun _ ds => decide (uptoBulkAll ds ≤ 1048576)
def OpenSpec.upto (s : _root_.Go.ChangeSpec) : _root_.Go.OpenSpec := { _root_.Go.OpenSpec.ofChange s with cond := some uptoSmall }

/-- 'magnetolaw55.UpdateStates', WHERE WHAT IT READS IS OF BULK AT MOST 1048576: true; the input reads as it did. -/
def updateStatesUptoRow : OpenClaim := { program := "ytaaagikcbnbncaa", sum := "a2b0577914454939244e834e01ca94e667a99bd3ac86935b3194c6719ce1cf81", func := "magneto/magnetolaw55.UpdateStates", spec := "updateStates", unfollowed := true, recurses := true, apart := false, narrowed := true }
def UpdateStatesUptoSaid : Prop := updateStatesUptoRow.holds Try.pinned (OpenSpec.upto updateStatesSpec)

/-- 'magnetolaw55.UpdateBlocks', WHERE WHAT IT READS IS OF BULK AT MOST 1048576: true; the input reads as it did. -/
def updateBlocksUptoRow : OpenClaim := { program := "ytaaagikcbnbncaa", sum := "a2b0577914454939244e834e01ca94e667a99bd3ac86935b3194c6719ce1cf81", func := "magneto/magnetolaw55.UpdateBlocks", spec := "updateBlocks", unfollowed := true, recurses := true, apart := false, narrowed := true }
def UpdateBlocksUptoSaid : Prop := updateBlocksUptoRow.holds Try.pinned (OpenSpec.upto updateBlocksSpec)

/-- 'magnetolaw55.UpdateWrong', WHERE WHAT IT READS IS OF BULK AT MOST 1048576: true; the input reads as it did. -/
def updateWrongUptoRow : OpenClaim := { program := "ytaaagikcbnbncaa", sum := "a2b0577914454939244e834e01ca94e667a99bd3ac86935b3194c6719ce1cf81", func := "magneto/magnetolaw55.UpdateWrong", spec := "updateWrong", unfollowed := true, recurses := true, apart := false, narrowed := true }
def UpdateWrongUptoSaid : Prop := updateWrongUptoRow.holds Try.pinned (OpenSpec.upto updateWrongSpec)

/-- 'magnetolaw55.UpdateSame', WHERE WHAT IT READS IS OF BULK AT MOST 1048576: true; the input reads as it did. -/
def updateSameUptoRow : OpenClaim := { program := "ytaaagikcbnbncaa", sum := "a2b0577914454939244e834e01ca94e667a99bd3ac86935b3194c6719ce1cf81", func := "magneto/magnetolaw55.UpdateSame", spec := "updateSame", unfollowed := true, recurses := true, apart := false, narrowed := true }
def UpdateSameUptoSaid : Prop := updateSameUptoRow.holds Try.pinned (OpenSpec.upto updateSameSpec)

/-- 'magnetolaw55.UpdateForward', WHERE WHAT IT READS IS OF BULK AT MOST 1048576: true; the input reads as it did. -/
def updateForwardUptoRow : OpenClaim := { program := "ytaaagikcbnbncaa", sum := "a2b0577914454939244e834e01ca94e667a99bd3ac86935b3194c6719ce1cf81", func := "magneto/magnetolaw55.UpdateForward", spec := "updateForward", unfollowed := true, recurses := true, apart := false, narrowed := true }
def UpdateForwardUptoSaid : Prop := updateForwardUptoRow.holds Try.pinned (OpenSpec.upto updateForwardSpec)

end Rows
end Go.Proofs.Ytaaagikcbnbncaa
