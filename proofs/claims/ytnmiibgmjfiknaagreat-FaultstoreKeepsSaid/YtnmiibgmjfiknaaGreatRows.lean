/-
  No cell of these rows narrows 'for every input' (looked for: loops, veiled, ifaces, maps, wideKeys, modest, calm, conditions, laid).
  DERIVED. THE GIVEN ROWS OF THIS SEAT. 4 by the template 'for every input the law returns true; each argument reads behind the call as it read before'; 0 by the template 'total and deterministic' (their statements: YtnmiibgmjfiknaaGreatTotals.lean).
  GIVEN WITH THE SEED: the statements are not yours to turn. If you find one false, say at which input.
  Laid BY PROGRAM, IN A SANDBOX (cutbox-rows.mjs): the forced cells as the released guide's own fill.sh prints them over the translation 1c39c1c3b63c54de… (all of the seat's roots in one cut). By AI agents, Wed Nov 11 2026. No macro, syntax, notation, axiom, sorry.
-/
import Derived.Test.YtnmiibgmjfiknaaGreatChecked
import GoSem.Claim
import GoSem.ClaimJoined
import GoSem.ClaimMapViews
import Derived.JoinedTies
import Derived.KernelRfl
namespace Go.Proofs.YtnmiibgmjfiknaaGreat
/- THE CELL 'sum', in the pinned program and in every row, IS THE sha256 OF THE DUMP (.gsa) THAT YtnmiibgmjfiknaaGreatProg.lean LOADS. Nothing in Lean hashes anything: it is a label: what it is worth is what the hold of that sum in a sandbox is worth. -/
noncomputable def Tryz.pinned : Pinned := { name := "ytnmiibgmjfiknaagreat", sum := "1c39c1c3b63c54deab74a5776b7ff948b9e6f76a9bd8e864ac4a8ef356288e00", checked := Tryz.checked }
namespace Rows
def none {H : Type} : Left H := { results := [], args := [] }

/-- 'magnetolaw52.FaultstoreLoads': WHATEVER THE INPUT: true; the input reads as it did. -/
def faultstoreLoadsSpec : ChangeSpec := { name := "faultstoreLoads", fn := fun _ => fun
  | [d1, d2, d3] => { results := [.lit (.bool true)], args := [d1, d2, d3] }
  | _ => none }
def faultstoreLoadsRow : OpenClaim := { program := "ytnmiibgmjfiknaagreat", sum := "1c39c1c3b63c54deab74a5776b7ff948b9e6f76a9bd8e864ac4a8ef356288e00", func := "magneto/magnetolaw52.FaultstoreLoads", spec := "faultstoreLoads", inPlace := ["slices.overlaps[magneto/api.Entry]"], unfollowed := true, recurses := true, apart := false }
def FaultstoreLoadsSaid : Prop := faultstoreLoadsRow.holds Tryz.pinned (OpenSpec.ofChange faultstoreLoadsSpec)

/-- ITS FALSE NEIGHBOUR: 'it returns false'. Refute it at one input. -/
def faultstoreLoadsWrong : ChangeSpec := { name := "faultstoreLoads", fn := fun _ => fun
  | [d1, d2, d3] => { results := [.lit (.bool false)], args := [d1, d2, d3] }
  | _ => none }
def FaultstoreLoadsWrongFalsely : Prop := faultstoreLoadsRow.holds Tryz.pinned (OpenSpec.ofChange faultstoreLoadsWrong)

/-- 'magnetolaw52.FaultstoreSaves': WHATEVER THE INPUT: true; the input reads as it did. -/
def faultstoreSavesSpec : ChangeSpec := { name := "faultstoreSaves", fn := fun _ => fun
  | [d1, d2, d3] => { results := [.lit (.bool true)], args := [d1, d2, d3] }
  | _ => none }
def faultstoreSavesRow : OpenClaim := { program := "ytnmiibgmjfiknaagreat", sum := "1c39c1c3b63c54deab74a5776b7ff948b9e6f76a9bd8e864ac4a8ef356288e00", func := "magneto/magnetolaw52.FaultstoreSaves", spec := "faultstoreSaves", inPlace := ["slices.overlaps[magneto/api.Entry]"], unfollowed := true, recurses := true, apart := false }
def FaultstoreSavesSaid : Prop := faultstoreSavesRow.holds Tryz.pinned (OpenSpec.ofChange faultstoreSavesSpec)

/-- ITS FALSE NEIGHBOUR: 'it returns false'. Refute it at one input. -/
def faultstoreSavesWrong : ChangeSpec := { name := "faultstoreSaves", fn := fun _ => fun
  | [d1, d2, d3] => { results := [.lit (.bool false)], args := [d1, d2, d3] }
  | _ => none }
def FaultstoreSavesWrongFalsely : Prop := faultstoreSavesRow.holds Tryz.pinned (OpenSpec.ofChange faultstoreSavesWrong)

/-- 'magnetolaw52.FaultstoreForeign': WHATEVER THE INPUT: true; the input reads as it did. -/
def faultstoreForeignSpec : ChangeSpec := { name := "faultstoreForeign", fn := fun _ => fun
  | [d1, d2, d3] => { results := [.lit (.bool true)], args := [d1, d2, d3] }
  | _ => none }
def faultstoreForeignRow : OpenClaim := { program := "ytnmiibgmjfiknaagreat", sum := "1c39c1c3b63c54deab74a5776b7ff948b9e6f76a9bd8e864ac4a8ef356288e00", func := "magneto/magnetolaw52.FaultstoreForeign", spec := "faultstoreForeign", inPlace := ["slices.overlaps[magneto/api.Entry]"], unfollowed := true, recurses := true, apart := false }
def FaultstoreForeignSaid : Prop := faultstoreForeignRow.holds Tryz.pinned (OpenSpec.ofChange faultstoreForeignSpec)

/-- ITS FALSE NEIGHBOUR: 'it returns false'. Refute it at one input. -/
def faultstoreForeignWrong : ChangeSpec := { name := "faultstoreForeign", fn := fun _ => fun
  | [d1, d2, d3] => { results := [.lit (.bool false)], args := [d1, d2, d3] }
  | _ => none }
def FaultstoreForeignWrongFalsely : Prop := faultstoreForeignRow.holds Tryz.pinned (OpenSpec.ofChange faultstoreForeignWrong)

/-- 'magnetolaw52.FaultstoreKeeps': WHATEVER THE INPUT: true; the input reads as it did. -/
def faultstoreKeepsSpec : ChangeSpec := { name := "faultstoreKeeps", fn := fun _ => fun
  | [d1, d2] => { results := [.lit (.bool true)], args := [d1, d2] }
  | _ => none }
def faultstoreKeepsRow : OpenClaim := { program := "ytnmiibgmjfiknaagreat", sum := "1c39c1c3b63c54deab74a5776b7ff948b9e6f76a9bd8e864ac4a8ef356288e00", func := "magneto/magnetolaw52.FaultstoreKeeps", spec := "faultstoreKeeps", inPlace := ["slices.overlaps[magneto/api.Entry]"], unfollowed := true, recurses := true, apart := false }
def FaultstoreKeepsSaid : Prop := faultstoreKeepsRow.holds Tryz.pinned (OpenSpec.ofChange faultstoreKeepsSpec)

/-- ITS FALSE NEIGHBOUR: 'it returns false'. Refute it at one input. -/
def faultstoreKeepsWrong : ChangeSpec := { name := "faultstoreKeeps", fn := fun _ => fun
  | [d1, d2] => { results := [.lit (.bool false)], args := [d1, d2] }
  | _ => none }
def FaultstoreKeepsWrongFalsely : Prop := faultstoreKeepsRow.holds Tryz.pinned (OpenSpec.ofChange faultstoreKeepsWrong)

/- THE SECOND FORM. 'bulk': how many values and letters a reading holds, each counted each time it is reached (what is shared counts as often as it is met; a slice's spare places count too). A statement '..UptoSaid' is the law's where the arguments, and the package variables that the reading takes, are together of bulk at most 1048576: NARROWER than '..Said'. Prove '..Said' where nothing that the law and all that it calls make is longer than what came in: it says more and counts as full. Else prove '..UptoSaid'. A law counts once. -/
mutual
def uptoBulk {H : Type} : DataW H → Nat
  | .lit (.string bytes) => bytes.length + 1
  | .lit _ => 1
  | .nil => 1
  | .ptr d => uptoBulk d + 1
  | .slice elems spare => uptoBulkAll elems + uptoBulkAll spare + 1
  | .agg parts => uptoBulkAll parts + 1
  | .iface _ d => uptoBulk d + 1
  | .map entries => uptoBulkEntries entries + 1
  | .held _ => 1
def uptoBulkAll {H : Type} : List (DataW H) → Nat
  | [] => 0
  | d :: r => uptoBulk d + uptoBulkAll r
def uptoBulkEntries {H : Type} : List (Lit × DataW H) → Nat
  | [] => 0
  | x :: r => uptoBulkEntry x + uptoBulkEntries r
def uptoBulkEntry {H : Type} : Lit × DataW H → Nat
  | (.string bytes, d) => bytes.length + uptoBulk d + 1
  | (_, d) => uptoBulk d + 1
 end
def uptoSmall : (H : Type) → List (DataW H) → Bool := fun _ ds => decide (uptoBulkAll ds ≤ 1048576)
def OpenSpec.upto (s : _root_.Go.ChangeSpec) : _root_.Go.OpenSpec := { _root_.Go.OpenSpec.ofChange s with cond := some uptoSmall }

/-- 'magnetolaw52.FaultstoreLoads', WHERE WHAT IT READS IS OF BULK AT MOST 1048576: true; the input reads as it did. -/
def faultstoreLoadsUptoRow : OpenClaim := { program := "ytnmiibgmjfiknaagreat", sum := "1c39c1c3b63c54deab74a5776b7ff948b9e6f76a9bd8e864ac4a8ef356288e00", func := "magneto/magnetolaw52.FaultstoreLoads", spec := "faultstoreLoads", inPlace := ["slices.overlaps[magneto/api.Entry]"], unfollowed := true, recurses := true, apart := false, narrowed := true }
def FaultstoreLoadsUptoSaid : Prop := faultstoreLoadsUptoRow.holds Tryz.pinned (OpenSpec.upto faultstoreLoadsSpec)

/-- 'magnetolaw52.FaultstoreSaves', WHERE WHAT IT READS IS OF BULK AT MOST 1048576: true; the input reads as it did. -/
def faultstoreSavesUptoRow : OpenClaim := { program := "ytnmiibgmjfiknaagreat", sum := "1c39c1c3b63c54deab74a5776b7ff948b9e6f76a9bd8e864ac4a8ef356288e00", func := "magneto/magnetolaw52.FaultstoreSaves", spec := "faultstoreSaves", inPlace := ["slices.overlaps[magneto/api.Entry]"], unfollowed := true, recurses := true, apart := false, narrowed := true }
def FaultstoreSavesUptoSaid : Prop := faultstoreSavesUptoRow.holds Tryz.pinned (OpenSpec.upto faultstoreSavesSpec)

/-- 'magnetolaw52.FaultstoreForeign', WHERE WHAT IT READS IS OF BULK AT MOST 1048576: true; the input reads as it did. -/
def faultstoreForeignUptoRow : OpenClaim := { program := "ytnmiibgmjfiknaagreat", sum := "1c39c1c3b63c54deab74a5776b7ff948b9e6f76a9bd8e864ac4a8ef356288e00", func := "magneto/magnetolaw52.FaultstoreForeign", spec := "faultstoreForeign", inPlace := ["slices.overlaps[magneto/api.Entry]"], unfollowed := true, recurses := true, apart := false, narrowed := true }
def FaultstoreForeignUptoSaid : Prop := faultstoreForeignUptoRow.holds Tryz.pinned (OpenSpec.upto faultstoreForeignSpec)

/-- 'magnetolaw52.FaultstoreKeeps', WHERE WHAT IT READS IS OF BULK AT MOST 1048576: true; the input reads as it did. -/
def faultstoreKeepsUptoRow : OpenClaim := { program := "ytnmiibgmjfiknaagreat", sum := "1c39c1c3b63c54deab74a5776b7ff948b9e6f76a9bd8e864ac4a8ef356288e00", func := "magneto/magnetolaw52.FaultstoreKeeps", spec := "faultstoreKeeps", inPlace := ["slices.overlaps[magneto/api.Entry]"], unfollowed := true, recurses := true, apart := false, narrowed := true }
def FaultstoreKeepsUptoSaid : Prop := faultstoreKeepsUptoRow.holds Tryz.pinned (OpenSpec.upto faultstoreKeepsSpec)

end Rows
end Go.Proofs.YtnmiibgmjfiknaaGreat
