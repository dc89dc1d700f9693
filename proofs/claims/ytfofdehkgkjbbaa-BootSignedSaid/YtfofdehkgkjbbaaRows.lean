/-
  No cell of these rows narrows 'for every input' (looked for: loops, veiled, ifaces, maps, wideKeys, modest, calm, conditions, laid).
  DERIVED. THE GIVEN ROWS OF THIS SEAT. 7 by the template 'for every input the law returns true; each argument reads behind the call as it read before'; 0 by the template 'total and deterministic' (their statements: YtfofdehkgkjbbaaTotals.lean).
  GIVEN WITH THE SEED: the statements are not yours to turn. If you find one false, say at which input.
  Laid BY PROGRAM, IN A SANDBOX (cutbox-rows.mjs): the forced cells as the released guide's own fill.sh prints them over the translation 7aab99ef6c179e2a… (all of the seat's roots in one cut). By AI agents, Wed Nov 11 2026. No macro, syntax, notation, axiom, sorry.
-/
import Derived.Test.YtfofdehkgkjbbaaChecked
import GoSem.Claim
import GoSem.ClaimJoined
import GoSem.ClaimMapViews
import Derived.JoinedTies
import Derived.KernelRfl
namespace Go.Proofs.Ytfofdehkgkjbbaa
/- THE CELL 'sum', in the pinned program and in every row, IS THE sha256 OF THE DUMP (.gsa) THAT YtfofdehkgkjbbaaProg.lean LOADS. Nothing in Lean hashes anything: it is a label: what it is worth is what the hold of that sum in a sandbox is worth. -/
noncomputable def Try.pinned : Pinned := { name := "ytfofdehkgkjbbaa", sum := "7aab99ef6c179e2acf34f39fdce9292aea9b536096c510f82255eafa4ca9e227", checked := Try.checked }
namespace Rows
def none {H : Type} : Left H := { results := [], args := [] }

/-- 'magnetolaw54.BootDamage': WHATEVER THE INPUT: true; the input reads as it did. -/
def bootDamageSpec : ChangeSpec := { name := "bootDamage", fn := fun _ => fun
  | [d1, d2, d3, d4] => { results := [.lit (.bool true)], args := [d1, d2, d3, d4] }
  | _ => none }
def bootDamageRow : OpenClaim := { program := "ytfofdehkgkjbbaa", sum := "7aab99ef6c179e2acf34f39fdce9292aea9b536096c510f82255eafa4ca9e227", func := "magneto/magnetolaw54.BootDamage", spec := "bootDamage", unfollowed := true, recurses := true, apart := false }
def BootDamageSaid : Prop := bootDamageRow.holds Try.pinned (OpenSpec.ofChange bootDamageSpec)

/-- ITS FALSE NEIGHBOUR: 'it returns false'. Refute it at one input. -/
def bootDamageWrong : ChangeSpec := { name := "bootDamage", fn := fun _ => fun
  | [d1, d2, d3, d4] => { results := [.lit (.bool false)], args := [d1, d2, d3, d4] }
  | _ => none }
def BootDamageWrongFalsely : Prop := bootDamageRow.holds Try.pinned (OpenSpec.ofChange bootDamageWrong)

/-- 'magnetolaw54.BootRuns': WHATEVER THE INPUT: true; the input reads as it did. -/
def bootRunsSpec : ChangeSpec := { name := "bootRuns", fn := fun _ => fun
  | [d1, d2] => { results := [.lit (.bool true)], args := [d1, d2] }
  | _ => none }
def bootRunsRow : OpenClaim := { program := "ytfofdehkgkjbbaa", sum := "7aab99ef6c179e2acf34f39fdce9292aea9b536096c510f82255eafa4ca9e227", func := "magneto/magnetolaw54.BootRuns", spec := "bootRuns", unfollowed := true, recurses := true, apart := false }
def BootRunsSaid : Prop := bootRunsRow.holds Try.pinned (OpenSpec.ofChange bootRunsSpec)

/-- ITS FALSE NEIGHBOUR: 'it returns false'. Refute it at one input. -/
def bootRunsWrong : ChangeSpec := { name := "bootRuns", fn := fun _ => fun
  | [d1, d2] => { results := [.lit (.bool false)], args := [d1, d2] }
  | _ => none }
def BootRunsWrongFalsely : Prop := bootRunsRow.holds Try.pinned (OpenSpec.ofChange bootRunsWrong)

/-- 'magnetolaw54.BootHeaders': WHATEVER THE INPUT: true; the input reads as it did. -/
def bootHeadersSpec : ChangeSpec := { name := "bootHeaders", fn := fun _ => fun
  | [d1, d2, d3, d4] => { results := [.lit (.bool true)], args := [d1, d2, d3, d4] }
  | _ => none }
def bootHeadersRow : OpenClaim := { program := "ytfofdehkgkjbbaa", sum := "7aab99ef6c179e2acf34f39fdce9292aea9b536096c510f82255eafa4ca9e227", func := "magneto/magnetolaw54.BootHeaders", spec := "bootHeaders", unfollowed := true, recurses := true, apart := false }
def BootHeadersSaid : Prop := bootHeadersRow.holds Try.pinned (OpenSpec.ofChange bootHeadersSpec)

/-- ITS FALSE NEIGHBOUR: 'it returns false'. Refute it at one input. -/
def bootHeadersWrong : ChangeSpec := { name := "bootHeaders", fn := fun _ => fun
  | [d1, d2, d3, d4] => { results := [.lit (.bool false)], args := [d1, d2, d3, d4] }
  | _ => none }
def BootHeadersWrongFalsely : Prop := bootHeadersRow.holds Try.pinned (OpenSpec.ofChange bootHeadersWrong)

/-- 'magnetolaw54.BootActivates': WHATEVER THE INPUT: true; the input reads as it did. -/
def bootActivatesSpec : ChangeSpec := { name := "bootActivates", fn := fun _ => fun
  | [d1, d2, d3] => { results := [.lit (.bool true)], args := [d1, d2, d3] }
  | _ => none }
def bootActivatesRow : OpenClaim := { program := "ytfofdehkgkjbbaa", sum := "7aab99ef6c179e2acf34f39fdce9292aea9b536096c510f82255eafa4ca9e227", func := "magneto/magnetolaw54.BootActivates", spec := "bootActivates", unfollowed := true, recurses := true, apart := false }
def BootActivatesSaid : Prop := bootActivatesRow.holds Try.pinned (OpenSpec.ofChange bootActivatesSpec)

/-- ITS FALSE NEIGHBOUR: 'it returns false'. Refute it at one input. -/
def bootActivatesWrong : ChangeSpec := { name := "bootActivates", fn := fun _ => fun
  | [d1, d2, d3] => { results := [.lit (.bool false)], args := [d1, d2, d3] }
  | _ => none }
def BootActivatesWrongFalsely : Prop := bootActivatesRow.holds Try.pinned (OpenSpec.ofChange bootActivatesWrong)

/-- 'magnetolaw54.BootFails': WHATEVER THE INPUT: true; the input reads as it did. -/
def bootFailsSpec : ChangeSpec := { name := "bootFails", fn := fun _ => fun
  | [d1, d2, d3] => { results := [.lit (.bool true)], args := [d1, d2, d3] }
  | _ => none }
def bootFailsRow : OpenClaim := { program := "ytfofdehkgkjbbaa", sum := "7aab99ef6c179e2acf34f39fdce9292aea9b536096c510f82255eafa4ca9e227", func := "magneto/magnetolaw54.BootFails", spec := "bootFails", unfollowed := true, recurses := true, apart := false }
def BootFailsSaid : Prop := bootFailsRow.holds Try.pinned (OpenSpec.ofChange bootFailsSpec)

/-- ITS FALSE NEIGHBOUR: 'it returns false'. Refute it at one input. -/
def bootFailsWrong : ChangeSpec := { name := "bootFails", fn := fun _ => fun
  | [d1, d2, d3] => { results := [.lit (.bool false)], args := [d1, d2, d3] }
  | _ => none }
def BootFailsWrongFalsely : Prop := bootFailsRow.holds Try.pinned (OpenSpec.ofChange bootFailsWrong)

/-- 'magnetolaw54.BootOrder': WHATEVER THE INPUT: true; the input reads as it did. -/
def bootOrderSpec : ChangeSpec := { name := "bootOrder", fn := fun _ => fun
  | [d] => { results := [.lit (.bool true)], args := [d] }
  | _ => none }
def bootOrderRow : OpenClaim := { program := "ytfofdehkgkjbbaa", sum := "7aab99ef6c179e2acf34f39fdce9292aea9b536096c510f82255eafa4ca9e227", func := "magneto/magnetolaw54.BootOrder", spec := "bootOrder", unfollowed := true, recurses := true, apart := false }
def BootOrderSaid : Prop := bootOrderRow.holds Try.pinned (OpenSpec.ofChange bootOrderSpec)

/-- ITS FALSE NEIGHBOUR: 'it returns false'. Refute it at one input. -/
def bootOrderWrong : ChangeSpec := { name := "bootOrder", fn := fun _ => fun
  | [d] => { results := [.lit (.bool false)], args := [d] }
  | _ => none }
def BootOrderWrongFalsely : Prop := bootOrderRow.holds Try.pinned (OpenSpec.ofChange bootOrderWrong)

/-- 'magnetolaw54.BootSigned': WHATEVER THE INPUT: true; the input reads as it did. -/
def bootSignedSpec : ChangeSpec := { name := "bootSigned", fn := fun _ => fun
  | [d1, d2, d3, d4, d5, d6] => { results := [.lit (.bool true)], args := [d1, d2, d3, d4, d5, d6] }
  | _ => none }
def bootSignedRow : OpenClaim := { program := "ytfofdehkgkjbbaa", sum := "7aab99ef6c179e2acf34f39fdce9292aea9b536096c510f82255eafa4ca9e227", func := "magneto/magnetolaw54.BootSigned", spec := "bootSigned", unfollowed := true, recurses := true, apart := false }
def BootSignedSaid : Prop := bootSignedRow.holds Try.pinned (OpenSpec.ofChange bootSignedSpec)

/-- ITS FALSE NEIGHBOUR: 'it returns false'. Refute it at one input. -/
def bootSignedWrong : ChangeSpec := { name := "bootSigned", fn := fun _ => fun
  | [d1, d2, d3, d4, d5, d6] => { results := [.lit (.bool false)], args := [d1, d2, d3, d4, d5, d6] }
  | _ => none }
def BootSignedWrongFalsely : Prop := bootSignedRow.holds Try.pinned (OpenSpec.ofChange bootSignedWrong)

/- THE SECOND FORM. 'bulk': how many values and letters a reading holds, each counted each time it is reached (what is shared counts as often as it is met; a slice's spare places count too). A statement '..UptoSaid' is the law's where the arguments, and the package variables that the reading takes, are together of bulk at most 1048576: NARROWER than '..Said'. Prove '..Said' where nothing that the law and all that it calls make is longer than what came in: it says more and counts as full. Else prove '..UptoSaid'. A law counts once. -/
mutual
def uptoBulk {H : Type} : DataW H → Nat
  | .lit (.string bytes) => bytes.length + 1
  | .lit _ => 1
  | .nil => 1
  | .ptr d => uptoBulk d + 1
  | .slice elems spare => uptoBulkAll elems + uptoBulkAll spare + 1
  | .agg parts => uptoBulkAll parts + 1
  | .iface _ d => uptoBulk d + 1
  | .map entries => uptoBulkEntries entries + 1
  | .held _ => 1
def uptoBulkAll {H : Type} : List (DataW H) → Nat
  | [] => 0
  | d :: r => uptoBulk d + uptoBulkAll r
def uptoBulkEntries {H : Type} : List (Lit × DataW H) → Nat
  | [] => 0
  | x :: r => uptoBulkEntry x + uptoBulkEntries r
def uptoBulkEntry {H : Type} : Lit × DataW H → Nat
  | (.string bytes, d) => bytes.length + uptoBulk d + 1
  | (_, d) => uptoBulk d + 1
 end
def uptoSmall : (H : Type) → List (DataW H) → Bool := fun _ ds => decide (uptoBulkAll ds ≤ 1048576)
def OpenSpec.upto (s : _root_.Go.ChangeSpec) : _root_.Go.OpenSpec := { _root_.Go.OpenSpec.ofChange s with cond := some uptoSmall }

/-- 'magnetolaw54.BootDamage', WHERE WHAT IT READS IS OF BULK AT MOST 1048576: true; the input reads as it did. -/
def bootDamageUptoRow : OpenClaim := { program := "ytfofdehkgkjbbaa", sum := "7aab99ef6c179e2acf34f39fdce9292aea9b536096c510f82255eafa4ca9e227", func := "magneto/magnetolaw54.BootDamage", spec := "bootDamage", unfollowed := true, recurses := true, apart := false, narrowed := true }
def BootDamageUptoSaid : Prop := bootDamageUptoRow.holds Try.pinned (OpenSpec.upto bootDamageSpec)

/-- 'magnetolaw54.BootRuns', WHERE WHAT IT READS IS OF BULK AT MOST 1048576: true; the input reads as it did. -/
def bootRunsUptoRow : OpenClaim := { program := "ytfofdehkgkjbbaa", sum := "7aab99ef6c179e2acf34f39fdce9292aea9b536096c510f82255eafa4ca9e227", func := "magneto/magnetolaw54.BootRuns", spec := "bootRuns", unfollowed := true, recurses := true, apart := false, narrowed := true }
def BootRunsUptoSaid : Prop := bootRunsUptoRow.holds Try.pinned (OpenSpec.upto bootRunsSpec)

/-- 'magnetolaw54.BootHeaders', WHERE WHAT IT READS IS OF BULK AT MOST 1048576: true; the input reads as it did. -/
def bootHeadersUptoRow : OpenClaim := { program := "ytfofdehkgkjbbaa", sum := "7aab99ef6c179e2acf34f39fdce9292aea9b536096c510f82255eafa4ca9e227", func := "magneto/magnetolaw54.BootHeaders", spec := "bootHeaders", unfollowed := true, recurses := true, apart := false, narrowed := true }
def BootHeadersUptoSaid : Prop := bootHeadersUptoRow.holds Try.pinned (OpenSpec.upto bootHeadersSpec)

/-- 'magnetolaw54.BootActivates', WHERE WHAT IT READS IS OF BULK AT MOST 1048576: true; the input reads as it did. -/
def bootActivatesUptoRow : OpenClaim := { program := "ytfofdehkgkjbbaa", sum := "7aab99ef6c179e2acf34f39fdce9292aea9b536096c510f82255eafa4ca9e227", func := "magneto/magnetolaw54.BootActivates", spec := "bootActivates", unfollowed := true, recurses := true, apart := false, narrowed := true }
def BootActivatesUptoSaid : Prop := bootActivatesUptoRow.holds Try.pinned (OpenSpec.upto bootActivatesSpec)

/-- 'magnetolaw54.BootFails', WHERE WHAT IT READS IS OF BULK AT MOST 1048576: true; the input reads as it did. -/
def bootFailsUptoRow : OpenClaim := { program := "ytfofdehkgkjbbaa", sum := "7aab99ef6c179e2acf34f39fdce9292aea9b536096c510f82255eafa4ca9e227", func := "magneto/magnetolaw54.BootFails", spec := "bootFails", unfollowed := true, recurses := true, apart := false, narrowed := true }
def BootFailsUptoSaid : Prop := bootFailsUptoRow.holds Try.pinned (OpenSpec.upto bootFailsSpec)

/-- 'magnetolaw54.BootOrder', WHERE WHAT IT READS IS OF BULK AT MOST 1048576: true; the input reads as it did. -/
def bootOrderUptoRow : OpenClaim := { program := "ytfofdehkgkjbbaa", sum := "7aab99ef6c179e2acf34f39fdce9292aea9b536096c510f82255eafa4ca9e227", func := "magneto/magnetolaw54.BootOrder", spec := "bootOrder", unfollowed := true, recurses := true, apart := false, narrowed := true }
def BootOrderUptoSaid : Prop := bootOrderUptoRow.holds Try.pinned (OpenSpec.upto bootOrderSpec)

/-- 'magnetolaw54.BootSigned', WHERE WHAT IT READS IS OF BULK AT MOST 1048576: true; the input reads as it did. -/
def bootSignedUptoRow : OpenClaim := { program := "ytfofdehkgkjbbaa", sum := "7aab99ef6c179e2acf34f39fdce9292aea9b536096c510f82255eafa4ca9e227", func := "magneto/magnetolaw54.BootSigned", spec := "bootSigned", unfollowed := true, recurses := true, apart := false, narrowed := true }
def BootSignedUptoSaid : Prop := bootSignedUptoRow.holds Try.pinned (OpenSpec.upto bootSignedSpec)

end Rows
end Go.Proofs.Ytfofdehkgkjbbaa
