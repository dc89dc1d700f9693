/-
  No cell of these rows narrows 'for every input' (looked for: loops, veiled, ifaces, maps, wideKeys, modest, calm, conditions, laid).
  DERIVED. THE GIVEN ROWS OF THIS SEAT. 5 by the template 'for every input the law returns true; each argument reads behind the call as it read before'; 0 by the template 'total and deterministic' (their statements: YtbbpamlijfhebaaTotals.lean).
  GIVEN WITH THE SEED: the statements are not yours to turn. If you find one false, say at which input.
  Laid BY PROGRAM, IN A SANDBOX (cutbox-rows.mjs): the forced cells as the released guide's own fill.sh prints them over the translation 957b5982b4c31d65… (all of the seat's roots in one cut). By AI agents, Wed Nov 11 2026. No macro, syntax, notation, axiom, sorry.
-/
import Derived.Test.YtbbpamlijfhebaaChecked
import GoSem.Claim
import GoSem.ClaimJoined
import GoSem.ClaimMapViews
import Derived.JoinedTies
import Derived.KernelRfl
namespace Go.Proofs.Ytbbpamlijfhebaa
/- THE CELL 'sum', in the pinned program and in every row, IS THE sha256 OF THE DUMP (.gsa) THAT YtbbpamlijfhebaaProg.lean LOADS. Nothing in Lean hashes anything: it is a label: what it is worth is what the hold of that sum in a sandbox is worth. -/
noncomputable def Try.pinned : Pinned := { name := "ytbbpamlijfhebaa", sum := "957b5982b4c31d65a3b7ead10c4c1b988919d2765091f7d6c567b22d0e688726", checked := Try.checked }
namespace Rows
def none {H : Type} : Left H := { results := [], args := [] }

/-- 'magnetolaw46.FaultConfigs': WHATEVER THE INPUT: true; the input reads as it did. -/
def faultConfigsSpec : ChangeSpec := { name := "faultConfigs", fn := fun _ => fun
  | [d1, d2] => { results := [.lit (.bool true)], args := [d1, d2] }
  | _ => none }
def faultConfigsRow : OpenClaim := { program := "ytbbpamlijfhebaa", sum := "957b5982b4c31d65a3b7ead10c4c1b988919d2765091f7d6c567b22d0e688726", func := "magneto/magnetolaw46.FaultConfigs", spec := "faultConfigs", unfollowed := true, recurses := true, apart := false }
def FaultConfigsSaid : Prop := faultConfigsRow.holds Try.pinned (OpenSpec.ofChange faultConfigsSpec)

/-- ITS FALSE NEIGHBOUR: 'it returns false'. Refute it at one input. -/
def faultConfigsWrong : ChangeSpec := { name := "faultConfigs", fn := fun _ => fun
  | [d1, d2] => { results := [.lit (.bool false)], args := [d1, d2] }
  | _ => none }
def FaultConfigsWrongFalsely : Prop := faultConfigsRow.holds Try.pinned (OpenSpec.ofChange faultConfigsWrong)

/-- 'magnetolaw46.FaultKeeps': WHATEVER THE INPUT: true; the input reads as it did. -/
def faultKeepsSpec : ChangeSpec := { name := "faultKeeps", fn := fun _ => fun
  | [d1, d2] => { results := [.lit (.bool true)], args := [d1, d2] }
  | _ => none }
def faultKeepsRow : OpenClaim := { program := "ytbbpamlijfhebaa", sum := "957b5982b4c31d65a3b7ead10c4c1b988919d2765091f7d6c567b22d0e688726", func := "magneto/magnetolaw46.FaultKeeps", spec := "faultKeeps", unfollowed := true, recurses := true, apart := false }
def FaultKeepsSaid : Prop := faultKeepsRow.holds Try.pinned (OpenSpec.ofChange faultKeepsSpec)

/-- ITS FALSE NEIGHBOUR: 'it returns false'. Refute it at one input. -/
def faultKeepsWrong : ChangeSpec := { name := "faultKeeps", fn := fun _ => fun
  | [d1, d2] => { results := [.lit (.bool false)], args := [d1, d2] }
  | _ => none }
def FaultKeepsWrongFalsely : Prop := faultKeepsRow.holds Try.pinned (OpenSpec.ofChange faultKeepsWrong)

/-- 'magnetolaw46.FaultDebounced': WHATEVER THE INPUT: true; the input reads as it did. -/
def faultDebouncedSpec : ChangeSpec := { name := "faultDebounced", fn := fun _ => fun
  | [d1, d2] => { results := [.lit (.bool true)], args := [d1, d2] }
  | _ => none }
def faultDebouncedRow : OpenClaim := { program := "ytbbpamlijfhebaa", sum := "957b5982b4c31d65a3b7ead10c4c1b988919d2765091f7d6c567b22d0e688726", func := "magneto/magnetolaw46.FaultDebounced", spec := "faultDebounced", unfollowed := true, recurses := true, apart := false }
def FaultDebouncedSaid : Prop := faultDebouncedRow.holds Try.pinned (OpenSpec.ofChange faultDebouncedSpec)

/-- ITS FALSE NEIGHBOUR: 'it returns false'. Refute it at one input. -/
def faultDebouncedWrong : ChangeSpec := { name := "faultDebounced", fn := fun _ => fun
  | [d1, d2] => { results := [.lit (.bool false)], args := [d1, d2] }
  | _ => none }
def FaultDebouncedWrongFalsely : Prop := faultDebouncedRow.holds Try.pinned (OpenSpec.ofChange faultDebouncedWrong)

/-- 'magnetolaw46.FaultConfirms': WHATEVER THE INPUT: true; the input reads as it did. -/
def faultConfirmsSpec : ChangeSpec := { name := "faultConfirms", fn := fun _ => fun
  | [d1, d2] => { results := [.lit (.bool true)], args := [d1, d2] }
  | _ => none }
def faultConfirmsRow : OpenClaim := { program := "ytbbpamlijfhebaa", sum := "957b5982b4c31d65a3b7ead10c4c1b988919d2765091f7d6c567b22d0e688726", func := "magneto/magnetolaw46.FaultConfirms", spec := "faultConfirms", unfollowed := true, recurses := true, apart := false }
def FaultConfirmsSaid : Prop := faultConfirmsRow.holds Try.pinned (OpenSpec.ofChange faultConfirmsSpec)

/-- ITS FALSE NEIGHBOUR: 'it returns false'. Refute it at one input. -/
def faultConfirmsWrong : ChangeSpec := { name := "faultConfirms", fn := fun _ => fun
  | [d1, d2] => { results := [.lit (.bool false)], args := [d1, d2] }
  | _ => none }
def FaultConfirmsWrongFalsely : Prop := faultConfirmsRow.holds Try.pinned (OpenSpec.ofChange faultConfirmsWrong)

/-- 'magnetolaw46.FaultRemembers': WHATEVER THE INPUT: true; the input reads as it did. -/
def faultRemembersSpec : ChangeSpec := { name := "faultRemembers", fn := fun _ => fun
  | [d1, d2] => { results := [.lit (.bool true)], args := [d1, d2] }
  | _ => none }
def faultRemembersRow : OpenClaim := { program := "ytbbpamlijfhebaa", sum := "957b5982b4c31d65a3b7ead10c4c1b988919d2765091f7d6c567b22d0e688726", func := "magneto/magnetolaw46.FaultRemembers", spec := "faultRemembers", unfollowed := true, recurses := true, apart := false }
def FaultRemembersSaid : Prop := faultRemembersRow.holds Try.pinned (OpenSpec.ofChange faultRemembersSpec)

/-- ITS FALSE NEIGHBOUR: 'it returns false'. Refute it at one input. -/
def faultRemembersWrong : ChangeSpec := { name := "faultRemembers", fn := fun _ => fun
  | [d1, d2] => { results := [.lit (.bool false)], args := [d1, d2] }
  | _ => none }
def FaultRemembersWrongFalsely : Prop := faultRemembersRow.holds Try.pinned (OpenSpec.ofChange faultRemembersWrong)

/- THE SECOND FORM. 'bulk': how many values and letters a reading holds, each counted each time it is reached (what is shared counts as often as it is met; a slice's spare places count too). A statement '..UptoSaid' is the law's where the arguments, and the package variables that the reading takes, are together of bulk at most 1048576: NARROWER than '..Said'. Prove '..Said' where nothing that the law and all that it calls make is longer than what came in: it says more and counts as full. Else prove '..UptoSaid'. A law counts once. -/
mutual
def uptoBulk {H : Type} : DataW H → Nat
  | .lit (.string bytes) => bytes.length + 1
  | .lit _ => 1
  | .nil => 1
  | .ptr d => uptoBulk d + 1
  | .slice elems spare => uptoBulkAll elems + uptoBulkAll spare + 1
  | .agg parts => uptoBulkAll parts + 1
  | .iface _ d => uptoBulk d + 1
  | .map entries => uptoBulkEntries entries + 1
  | .held _ => 1
def uptoBulkAll {H : Type} : List (DataW H) → Nat
  | [] => 0
  | d :: r => uptoBulk d + uptoBulkAll r
def uptoBulkEntries {H : Type} : List (Lit × DataW H) → Nat
  | [] => 0
  | x :: r => uptoBulkEntry x + uptoBulkEntries r
def uptoBulkEntry {H : Type} : Lit × DataW H → Nat
  | (.string bytes, d) => bytes.length + uptoBulk d + 1
  | (_, d) => uptoBulk d + 1
 end
def uptoSmall : (H : Type) → List (DataW H) → Bool := fun _ ds => decide (uptoBulkAll ds ≤ 1048576)
def OpenSpec.upto (s : _root_.Go.ChangeSpec) : _root_.Go.OpenSpec := { _root_.Go.OpenSpec.ofChange s with cond := some uptoSmall }

/-- 'magnetolaw46.FaultConfigs', WHERE WHAT IT READS IS OF BULK AT MOST 1048576: true; the input reads as it did. -/
def faultConfigsUptoRow : OpenClaim := { program := "ytbbpamlijfhebaa", sum := "957b5982b4c31d65a3b7ead10c4c1b988919d2765091f7d6c567b22d0e688726", func := "magneto/magnetolaw46.FaultConfigs", spec := "faultConfigs", unfollowed := true, recurses := true, apart := false, narrowed := true }
def FaultConfigsUptoSaid : Prop := faultConfigsUptoRow.holds Try.pinned (OpenSpec.upto faultConfigsSpec)

/-- 'magnetolaw46.FaultKeeps', WHERE WHAT IT READS IS OF BULK AT MOST 1048576: true; the input reads as it did. -/
def faultKeepsUptoRow : OpenClaim := { program := "ytbbpamlijfhebaa", sum := "957b5982b4c31d65a3b7ead10c4c1b988919d2765091f7d6c567b22d0e688726", func := "magneto/magnetolaw46.FaultKeeps", spec := "faultKeeps", unfollowed := true, recurses := true, apart := false, narrowed := true }
def FaultKeepsUptoSaid : Prop := faultKeepsUptoRow.holds Try.pinned (OpenSpec.upto faultKeepsSpec)

/-- 'magnetolaw46.FaultDebounced', WHERE WHAT IT READS IS OF BULK AT MOST 1048576: true; the input reads as it did. -/
def faultDebouncedUptoRow : OpenClaim := { program := "ytbbpamlijfhebaa", sum := "957b5982b4c31d65a3b7ead10c4c1b988919d2765091f7d6c567b22d0e688726", func := "magneto/magnetolaw46.FaultDebounced", spec := "faultDebounced", unfollowed := true, recurses := true, apart := false, narrowed := true }
def FaultDebouncedUptoSaid : Prop := faultDebouncedUptoRow.holds Try.pinned (OpenSpec.upto faultDebouncedSpec)

/-- 'magnetolaw46.FaultConfirms', WHERE WHAT IT READS IS OF BULK AT MOST 1048576: true; the input reads as it did. -/
def faultConfirmsUptoRow : OpenClaim := { program := "ytbbpamlijfhebaa", sum := "957b5982b4c31d65a3b7ead10c4c1b988919d2765091f7d6c567b22d0e688726", func := "magneto/magnetolaw46.FaultConfirms", spec := "faultConfirms", unfollowed := true, recurses := true, apart := false, narrowed := true }
def FaultConfirmsUptoSaid : Prop := faultConfirmsUptoRow.holds Try.pinned (OpenSpec.upto faultConfirmsSpec)

/-- 'magnetolaw46.FaultRemembers', WHERE WHAT IT READS IS OF BULK AT MOST 1048576: true; the input reads as it did. -/
def faultRemembersUptoRow : OpenClaim := { program := "ytbbpamlijfhebaa", sum := "957b5982b4c31d65a3b7ead10c4c1b988919d2765091f7d6c567b22d0e688726", func := "magneto/magnetolaw46.FaultRemembers", spec := "faultRemembers", unfollowed := true, recurses := true, apart := false, narrowed := true }
def FaultRemembersUptoSaid : Prop := faultRemembersUptoRow.holds Try.pinned (OpenSpec.upto faultRemembersSpec)

end Rows
end Go.Proofs.Ytbbpamlijfhebaa
