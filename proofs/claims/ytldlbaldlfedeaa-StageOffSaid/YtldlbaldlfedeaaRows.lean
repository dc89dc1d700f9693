/-
  No cell of these rows narrows 'for every input' (looked for: loops, veiled, ifaces, maps, wideKeys, modest, calm, conditions, laid).
  DERIVED. THE GIVEN ROWS OF THIS SEAT. 4 by the template 'for every input the law returns true; each argument reads behind the call as it read before'; 0 by the template 'total and deterministic' (their statements: YtldlbaldlfedeaaTotals.lean).
  GIVEN WITH THE SEED: the statements are not yours to turn. If you find one false, say at which input.
  Laid BY PROGRAM, IN A SANDBOX (cutbox-rows.mjs): the forced cells as the released guide's own fill.sh prints them over the translation 8f3936def89829ed… (all of the seat's roots in one cut). By AI agents, Wed Nov 11 2026. No macro, syntax, notation, axiom, sorry.
-/
import Derived.Test.YtldlbaldlfedeaaChecked
import GoSem.Claim
import GoSem.ClaimJoined
import GoSem.ClaimMapViews
import Derived.JoinedTies
import Derived.KernelRfl
namespace Go.Proofs.Ytldlbaldlfedeaa
/- THE CELL 'sum', in the pinned program and in every row, IS THE sha256 OF THE DUMP (.gsa) THAT YtldlbaldlfedeaaProg.lean LOADS. Nothing in Lean hashes anything: it is a label: what it is worth is what the hold of that sum in a sandbox is worth. -/
noncomputable def Try.pinned : Pinned := { name := "ytldlbaldlfedeaa", sum := "8f3936def89829ed98ddda8e736791e441fce86eb93f3b26fcfc619b03f2a62c", checked := Try.checked }
namespace Rows
def none {H : Type} : Left H := { results := [], args := [] }

/-- 'magnetolaw41.StageSteps': WHATEVER THE INPUT: true; the input reads as it did. -/
def stageStepsSpec : ChangeSpec := { name := "stageSteps", fn := fun _ => fun
  | [d1, d2, d3, d4, d5] => { results := [.lit (.bool true)], args := [d1, d2, d3, d4, d5] }
  | _ => none }
def stageStepsRow : OpenClaim := { program := "ytldlbaldlfedeaa", sum := "8f3936def89829ed98ddda8e736791e441fce86eb93f3b26fcfc619b03f2a62c", func := "magneto/magnetolaw41.StageSteps", spec := "stageSteps", apart := false }
def StageStepsSaid : Prop := stageStepsRow.holds Try.pinned (OpenSpec.ofChange stageStepsSpec)

/-- ITS FALSE NEIGHBOUR: 'it returns false'. Refute it at one input. -/
def stageStepsWrong : ChangeSpec := { name := "stageSteps", fn := fun _ => fun
  | [d1, d2, d3, d4, d5] => { results := [.lit (.bool false)], args := [d1, d2, d3, d4, d5] }
  | _ => none }
def StageStepsWrongFalsely : Prop := stageStepsRow.holds Try.pinned (OpenSpec.ofChange stageStepsWrong)

/-- 'magnetolaw41.StageCauses': WHATEVER THE INPUT: true; the input reads as it did. -/
def stageCausesSpec : ChangeSpec := { name := "stageCauses", fn := fun _ => fun
  | [d1, d2, d3, d4, d5, d6] => { results := [.lit (.bool true)], args := [d1, d2, d3, d4, d5, d6] }
  | _ => none }
def stageCausesRow : OpenClaim := { program := "ytldlbaldlfedeaa", sum := "8f3936def89829ed98ddda8e736791e441fce86eb93f3b26fcfc619b03f2a62c", func := "magneto/magnetolaw41.StageCauses", spec := "stageCauses", apart := false }
def StageCausesSaid : Prop := stageCausesRow.holds Try.pinned (OpenSpec.ofChange stageCausesSpec)

/-- ITS FALSE NEIGHBOUR: 'it returns false'. Refute it at one input. -/
def stageCausesWrong : ChangeSpec := { name := "stageCauses", fn := fun _ => fun
  | [d1, d2, d3, d4, d5, d6] => { results := [.lit (.bool false)], args := [d1, d2, d3, d4, d5, d6] }
  | _ => none }
def StageCausesWrongFalsely : Prop := stageCausesRow.holds Try.pinned (OpenSpec.ofChange stageCausesWrong)

/-- 'magnetolaw41.StageOutputs': WHATEVER THE INPUT: true; the input reads as it did. -/
def stageOutputsSpec : ChangeSpec := { name := "stageOutputs", fn := fun _ => fun
  | [d1, d2, d3, d4] => { results := [.lit (.bool true)], args := [d1, d2, d3, d4] }
  | _ => none }
def stageOutputsRow : OpenClaim := { program := "ytldlbaldlfedeaa", sum := "8f3936def89829ed98ddda8e736791e441fce86eb93f3b26fcfc619b03f2a62c", func := "magneto/magnetolaw41.StageOutputs", spec := "stageOutputs", unfollowed := true, recurses := true, apart := false }
def StageOutputsSaid : Prop := stageOutputsRow.holds Try.pinned (OpenSpec.ofChange stageOutputsSpec)

/-- ITS FALSE NEIGHBOUR: 'it returns false'. Refute it at one input. -/
def stageOutputsWrong : ChangeSpec := { name := "stageOutputs", fn := fun _ => fun
  | [d1, d2, d3, d4] => { results := [.lit (.bool false)], args := [d1, d2, d3, d4] }
  | _ => none }
def StageOutputsWrongFalsely : Prop := stageOutputsRow.holds Try.pinned (OpenSpec.ofChange stageOutputsWrong)

/-- 'magnetolaw41.StageOff': WHATEVER THE INPUT: true; the input reads as it did. -/
def stageOffSpec : ChangeSpec := { name := "stageOff", fn := fun _ => fun
  | [d1, d2, d3, d4] => { results := [.lit (.bool true)], args := [d1, d2, d3, d4] }
  | _ => none }
def stageOffRow : OpenClaim := { program := "ytldlbaldlfedeaa", sum := "8f3936def89829ed98ddda8e736791e441fce86eb93f3b26fcfc619b03f2a62c", func := "magneto/magnetolaw41.StageOff", spec := "stageOff", unfollowed := true, recurses := true, apart := false }
def StageOffSaid : Prop := stageOffRow.holds Try.pinned (OpenSpec.ofChange stageOffSpec)

/-- ITS FALSE NEIGHBOUR: 'it returns false'. Refute it at one input. -/
def stageOffWrong : ChangeSpec := { name := "stageOff", fn := fun _ => fun
  | [d1, d2, d3, d4] => { results := [.lit (.bool false)], args := [d1, d2, d3, d4] }
  | _ => none }
def StageOffWrongFalsely : Prop := stageOffRow.holds Try.pinned (OpenSpec.ofChange stageOffWrong)

/- THE SECOND FORM. 'bulk': how many values and letters a reading holds, each counted each time it is reached (what is shared counts as often as it is met; a slice's spare places count too). A statement '..UptoSaid' is the law's where the arguments, and the package variables that the reading takes, are together of bulk at most 1048576: NARROWER than '..Said'. Prove '..Said' where nothing that the law and all that it calls make is longer than what came in: it says more and counts as full. Else prove '..UptoSaid'. A law counts once. -/
mutual
def uptoBulk {H : Type} : DataW H → Nat
  | .lit (.string bytes) => bytes.length + 1
  | .lit _ => 1
  | .nil => 1
  | .ptr d => uptoBulk d + 1
  | .slice elems spare => uptoBulkAll elems + uptoBulkAll spare + 1
  | .agg parts => uptoBulkAll parts + 1
  | .iface _ d => uptoBulk d + 1
  | .map entries => uptoBulkEntries entries + 1
  | .held _ => 1
def uptoBulkAll {H : Type} : List (DataW H) → Nat
  | [] => 0
  | d :: r => uptoBulk d + uptoBulkAll r
def uptoBulkEntries {H : Type} : List (Lit × DataW H) → Nat
  | [] => 0
  | x :: r => uptoBulkEntry x + uptoBulkEntries r
def uptoBulkEntry {H : Type} : Lit × DataW H → Nat
  | (.string bytes, d) => bytes.length + uptoBulk d + 1
  | (_, d) => uptoBulk d + 1
 end
def uptoSmall : (H : Type) → List (DataW H) → Bool := fun _ ds => decide (uptoBulkAll ds ≤ 1048576)
def OpenSpec.upto (s : _root_.Go.ChangeSpec) : _root_.Go.OpenSpec := { _root_.Go.OpenSpec.ofChange s with cond := some uptoSmall }

/-- 'magnetolaw41.StageSteps', WHERE WHAT IT READS IS OF BULK AT MOST 1048576: true; the input reads as it did. -/
def stageStepsUptoRow : OpenClaim := { program := "ytldlbaldlfedeaa", sum := "8f3936def89829ed98ddda8e736791e441fce86eb93f3b26fcfc619b03f2a62c", func := "magneto/magnetolaw41.StageSteps", spec := "stageSteps", apart := false, narrowed := true }
def StageStepsUptoSaid : Prop := stageStepsUptoRow.holds Try.pinned (OpenSpec.upto stageStepsSpec)

/-- 'magnetolaw41.StageCauses', WHERE WHAT IT READS IS OF BULK AT MOST 1048576: true; the input reads as it did. -/
def stageCausesUptoRow : OpenClaim := { program := "ytldlbaldlfedeaa", sum := "8f3936def89829ed98ddda8e736791e441fce86eb93f3b26fcfc619b03f2a62c", func := "magneto/magnetolaw41.StageCauses", spec := "stageCauses", apart := false, narrowed := true }
def StageCausesUptoSaid : Prop := stageCausesUptoRow.holds Try.pinned (OpenSpec.upto stageCausesSpec)

/-- 'magnetolaw41.StageOutputs', WHERE WHAT IT READS IS OF BULK AT MOST 1048576: true; the input reads as it did. -/
def stageOutputsUptoRow : OpenClaim := { program := "ytldlbaldlfedeaa", sum := "8f3936def89829ed98ddda8e736791e441fce86eb93f3b26fcfc619b03f2a62c", func := "magneto/magnetolaw41.StageOutputs", spec := "stageOutputs", unfollowed := true, recurses := true, apart := false, narrowed := true }
def StageOutputsUptoSaid : Prop := stageOutputsUptoRow.holds Try.pinned (OpenSpec.upto stageOutputsSpec)

/-- 'magnetolaw41.StageOff', WHERE WHAT IT READS IS OF BULK AT MOST 1048576: true; the input reads as it did. -/
def stageOffUptoRow : OpenClaim := { program := "ytldlbaldlfedeaa", sum := "8f3936def89829ed98ddda8e736791e441fce86eb93f3b26fcfc619b03f2a62c", func := "magneto/magnetolaw41.StageOff", spec := "stageOff", unfollowed := true, recurses := true, apart := false, narrowed := true }
def StageOffUptoSaid : Prop := stageOffUptoRow.holds Try.pinned (OpenSpec.upto stageOffSpec)

end Rows
end Go.Proofs.Ytldlbaldlfedeaa
