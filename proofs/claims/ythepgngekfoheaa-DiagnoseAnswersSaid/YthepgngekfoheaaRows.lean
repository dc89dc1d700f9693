/-
  No cell of these rows narrows 'for every input' (looked for: loops, veiled, ifaces, maps, wideKeys, modest, calm, conditions, laid).
  DERIVED. THE GIVEN ROWS OF THIS SEAT. 5 by the template 'for every input the law returns true; each argument reads behind the call as it read before'; 0 by the template 'total and deterministic' (their statements: YthepgngekfoheaaTotals.lean).
  GIVEN WITH THE SEED: the statements are not yours to turn. If you find one false, say at which input.
  Laid BY PROGRAM, IN A SANDBOX (cutbox-rows.mjs): the forced cells as the released guide's own fill.sh prints them over the translation 3d950498a449b4c4… (all of the seat's roots in one cut). By AI agents, Wed Nov 11 2026. No macro, syntax, notation, axiom, sorry.
-/
import Derived.Test.YthepgngekfoheaaChecked
import GoSem.Claim
import GoSem.ClaimJoined
import GoSem.ClaimMapViews
import Derived.JoinedTies
import Derived.KernelRfl
namespace Go.Proofs.Ythepgngekfoheaa
/- THE CELL 'sum', in the pinned program and in every row, IS THE sha256 OF THE DUMP (.gsa) THAT YthepgngekfoheaaProg.lean LOADS. Nothing in Lean hashes anything: it is a label: what it is worth is what the hold of that sum in a sandbox is worth. -/
noncomputable def Try.pinned : Pinned := { name := "ythepgngekfoheaa", sum := "3d950498a449b4c4802889c11abaa4fb7a6dac8e03b703ba7639ab809c513d62", checked := Try.checked }
namespace Rows
def none {H : Type} : Left H := { results := [], args := [] }

/-- 'magnetolaw47.DiagnoseAnswers': WHATEVER THE INPUT: true; the input reads as it did. -/
def diagnoseAnswersSpec : ChangeSpec := { name := "diagnoseAnswers", fn := fun _ => fun
  | [d1, d2] => { results := [.lit (.bool true)], args := [d1, d2] }
  | _ => none }
def diagnoseAnswersRow : OpenClaim := { program := "ythepgngekfoheaa", sum := "3d950498a449b4c4802889c11abaa4fb7a6dac8e03b703ba7639ab809c513d62", func := "magneto/magnetolaw47.DiagnoseAnswers", spec := "diagnoseAnswers", unfollowed := true, recurses := true, apart := false }
def DiagnoseAnswersSaid : Prop := diagnoseAnswersRow.holds Try.pinned (OpenSpec.ofChange diagnoseAnswersSpec)

/-- ITS FALSE NEIGHBOUR: 'it returns false'. Refute it at one input. -/
def diagnoseAnswersWrong : ChangeSpec := { name := "diagnoseAnswers", fn := fun _ => fun
  | [d1, d2] => { results := [.lit (.bool false)], args := [d1, d2] }
  | _ => none }
def DiagnoseAnswersWrongFalsely : Prop := diagnoseAnswersRow.holds Try.pinned (OpenSpec.ofChange diagnoseAnswersWrong)

/-- 'magnetolaw47.DiagnoseLocked': WHATEVER THE INPUT: true; the input reads as it did. -/
def diagnoseLockedSpec : ChangeSpec := { name := "diagnoseLocked", fn := fun _ => fun
  | [d1, d2, d3] => { results := [.lit (.bool true)], args := [d1, d2, d3] }
  | _ => none }
def diagnoseLockedRow : OpenClaim := { program := "ythepgngekfoheaa", sum := "3d950498a449b4c4802889c11abaa4fb7a6dac8e03b703ba7639ab809c513d62", func := "magneto/magnetolaw47.DiagnoseLocked", spec := "diagnoseLocked", unfollowed := true, recurses := true, apart := false }
def DiagnoseLockedSaid : Prop := diagnoseLockedRow.holds Try.pinned (OpenSpec.ofChange diagnoseLockedSpec)

/-- ITS FALSE NEIGHBOUR: 'it returns false'. Refute it at one input. -/
def diagnoseLockedWrong : ChangeSpec := { name := "diagnoseLocked", fn := fun _ => fun
  | [d1, d2, d3] => { results := [.lit (.bool false)], args := [d1, d2, d3] }
  | _ => none }
def DiagnoseLockedWrongFalsely : Prop := diagnoseLockedRow.holds Try.pinned (OpenSpec.ofChange diagnoseLockedWrong)

/-- 'magnetolaw47.DiagnoseEnds': WHATEVER THE INPUT: true; the input reads as it did. -/
def diagnoseEndsSpec : ChangeSpec := { name := "diagnoseEnds", fn := fun _ => fun
  | [d1, d2] => { results := [.lit (.bool true)], args := [d1, d2] }
  | _ => none }
def diagnoseEndsRow : OpenClaim := { program := "ythepgngekfoheaa", sum := "3d950498a449b4c4802889c11abaa4fb7a6dac8e03b703ba7639ab809c513d62", func := "magneto/magnetolaw47.DiagnoseEnds", spec := "diagnoseEnds", unfollowed := true, recurses := true, apart := false }
def DiagnoseEndsSaid : Prop := diagnoseEndsRow.holds Try.pinned (OpenSpec.ofChange diagnoseEndsSpec)

/-- ITS FALSE NEIGHBOUR: 'it returns false'. Refute it at one input. -/
def diagnoseEndsWrong : ChangeSpec := { name := "diagnoseEnds", fn := fun _ => fun
  | [d1, d2] => { results := [.lit (.bool false)], args := [d1, d2] }
  | _ => none }
def DiagnoseEndsWrongFalsely : Prop := diagnoseEndsRow.holds Try.pinned (OpenSpec.ofChange diagnoseEndsWrong)

/-- 'magnetolaw47.DiagnoseReads': WHATEVER THE INPUT: true; the input reads as it did. -/
def diagnoseReadsSpec : ChangeSpec := { name := "diagnoseReads", fn := fun _ => fun
  | [d1, d2, d3, d4] => { results := [.lit (.bool true)], args := [d1, d2, d3, d4] }
  | _ => none }
def diagnoseReadsRow : OpenClaim := { program := "ythepgngekfoheaa", sum := "3d950498a449b4c4802889c11abaa4fb7a6dac8e03b703ba7639ab809c513d62", func := "magneto/magnetolaw47.DiagnoseReads", spec := "diagnoseReads", unfollowed := true, recurses := true, apart := false }
def DiagnoseReadsSaid : Prop := diagnoseReadsRow.holds Try.pinned (OpenSpec.ofChange diagnoseReadsSpec)

/-- ITS FALSE NEIGHBOUR: 'it returns false'. Refute it at one input. -/
def diagnoseReadsWrong : ChangeSpec := { name := "diagnoseReads", fn := fun _ => fun
  | [d1, d2, d3, d4] => { results := [.lit (.bool false)], args := [d1, d2, d3, d4] }
  | _ => none }
def DiagnoseReadsWrongFalsely : Prop := diagnoseReadsRow.holds Try.pinned (OpenSpec.ofChange diagnoseReadsWrong)

/-- 'magnetolaw47.DiagnoseReports': WHATEVER THE INPUT: true; the input reads as it did. -/
def diagnoseReportsSpec : ChangeSpec := { name := "diagnoseReports", fn := fun _ => fun
  | [d1, d2] => { results := [.lit (.bool true)], args := [d1, d2] }
  | _ => none }
def diagnoseReportsRow : OpenClaim := { program := "ythepgngekfoheaa", sum := "3d950498a449b4c4802889c11abaa4fb7a6dac8e03b703ba7639ab809c513d62", func := "magneto/magnetolaw47.DiagnoseReports", spec := "diagnoseReports", unfollowed := true, recurses := true, apart := false }
def DiagnoseReportsSaid : Prop := diagnoseReportsRow.holds Try.pinned (OpenSpec.ofChange diagnoseReportsSpec)

/-- ITS FALSE NEIGHBOUR: 'it returns false'. Refute it at one input. -/
def diagnoseReportsWrong : ChangeSpec := { name := "diagnoseReports", fn := fun _ => fun
  | [d1, d2] => { results := [.lit (.bool false)], args := [d1, d2] }
  | _ => none }
def DiagnoseReportsWrongFalsely : Prop := diagnoseReportsRow.holds Try.pinned (OpenSpec.ofChange diagnoseReportsWrong)

/- THE SECOND FORM. 'bulk': how many values and letters a reading holds, each counted each time it is reached (what is shared counts as often as it is met; a slice's spare places count too). A statement '..UptoSaid' is the law's where the arguments, and the package variables that the reading takes, are together of bulk at most 1048576: NARROWER than '..Said'. Prove '..Said' where nothing that the law and all that it calls make is longer than what came in: it says more and counts as full. Else prove '..UptoSaid'. A law counts once. -/
mutual
def uptoBulk {H : Type} : DataW H → Nat
  | .lit (.string bytes) => bytes.length + 1
  | .lit _ => 1
  | .nil => 1
  | .ptr d => uptoBulk d + 1
  | .slice elems spare => uptoBulkAll elems + uptoBulkAll spare + 1
  | .agg parts => uptoBulkAll parts + 1
  | .iface _ d => uptoBulk d + 1
  | .map entries => uptoBulkEntries entries + 1
  | .held _ => 1
def uptoBulkAll {H : Type} : List (DataW H) → Nat
  | [] => 0
  | d :: r => uptoBulk d + uptoBulkAll r
def uptoBulkEntries {H : Type} : List (Lit × DataW H) → Nat
  | [] => 0
  | x :: r => uptoBulkEntry x + uptoBulkEntries r
def uptoBulkEntry {H : Type} : Lit × DataW H → Nat
  | (.string bytes, d) => bytes.length + uptoBulk d + 1
  | (_, d) => uptoBulk d + 1
 end
def uptoSmall : (H : Type) → List (DataW H) → Bool := fun _ ds => decide (uptoBulkAll ds ≤ 1048576)
def OpenSpec.upto (s : _root_.Go.ChangeSpec) : _root_.Go.OpenSpec := { _root_.Go.OpenSpec.ofChange s with cond := some uptoSmall }

/-- 'magnetolaw47.DiagnoseAnswers', WHERE WHAT IT READS IS OF BULK AT MOST 1048576: true; the input reads as it did. -/
def diagnoseAnswersUptoRow : OpenClaim := { program := "ythepgngekfoheaa", sum := "3d950498a449b4c4802889c11abaa4fb7a6dac8e03b703ba7639ab809c513d62", func := "magneto/magnetolaw47.DiagnoseAnswers", spec := "diagnoseAnswers", unfollowed := true, recurses := true, apart := false, narrowed := true }
def DiagnoseAnswersUptoSaid : Prop := diagnoseAnswersUptoRow.holds Try.pinned (OpenSpec.upto diagnoseAnswersSpec)

/-- 'magnetolaw47.DiagnoseLocked', WHERE WHAT IT READS IS OF BULK AT MOST 1048576: true; the input reads as it did. -/
def diagnoseLockedUptoRow : OpenClaim := { program := "ythepgngekfoheaa", sum := "3d950498a449b4c4802889c11abaa4fb7a6dac8e03b703ba7639ab809c513d62", func := "magneto/magnetolaw47.DiagnoseLocked", spec := "diagnoseLocked", unfollowed := true, recurses := true, apart := false, narrowed := true }
def DiagnoseLockedUptoSaid : Prop := diagnoseLockedUptoRow.holds Try.pinned (OpenSpec.upto diagnoseLockedSpec)

/-- 'magnetolaw47.DiagnoseEnds', WHERE WHAT IT READS IS OF BULK AT MOST 1048576: true; the input reads as it did. -/
def diagnoseEndsUptoRow : OpenClaim := { program := "ythepgngekfoheaa", sum := "3d950498a449b4c4802889c11abaa4fb7a6dac8e03b703ba7639ab809c513d62", func := "magneto/magnetolaw47.DiagnoseEnds", spec := "diagnoseEnds", unfollowed := true, recurses := true, apart := false, narrowed := true }
def DiagnoseEndsUptoSaid : Prop := diagnoseEndsUptoRow.holds Try.pinned (OpenSpec.upto diagnoseEndsSpec)

/-- 'magnetolaw47.DiagnoseReads', WHERE WHAT IT READS IS OF BULK AT MOST 1048576: true; the input reads as it did. -/
def diagnoseReadsUptoRow : OpenClaim := { program := "ythepgngekfoheaa", sum := "3d950498a449b4c4802889c11abaa4fb7a6dac8e03b703ba7639ab809c513d62", func := "magneto/magnetolaw47.DiagnoseReads", spec := "diagnoseReads", unfollowed := true, recurses := true, apart := false, narrowed := true }
def DiagnoseReadsUptoSaid : Prop := diagnoseReadsUptoRow.holds Try.pinned (OpenSpec.upto diagnoseReadsSpec)

/-- 'magnetolaw47.DiagnoseReports', WHERE WHAT IT READS IS OF BULK AT MOST 1048576: true; the input reads as it did. -/
def diagnoseReportsUptoRow : OpenClaim := { program := "ythepgngekfoheaa", sum := "3d950498a449b4c4802889c11abaa4fb7a6dac8e03b703ba7639ab809c513d62", func := "magneto/magnetolaw47.DiagnoseReports", spec := "diagnoseReports", unfollowed := true, recurses := true, apart := false, narrowed := true }
def DiagnoseReportsUptoSaid : Prop := diagnoseReportsUptoRow.holds Try.pinned (OpenSpec.upto diagnoseReportsSpec)

end Rows
end Go.Proofs.Ythepgngekfoheaa
