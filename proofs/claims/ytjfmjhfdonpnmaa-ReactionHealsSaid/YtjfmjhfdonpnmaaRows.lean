/-
  No cell of these rows narrows 'for every input' (looked for: loops, veiled, ifaces, maps, wideKeys, modest, calm, conditions, laid).
  DERIVED. THE GIVEN ROWS OF THIS SEAT. 5 by the template 'for every input the law returns true; each argument reads behind the call as it read before'; 0 by the template 'total and deterministic' (their statements: YtjfmjhfdonpnmaaTotals.lean).
  GIVEN WITH THE SEED: the statements are not yours to turn. If you find one false, say at which input.
  Laid BY PROGRAM, IN A SANDBOX (cutbox-rows.mjs): the forced cells as the released guide's own fill.sh prints them over the translation 33361e37f39f60d8… (all of the seat's roots in one cut). By AI agents, Wed Nov 11 2026. No macro, syntax, notation, axiom, sorry.
-/
import Derived.Test.YtjfmjhfdonpnmaaChecked
import GoSem.Claim
import GoSem.ClaimJoined
import GoSem.ClaimMapViews
import Derived.JoinedTies
import Derived.KernelRfl
namespace Go.Proofs.Ytjfmjhfdonpnmaa
/- THE CELL 'sum', in the pinned program and in every row, IS THE sha256 OF THE DUMP (.gsa) THAT YtjfmjhfdonpnmaaProg.lean LOADS. Nothing in Lean hashes anything: it is a label: what it is worth is what the hold of that sum in a sandbox is worth. -/
noncomputable def Try.pinned : Pinned := { name := "ytjfmjhfdonpnmaa", sum := "33361e37f39f60d86964ac3668879159ed45436af4f26d0d0ae95418c66adc1b", checked := Try.checked }
namespace Rows
def none {H : Type} : Left H := { results := [], args := [] }

/-- 'magnetolaw48.ReactionLimits': WHATEVER THE INPUT: true; the input reads as it did. -/
def reactionLimitsSpec : ChangeSpec := { name := "reactionLimits", fn := fun _ => fun
  | [d1, d2, d3, d4] => { results := [.lit (.bool true)], args := [d1, d2, d3, d4] }
  | _ => none }
def reactionLimitsRow : OpenClaim := { program := "ytjfmjhfdonpnmaa", sum := "33361e37f39f60d86964ac3668879159ed45436af4f26d0d0ae95418c66adc1b", func := "magneto/magnetolaw48.ReactionLimits", spec := "reactionLimits", unfollowed := true, recurses := true, apart := false }
def ReactionLimitsSaid : Prop := reactionLimitsRow.holds Try.pinned (OpenSpec.ofChange reactionLimitsSpec)

/-- ITS FALSE NEIGHBOUR: 'it returns false'. Refute it at one input. -/
def reactionLimitsWrong : ChangeSpec := { name := "reactionLimits", fn := fun _ => fun
  | [d1, d2, d3, d4] => { results := [.lit (.bool false)], args := [d1, d2, d3, d4] }
  | _ => none }
def ReactionLimitsWrongFalsely : Prop := reactionLimitsRow.holds Try.pinned (OpenSpec.ofChange reactionLimitsWrong)

/-- 'magnetolaw48.ReactionFalls': WHATEVER THE INPUT: true; the input reads as it did. -/
def reactionFallsSpec : ChangeSpec := { name := "reactionFalls", fn := fun _ => fun
  | [d1, d2, d3, d4, d5] => { results := [.lit (.bool true)], args := [d1, d2, d3, d4, d5] }
  | _ => none }
def reactionFallsRow : OpenClaim := { program := "ytjfmjhfdonpnmaa", sum := "33361e37f39f60d86964ac3668879159ed45436af4f26d0d0ae95418c66adc1b", func := "magneto/magnetolaw48.ReactionFalls", spec := "reactionFalls", unfollowed := true, recurses := true, apart := false }
def ReactionFallsSaid : Prop := reactionFallsRow.holds Try.pinned (OpenSpec.ofChange reactionFallsSpec)

/-- ITS FALSE NEIGHBOUR: 'it returns false'. Refute it at one input. -/
def reactionFallsWrong : ChangeSpec := { name := "reactionFalls", fn := fun _ => fun
  | [d1, d2, d3, d4, d5] => { results := [.lit (.bool false)], args := [d1, d2, d3, d4, d5] }
  | _ => none }
def ReactionFallsWrongFalsely : Prop := reactionFallsRow.holds Try.pinned (OpenSpec.ofChange reactionFallsWrong)

/-- 'magnetolaw48.ReactionExplains': WHATEVER THE INPUT: true; the input reads as it did. -/
def reactionExplainsSpec : ChangeSpec := { name := "reactionExplains", fn := fun _ => fun
  | [d1, d2, d3] => { results := [.lit (.bool true)], args := [d1, d2, d3] }
  | _ => none }
def reactionExplainsRow : OpenClaim := { program := "ytjfmjhfdonpnmaa", sum := "33361e37f39f60d86964ac3668879159ed45436af4f26d0d0ae95418c66adc1b", func := "magneto/magnetolaw48.ReactionExplains", spec := "reactionExplains", unfollowed := true, recurses := true, apart := false }
def ReactionExplainsSaid : Prop := reactionExplainsRow.holds Try.pinned (OpenSpec.ofChange reactionExplainsSpec)

/-- ITS FALSE NEIGHBOUR: 'it returns false'. Refute it at one input. -/
def reactionExplainsWrong : ChangeSpec := { name := "reactionExplains", fn := fun _ => fun
  | [d1, d2, d3] => { results := [.lit (.bool false)], args := [d1, d2, d3] }
  | _ => none }
def ReactionExplainsWrongFalsely : Prop := reactionExplainsRow.holds Try.pinned (OpenSpec.ofChange reactionExplainsWrong)

/-- 'magnetolaw48.ReactionHeals': WHATEVER THE INPUT: true; the input reads as it did. -/
def reactionHealsSpec : ChangeSpec := { name := "reactionHeals", fn := fun _ => fun
  | [d1, d2, d3, d4] => { results := [.lit (.bool true)], args := [d1, d2, d3, d4] }
  | _ => none }
def reactionHealsRow : OpenClaim := { program := "ytjfmjhfdonpnmaa", sum := "33361e37f39f60d86964ac3668879159ed45436af4f26d0d0ae95418c66adc1b", func := "magneto/magnetolaw48.ReactionHeals", spec := "reactionHeals", unfollowed := true, recurses := true, apart := false }
def ReactionHealsSaid : Prop := reactionHealsRow.holds Try.pinned (OpenSpec.ofChange reactionHealsSpec)

/-- ITS FALSE NEIGHBOUR: 'it returns false'. Refute it at one input. -/
def reactionHealsWrong : ChangeSpec := { name := "reactionHeals", fn := fun _ => fun
  | [d1, d2, d3, d4] => { results := [.lit (.bool false)], args := [d1, d2, d3, d4] }
  | _ => none }
def ReactionHealsWrongFalsely : Prop := reactionHealsRow.holds Try.pinned (OpenSpec.ofChange reactionHealsWrong)

/-- 'magnetolaw48.ReactionWithout': WHATEVER THE INPUT: true; the input reads as it did. -/
def reactionWithoutSpec : ChangeSpec := { name := "reactionWithout", fn := fun _ => fun
  | [d1, d2, d3] => { results := [.lit (.bool true)], args := [d1, d2, d3] }
  | _ => none }
def reactionWithoutRow : OpenClaim := { program := "ytjfmjhfdonpnmaa", sum := "33361e37f39f60d86964ac3668879159ed45436af4f26d0d0ae95418c66adc1b", func := "magneto/magnetolaw48.ReactionWithout", spec := "reactionWithout", unfollowed := true, recurses := true, apart := false }
def ReactionWithoutSaid : Prop := reactionWithoutRow.holds Try.pinned (OpenSpec.ofChange reactionWithoutSpec)

/-- ITS FALSE NEIGHBOUR: 'it returns false'. Refute it at one input. -/
def reactionWithoutWrong : ChangeSpec := { name := "reactionWithout", fn := fun _ => fun
  | [d1, d2, d3] => { results := [.lit (.bool false)], args := [d1, d2, d3] }
  | _ => none }
def ReactionWithoutWrongFalsely : Prop := reactionWithoutRow.holds Try.pinned (OpenSpec.ofChange reactionWithoutWrong)

/- THE SECOND FORM. 'bulk': how many values and letters a reading holds, each counted each time it is reached (what is shared counts as often as it is met; a slice's spare places count too). A statement '..UptoSaid' is the law's where the arguments, and the package variables that the reading takes, are together of bulk at most 1048576: NARROWER than '..Said'. Prove '..Said' where nothing that the law and all that it calls make is longer than what came in: it says more and counts as full. Else prove '..UptoSaid'. A law counts once. -/
mutual
def uptoBulk {H : Type} : DataW H → Nat
  | .lit (.string bytes) => bytes.length + 1
  | .lit _ => 1
  | .nil => 1
  | .ptr d => uptoBulk d + 1
  | .slice elems spare => uptoBulkAll elems + uptoBulkAll spare + 1
  | .agg parts => uptoBulkAll parts + 1
  | .iface _ d => uptoBulk d + 1
  | .map entries => uptoBulkEntries entries + 1
  | .held _ => 1
def uptoBulkAll {H : Type} : List (DataW H) → Nat
  | [] => 0
  | d :: r => uptoBulk d + uptoBulkAll r
def uptoBulkEntries {H : Type} : List (Lit × DataW H) → Nat
  | [] => 0
  | x :: r => uptoBulkEntry x + uptoBulkEntries r
def uptoBulkEntry {H : Type} : Lit × DataW H → Nat
  | (.string bytes, d) => bytes.length + uptoBulk d + 1
  | (_, d) => uptoBulk d + 1
 end
def uptoSmall : (H : Type) → List (DataW H) → Bool := fun _ ds => decide (uptoBulkAll ds ≤ 1048576)
def OpenSpec.upto (s : _root_.Go.ChangeSpec) : _root_.Go.OpenSpec := { _root_.Go.OpenSpec.ofChange s with cond := some uptoSmall }

/-- 'magnetolaw48.ReactionLimits', WHERE WHAT IT READS IS OF BULK AT MOST 1048576: true; the input reads as it did. -/
def reactionLimitsUptoRow : OpenClaim := { program := "ytjfmjhfdonpnmaa", sum := "33361e37f39f60d86964ac3668879159ed45436af4f26d0d0ae95418c66adc1b", func := "magneto/magnetolaw48.ReactionLimits", spec := "reactionLimits", unfollowed := true, recurses := true, apart := false, narrowed := true }
def ReactionLimitsUptoSaid : Prop := reactionLimitsUptoRow.holds Try.pinned (OpenSpec.upto reactionLimitsSpec)

/-- 'magnetolaw48.ReactionFalls', WHERE WHAT IT READS IS OF BULK AT MOST 1048576: true; the input reads as it did. -/
def reactionFallsUptoRow : OpenClaim := { program := "ytjfmjhfdonpnmaa", sum := "33361e37f39f60d86964ac3668879159ed45436af4f26d0d0ae95418c66adc1b", func := "magneto/magnetolaw48.ReactionFalls", spec := "reactionFalls", unfollowed := true, recurses := true, apart := false, narrowed := true }
def ReactionFallsUptoSaid : Prop := reactionFallsUptoRow.holds Try.pinned (OpenSpec.upto reactionFallsSpec)

/-- 'magnetolaw48.ReactionExplains', WHERE WHAT IT READS IS OF BULK AT MOST 1048576: true; the input reads as it did. -/
def reactionExplainsUptoRow : OpenClaim := { program := "ytjfmjhfdonpnmaa", sum := "33361e37f39f60d86964ac3668879159ed45436af4f26d0d0ae95418c66adc1b", func := "magneto/magnetolaw48.ReactionExplains", spec := "reactionExplains", unfollowed := true, recurses := true, apart := false, narrowed := true }
def ReactionExplainsUptoSaid : Prop := reactionExplainsUptoRow.holds Try.pinned (OpenSpec.upto reactionExplainsSpec)

/-- 'magnetolaw48.ReactionHeals', WHERE WHAT IT READS IS OF BULK AT MOST 1048576: true; the input reads as it did. -/
def reactionHealsUptoRow : OpenClaim := { program := "ytjfmjhfdonpnmaa", sum := "33361e37f39f60d86964ac3668879159ed45436af4f26d0d0ae95418c66adc1b", func := "magneto/magnetolaw48.ReactionHeals", spec := "reactionHeals", unfollowed := true, recurses := true, apart := false, narrowed := true }
def ReactionHealsUptoSaid : Prop := reactionHealsUptoRow.holds Try.pinned (OpenSpec.upto reactionHealsSpec)

/-- 'magnetolaw48.ReactionWithout', WHERE WHAT IT READS IS OF BULK AT MOST 1048576: true; the input reads as it did. -/
def reactionWithoutUptoRow : OpenClaim := { program := "ytjfmjhfdonpnmaa", sum := "33361e37f39f60d86964ac3668879159ed45436af4f26d0d0ae95418c66adc1b", func := "magneto/magnetolaw48.ReactionWithout", spec := "reactionWithout", unfollowed := true, recurses := true, apart := false, narrowed := true }
def ReactionWithoutUptoSaid : Prop := reactionWithoutUptoRow.holds Try.pinned (OpenSpec.upto reactionWithoutSpec)

end Rows
end Go.Proofs.Ytjfmjhfdonpnmaa
