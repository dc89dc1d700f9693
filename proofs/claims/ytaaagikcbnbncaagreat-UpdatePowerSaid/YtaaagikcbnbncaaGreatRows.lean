/-
  No cell of these rows narrows 'for every input' (looked for: loops, veiled, ifaces, maps, wideKeys, modest, calm, conditions, laid).
  DERIVED. THE GIVEN ROWS OF THIS SEAT. 4 by the template 'for every input the law returns true; each argument reads behind the call as it read before'; 0 by the template 'total and deterministic' (their statements: YtaaagikcbnbncaaGreatTotals.lean).
  GIVEN WITH THE SEED: the statements are not yours to turn. If you find one false, say at which input.
  Laid BY PROGRAM, IN A SANDBOX (cutbox-rows.mjs): the forced cells as the released guide's own fill.sh prints them over the translation f9a3da36e32ff69a… (all of the seat's roots in one cut). By AI agents, Wed Nov 11 2026. No macro, syntax, notation, axiom, sorry.
-/
import Derived.Test.YtaaagikcbnbncaaGreatChecked
import GoSem.Claim
import GoSem.ClaimJoined
import GoSem.ClaimMapViews
import Derived.JoinedTies
import Derived.KernelRfl
namespace Go.Proofs.YtaaagikcbnbncaaGreat
/- THE CELL 'sum', in the pinned program and in every row, IS THE sha256 OF THE DUMP (.gsa) THAT YtaaagikcbnbncaaGreatProg.lean LOADS. Nothing in Lean hashes anything: it is a label: what it is worth is what the hold of that sum in a sandbox is worth. -/
noncomputable def Tryz.pinned : Pinned := { name := "ytaaagikcbnbncaagreat", sum := "f9a3da36e32ff69af5fe3ab931769cbcccb54966f8a463ba9b57daf56d2a99b9", checked := Tryz.checked }
namespace Rows
def none {H : Type} : Left H := { results := [], args := [] }

/-- 'magnetolaw55.UpdateBegins': WHATEVER THE INPUT: true; the input reads as it did. -/
def updateBeginsSpec : ChangeSpec := { name := "updateBegins", fn := fun _ => fun
  | [d1, d2, d3, d4] => { results := [.lit (.bool true)], args := [d1, d2, d3, d4] }
  | _ => none }
def updateBeginsRow : OpenClaim := { program := "ytaaagikcbnbncaagreat", sum := "f9a3da36e32ff69af5fe3ab931769cbcccb54966f8a463ba9b57daf56d2a99b9", func := "magneto/magnetolaw55.UpdateBegins", spec := "updateBegins", unfollowed := true, recurses := true, apart := false }
def UpdateBeginsSaid : Prop := updateBeginsRow.holds Tryz.pinned (OpenSpec.ofChange updateBeginsSpec)

/-- ITS FALSE NEIGHBOUR: 'it returns false'. Refute it at one input. -/
def updateBeginsWrong : ChangeSpec := { name := "updateBegins", fn := fun _ => fun
  | [d1, d2, d3, d4] => { results := [.lit (.bool false)], args := [d1, d2, d3, d4] }
  | _ => none }
def UpdateBeginsWrongFalsely : Prop := updateBeginsRow.holds Tryz.pinned (OpenSpec.ofChange updateBeginsWrong)

/-- 'magnetolaw55.UpdateFinishes': WHATEVER THE INPUT: true; the input reads as it did. -/
def updateFinishesSpec : ChangeSpec := { name := "updateFinishes", fn := fun _ => fun
  | [d1, d2, d3] => { results := [.lit (.bool true)], args := [d1, d2, d3] }
  | _ => none }
def updateFinishesRow : OpenClaim := { program := "ytaaagikcbnbncaagreat", sum := "f9a3da36e32ff69af5fe3ab931769cbcccb54966f8a463ba9b57daf56d2a99b9", func := "magneto/magnetolaw55.UpdateFinishes", spec := "updateFinishes", unfollowed := true, recurses := true, apart := false }
def UpdateFinishesSaid : Prop := updateFinishesRow.holds Tryz.pinned (OpenSpec.ofChange updateFinishesSpec)

/-- ITS FALSE NEIGHBOUR: 'it returns false'. Refute it at one input. -/
def updateFinishesWrong : ChangeSpec := { name := "updateFinishes", fn := fun _ => fun
  | [d1, d2, d3] => { results := [.lit (.bool false)], args := [d1, d2, d3] }
  | _ => none }
def UpdateFinishesWrongFalsely : Prop := updateFinishesRow.holds Tryz.pinned (OpenSpec.ofChange updateFinishesWrong)

/-- 'magnetolaw55.UpdateInstalls': WHATEVER THE INPUT: true; the input reads as it did. -/
def updateInstallsSpec : ChangeSpec := { name := "updateInstalls", fn := fun _ => fun
  | [d1, d2, d3, d4] => { results := [.lit (.bool true)], args := [d1, d2, d3, d4] }
  | _ => none }
def updateInstallsRow : OpenClaim := { program := "ytaaagikcbnbncaagreat", sum := "f9a3da36e32ff69af5fe3ab931769cbcccb54966f8a463ba9b57daf56d2a99b9", func := "magneto/magnetolaw55.UpdateInstalls", spec := "updateInstalls", unfollowed := true, recurses := true, apart := false }
def UpdateInstallsSaid : Prop := updateInstallsRow.holds Tryz.pinned (OpenSpec.ofChange updateInstallsSpec)

/-- ITS FALSE NEIGHBOUR: 'it returns false'. Refute it at one input. -/
def updateInstallsWrong : ChangeSpec := { name := "updateInstalls", fn := fun _ => fun
  | [d1, d2, d3, d4] => { results := [.lit (.bool false)], args := [d1, d2, d3, d4] }
  | _ => none }
def UpdateInstallsWrongFalsely : Prop := updateInstallsRow.holds Tryz.pinned (OpenSpec.ofChange updateInstallsWrong)

/-- 'magnetolaw55.UpdatePower': WHATEVER THE INPUT: true; the input reads as it did. -/
def updatePowerSpec : ChangeSpec := { name := "updatePower", fn := fun _ => fun
  | [d1, d2, d3, d4] => { results := [.lit (.bool true)], args := [d1, d2, d3, d4] }
  | _ => none }
def updatePowerRow : OpenClaim := { program := "ytaaagikcbnbncaagreat", sum := "f9a3da36e32ff69af5fe3ab931769cbcccb54966f8a463ba9b57daf56d2a99b9", func := "magneto/magnetolaw55.UpdatePower", spec := "updatePower", unfollowed := true, recurses := true, apart := false }
def UpdatePowerSaid : Prop := updatePowerRow.holds Tryz.pinned (OpenSpec.ofChange updatePowerSpec)

/-- ITS FALSE NEIGHBOUR: 'it returns false'. Refute it at one input. -/
def updatePowerWrong : ChangeSpec := { name := "updatePower", fn := fun _ => fun
  | [d1, d2, d3, d4] => { results := [.lit (.bool false)], args := [d1, d2, d3, d4] }
  | _ => none }
def UpdatePowerWrongFalsely : Prop := updatePowerRow.holds Tryz.pinned (OpenSpec.ofChange updatePowerWrong)

/- THE SECOND FORM. 'bulk': how many values and letters a reading holds, each counted each time it is reached (what is shared counts as often as it is met; a slice's spare places count too). A statement '..UptoSaid' is the law's where the arguments, and the package variables that the reading takes, are together of bulk at most 1048576: NARROWER than '..Said'. Prove '..Said' where nothing that the law and all that it calls make is longer than what came in: it says more and counts as full. Else prove '..UptoSaid'. A law counts once. -/
mutual
def uptoBulk {H : Type} : DataW H → Nat
  | .lit (.string bytes) => bytes.length + 1
  | .lit _ => 1
  | .nil => 1
  | .ptr d => uptoBulk d + 1
  | .slice elems spare => uptoBulkAll elems + uptoBulkAll spare + 1
  | .agg parts => uptoBulkAll parts + 1
  | .iface _ d => uptoBulk d + 1
  | .map entries => uptoBulkEntries entries + 1
  | .held _ => 1
def uptoBulkAll {H : Type} : List (DataW H) → Nat
  | [] => 0
  | d :: r => uptoBulk d + uptoBulkAll r
def uptoBulkEntries {H : Type} : List (Lit × DataW H) → Nat
  | [] => 0
  | x :: r => uptoBulkEntry x + uptoBulkEntries r
def uptoBulkEntry {H : Type} : Lit × DataW H → Nat
  | (.string bytes, d) => bytes.length + uptoBulk d + 1
  | (_, d) => uptoBulk d + 1
 end
def uptoSmall : (H : Type) → List (DataW H) → Bool := fun _ ds => decide (uptoBulkAll ds ≤ 1048576)
def OpenSpec.upto (s : _root_.Go.ChangeSpec) : _root_.Go.OpenSpec := { _root_.Go.OpenSpec.ofChange s with cond := some uptoSmall }

/-- 'magnetolaw55.UpdateBegins', WHERE WHAT IT READS IS OF BULK AT MOST 1048576: true; the input reads as it did. -/
def updateBeginsUptoRow : OpenClaim := { program := "ytaaagikcbnbncaagreat", sum := "f9a3da36e32ff69af5fe3ab931769cbcccb54966f8a463ba9b57daf56d2a99b9", func := "magneto/magnetolaw55.UpdateBegins", spec := "updateBegins", unfollowed := true, recurses := true, apart := false, narrowed := true }
def UpdateBeginsUptoSaid : Prop := updateBeginsUptoRow.holds Tryz.pinned (OpenSpec.upto updateBeginsSpec)

/-- 'magnetolaw55.UpdateFinishes', WHERE WHAT IT READS IS OF BULK AT MOST 1048576: true; the input reads as it did. -/
def updateFinishesUptoRow : OpenClaim := { program := "ytaaagikcbnbncaagreat", sum := "f9a3da36e32ff69af5fe3ab931769cbcccb54966f8a463ba9b57daf56d2a99b9", func := "magneto/magnetolaw55.UpdateFinishes", spec := "updateFinishes", unfollowed := true, recurses := true, apart := false, narrowed := true }
def UpdateFinishesUptoSaid : Prop := updateFinishesUptoRow.holds Tryz.pinned (OpenSpec.upto updateFinishesSpec)

/-- 'magnetolaw55.UpdateInstalls', WHERE WHAT IT READS IS OF BULK AT MOST 1048576: true; the input reads as it did. -/
def updateInstallsUptoRow : OpenClaim := { program := "ytaaagikcbnbncaagreat", sum := "f9a3da36e32ff69af5fe3ab931769cbcccb54966f8a463ba9b57daf56d2a99b9", func := "magneto/magnetolaw55.UpdateInstalls", spec := "updateInstalls", unfollowed := true, recurses := true, apart := false, narrowed := true }
def UpdateInstallsUptoSaid : Prop := updateInstallsUptoRow.holds Tryz.pinned (OpenSpec.upto updateInstallsSpec)

/-- 'magnetolaw55.UpdatePower', WHERE WHAT IT READS IS OF BULK AT MOST 1048576: true; the input reads as it did. -/
def updatePowerUptoRow : OpenClaim := { program := "ytaaagikcbnbncaagreat", sum := "f9a3da36e32ff69af5fe3ab931769cbcccb54966f8a463ba9b57daf56d2a99b9", func := "magneto/magnetolaw55.UpdatePower", spec := "updatePower", unfollowed := true, recurses := true, apart := false, narrowed := true }
def UpdatePowerUptoSaid : Prop := updatePowerUptoRow.holds Tryz.pinned (OpenSpec.upto updatePowerSpec)

end Rows
end Go.Proofs.YtaaagikcbnbncaaGreat
