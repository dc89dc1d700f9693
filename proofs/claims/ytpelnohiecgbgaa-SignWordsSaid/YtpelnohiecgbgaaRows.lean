/-
  No cell of these rows narrows 'for every input' (looked for: loops, veiled, ifaces, maps, wideKeys, modest, calm, conditions, laid).
  DERIVED. THE GIVEN ROWS OF THIS SEAT. 7 by the template 'for every input the law returns true; each argument reads behind the call as it read before'; 0 by the template 'total and deterministic' (their statements: YtpelnohiecgbgaaTotals.lean).
  GIVEN WITH THE SEED: the statements are not yours to turn. If you find one false, say at which input.
  Laid BY PROGRAM, IN A SANDBOX (cutbox-rows.mjs): the forced cells as the released guide's own fill.sh prints them over the translation 89ec2f2c9327011d… (all of the seat's roots in one cut). By AI agents, Wed Nov 11 2026. No macro, syntax, notation, axiom, sorry.
-/
import Derived.Test.YtpelnohiecgbgaaChecked
import GoSem.Claim
import GoSem.ClaimJoined
import GoSem.ClaimMapViews
import Derived.JoinedTies
import Derived.KernelRfl
namespace Go.Proofs.Ytpelnohiecgbgaa
/- THE CELL 'sum', in the pinned program and in every row, IS THE sha256 OF THE DUMP (.gsa) THAT YtpelnohiecgbgaaProg.lean LOADS. Nothing in Lean hashes anything: it is a label: what it is worth is what the hold of that sum in a sandbox is worth. -/
noncomputable def Try.pinned : Pinned := { name := "ytpelnohiecgbgaa", sum := "89ec2f2c9327011d8acb15dcf11cd87e65ee54cfa25d50ce070fe4a336bad530", checked := Try.checked }
namespace Rows
def none {H : Type} : Left H := { results := [], args := [] }

/-- 'magnetolaw53.SignSums': WHATEVER THE INPUT: true; the input reads as it did. -/
def signSumsSpec : ChangeSpec := { name := "signSums", fn := fun _ => fun
  | [d] => { results := [.lit (.bool true)], args := [d] }
  | _ => none }
def signSumsRow : OpenClaim := { program := "ytpelnohiecgbgaa", sum := "89ec2f2c9327011d8acb15dcf11cd87e65ee54cfa25d50ce070fe4a336bad530", func := "magneto/magnetolaw53.SignSums", spec := "signSums", apart := false }
def SignSumsSaid : Prop := signSumsRow.holds Try.pinned (OpenSpec.ofChange signSumsSpec)

/-- ITS FALSE NEIGHBOUR: 'it returns false'. Refute it at one input. -/
def signSumsWrong : ChangeSpec := { name := "signSums", fn := fun _ => fun
  | [d] => { results := [.lit (.bool false)], args := [d] }
  | _ => none }
def SignSumsWrongFalsely : Prop := signSumsRow.holds Try.pinned (OpenSpec.ofChange signSumsWrong)

/-- 'magnetolaw53.SignDigits': WHATEVER THE INPUT: true; the input reads as it did. -/
def signDigitsSpec : ChangeSpec := { name := "signDigits", fn := fun _ => fun
  | [d1, d2] => { results := [.lit (.bool true)], args := [d1, d2] }
  | _ => none }
def signDigitsRow : OpenClaim := { program := "ytpelnohiecgbgaa", sum := "89ec2f2c9327011d8acb15dcf11cd87e65ee54cfa25d50ce070fe4a336bad530", func := "magneto/magnetolaw53.SignDigits", spec := "signDigits", apart := false }
def SignDigitsSaid : Prop := signDigitsRow.holds Try.pinned (OpenSpec.ofChange signDigitsSpec)

/-- ITS FALSE NEIGHBOUR: 'it returns false'. Refute it at one input. -/
def signDigitsWrong : ChangeSpec := { name := "signDigits", fn := fun _ => fun
  | [d1, d2] => { results := [.lit (.bool false)], args := [d1, d2] }
  | _ => none }
def SignDigitsWrongFalsely : Prop := signDigitsRow.holds Try.pinned (OpenSpec.ofChange signDigitsWrong)

/-- 'magnetolaw53.SignChains': WHATEVER THE INPUT: true; the input reads as it did. -/
def signChainsSpec : ChangeSpec := { name := "signChains", fn := fun _ => fun
  | [d1, d2, d3, d4] => { results := [.lit (.bool true)], args := [d1, d2, d3, d4] }
  | _ => none }
def signChainsRow : OpenClaim := { program := "ytpelnohiecgbgaa", sum := "89ec2f2c9327011d8acb15dcf11cd87e65ee54cfa25d50ce070fe4a336bad530", func := "magneto/magnetolaw53.SignChains", spec := "signChains", apart := false }
def SignChainsSaid : Prop := signChainsRow.holds Try.pinned (OpenSpec.ofChange signChainsSpec)

/-- ITS FALSE NEIGHBOUR: 'it returns false'. Refute it at one input. -/
def signChainsWrong : ChangeSpec := { name := "signChains", fn := fun _ => fun
  | [d1, d2, d3, d4] => { results := [.lit (.bool false)], args := [d1, d2, d3, d4] }
  | _ => none }
def SignChainsWrongFalsely : Prop := signChainsRow.holds Try.pinned (OpenSpec.ofChange signChainsWrong)

/-- 'magnetolaw53.SignVerifies': WHATEVER THE INPUT: true; the input reads as it did. -/
def signVerifiesSpec : ChangeSpec := { name := "signVerifies", fn := fun _ => fun
  | [d1, d2, d3] => { results := [.lit (.bool true)], args := [d1, d2, d3] }
  | _ => none }
def signVerifiesRow : OpenClaim := { program := "ytpelnohiecgbgaa", sum := "89ec2f2c9327011d8acb15dcf11cd87e65ee54cfa25d50ce070fe4a336bad530", func := "magneto/magnetolaw53.SignVerifies", spec := "signVerifies", apart := false }
def SignVerifiesSaid : Prop := signVerifiesRow.holds Try.pinned (OpenSpec.ofChange signVerifiesSpec)

/-- ITS FALSE NEIGHBOUR: 'it returns false'. Refute it at one input. -/
def signVerifiesWrong : ChangeSpec := { name := "signVerifies", fn := fun _ => fun
  | [d1, d2, d3] => { results := [.lit (.bool false)], args := [d1, d2, d3] }
  | _ => none }
def SignVerifiesWrongFalsely : Prop := signVerifiesRow.holds Try.pinned (OpenSpec.ofChange signVerifiesWrong)

/-- 'magnetolaw53.SignSigns': WHATEVER THE INPUT: true; the input reads as it did. -/
def signSignsSpec : ChangeSpec := { name := "signSigns", fn := fun _ => fun
  | [d1, d2, d3] => { results := [.lit (.bool true)], args := [d1, d2, d3] }
  | _ => none }
def signSignsRow : OpenClaim := { program := "ytpelnohiecgbgaa", sum := "89ec2f2c9327011d8acb15dcf11cd87e65ee54cfa25d50ce070fe4a336bad530", func := "magneto/magnetolaw53.SignSigns", spec := "signSigns", apart := false }
def SignSignsSaid : Prop := signSignsRow.holds Try.pinned (OpenSpec.ofChange signSignsSpec)

/-- ITS FALSE NEIGHBOUR: 'it returns false'. Refute it at one input. -/
def signSignsWrong : ChangeSpec := { name := "signSigns", fn := fun _ => fun
  | [d1, d2, d3] => { results := [.lit (.bool false)], args := [d1, d2, d3] }
  | _ => none }
def SignSignsWrongFalsely : Prop := signSignsRow.holds Try.pinned (OpenSpec.ofChange signSignsWrong)

/-- 'magnetolaw53.SignWords': WHATEVER THE INPUT: true; the input reads as it did. -/
def signWordsSpec : ChangeSpec := { name := "signWords", fn := fun _ => fun
  | [d1, d2] => { results := [.lit (.bool true)], args := [d1, d2] }
  | _ => none }
def signWordsRow : OpenClaim := { program := "ytpelnohiecgbgaa", sum := "89ec2f2c9327011d8acb15dcf11cd87e65ee54cfa25d50ce070fe4a336bad530", func := "magneto/magnetolaw53.SignWords", spec := "signWords", apart := false }
def SignWordsSaid : Prop := signWordsRow.holds Try.pinned (OpenSpec.ofChange signWordsSpec)

/-- ITS FALSE NEIGHBOUR: 'it returns false'. Refute it at one input. -/
def signWordsWrong : ChangeSpec := { name := "signWords", fn := fun _ => fun
  | [d1, d2] => { results := [.lit (.bool false)], args := [d1, d2] }
  | _ => none }
def SignWordsWrongFalsely : Prop := signWordsRow.holds Try.pinned (OpenSpec.ofChange signWordsWrong)

/-- 'magnetolaw53.SignRight': WHATEVER THE INPUT: true; the input reads as it did. -/
def signRightSpec : ChangeSpec := { name := "signRight", fn := fun _ => fun
  | [d1, d2, d3] => { results := [.lit (.bool true)], args := [d1, d2, d3] }
  | _ => none }
def signRightRow : OpenClaim := { program := "ytpelnohiecgbgaa", sum := "89ec2f2c9327011d8acb15dcf11cd87e65ee54cfa25d50ce070fe4a336bad530", func := "magneto/magnetolaw53.SignRight", spec := "signRight", apart := false }
def SignRightSaid : Prop := signRightRow.holds Try.pinned (OpenSpec.ofChange signRightSpec)

/-- ITS FALSE NEIGHBOUR: 'it returns false'. Refute it at one input. -/
def signRightWrong : ChangeSpec := { name := "signRight", fn := fun _ => fun
  | [d1, d2, d3] => { results := [.lit (.bool false)], args := [d1, d2, d3] }
  | _ => none }
def SignRightWrongFalsely : Prop := signRightRow.holds Try.pinned (OpenSpec.ofChange signRightWrong)

/- THE SECOND FORM. 'bulk': how many values and letters a reading holds, each counted each time it is reached (what is shared counts as often as it is met; a slice's spare places count too). A statement '..UptoSaid' is the law's where the arguments, and the package variables that the reading takes, are together of bulk at most 1048576: NARROWER than '..Said'. Prove '..Said' where nothing that the law and all that it calls make is longer than what came in: it says more and counts as full. Else prove '..UptoSaid'. A law counts once. -/
mutual
def uptoBulk {H : Type} : DataW H → Nat
  | .lit (.string bytes) => bytes.length + 1
  | .lit _ => 1
  | .nil => 1
  | .ptr d => uptoBulk d + 1
  | .slice elems spare => uptoBulkAll elems + uptoBulkAll spare + 1
  | .agg parts => uptoBulkAll parts + 1
  | .iface _ d => uptoBulk d + 1
  | .map entries => uptoBulkEntries entries + 1
  | .held _ => 1
def uptoBulkAll {H : Type} : List (DataW H) → Nat
  | [] => 0
  | d :: r => uptoBulk d + uptoBulkAll r
def uptoBulkEntries {H : Type} : List (Lit × DataW H) → Nat
  | [] => 0
  | x :: r => uptoBulkEntry x + uptoBulkEntries r
def uptoBulkEntry {H : Type} : Lit × DataW H → Nat
  | (.string bytes, d) => bytes.length + uptoBulk d + 1
  | (_, d) => uptoBulk d + 1
 end
def uptoSmall : (H : Type) → List (DataW H) → Bool := fun _ ds => decide (uptoBulkAll ds ≤ 1048576)
def OpenSpec.upto (s : _root_.Go.ChangeSpec) : _root_.Go.OpenSpec := { _root_.Go.OpenSpec.ofChange s with cond := some uptoSmall }

/-- 'magnetolaw53.SignSums', WHERE WHAT IT READS IS OF BULK AT MOST 1048576: true; the input reads as it did. -/
def signSumsUptoRow : OpenClaim := { program := "ytpelnohiecgbgaa", sum := "89ec2f2c9327011d8acb15dcf11cd87e65ee54cfa25d50ce070fe4a336bad530", func := "magneto/magnetolaw53.SignSums", spec := "signSums", apart := false, narrowed := true }
def SignSumsUptoSaid : Prop := signSumsUptoRow.holds Try.pinned (OpenSpec.upto signSumsSpec)

/-- 'magnetolaw53.SignDigits', WHERE WHAT IT READS IS OF BULK AT MOST 1048576: true; the input reads as it did. -/
def signDigitsUptoRow : OpenClaim := { program := "ytpelnohiecgbgaa", sum := "89ec2f2c9327011d8acb15dcf11cd87e65ee54cfa25d50ce070fe4a336bad530", func := "magneto/magnetolaw53.SignDigits", spec := "signDigits", apart := false, narrowed := true }
def SignDigitsUptoSaid : Prop := signDigitsUptoRow.holds Try.pinned (OpenSpec.upto signDigitsSpec)

/-- 'magnetolaw53.SignChains', WHERE WHAT IT READS IS OF BULK AT MOST 1048576: true; the input reads as it did. -/
def signChainsUptoRow : OpenClaim := { program := "ytpelnohiecgbgaa", sum := "89ec2f2c9327011d8acb15dcf11cd87e65ee54cfa25d50ce070fe4a336bad530", func := "magneto/magnetolaw53.SignChains", spec := "signChains", apart := false, narrowed := true }
def SignChainsUptoSaid : Prop := signChainsUptoRow.holds Try.pinned (OpenSpec.upto signChainsSpec)

/-- 'magnetolaw53.SignVerifies', WHERE WHAT IT READS IS OF BULK AT MOST 1048576: true; the input reads as it did. -/
def signVerifiesUptoRow : OpenClaim := { program := "ytpelnohiecgbgaa", sum := "89ec2f2c9327011d8acb15dcf11cd87e65ee54cfa25d50ce070fe4a336bad530", func := "magneto/magnetolaw53.SignVerifies", spec := "signVerifies", apart := false, narrowed := true }
def SignVerifiesUptoSaid : Prop := signVerifiesUptoRow.holds Try.pinned (OpenSpec.upto signVerifiesSpec)

/-- 'magnetolaw53.SignSigns', WHERE WHAT IT READS IS OF BULK AT MOST 1048576: true; the input reads as it did. -/
def signSignsUptoRow : OpenClaim := { program := "ytpelnohiecgbgaa", sum := "89ec2f2c9327011d8acb15dcf11cd87e65ee54cfa25d50ce070fe4a336bad530", func := "magneto/magnetolaw53.SignSigns", spec := "signSigns", apart := false, narrowed := true }
def SignSignsUptoSaid : Prop := signSignsUptoRow.holds Try.pinned (OpenSpec.upto signSignsSpec)

/-- 'magnetolaw53.SignWords', WHERE WHAT IT READS IS OF BULK AT MOST 1048576: true; the input reads as it did. -/
def signWordsUptoRow : OpenClaim := { program := "ytpelnohiecgbgaa", sum := "89ec2f2c9327011d8acb15dcf11cd87e65ee54cfa25d50ce070fe4a336bad530", func := "magneto/magnetolaw53.SignWords", spec := "signWords", apart := false, narrowed := true }
def SignWordsUptoSaid : Prop := signWordsUptoRow.holds Try.pinned (OpenSpec.upto signWordsSpec)

/-- 'magnetolaw53.SignRight', WHERE WHAT IT READS IS OF BULK AT MOST 1048576: true; the input reads as it did. -/
def signRightUptoRow : OpenClaim := { program := "ytpelnohiecgbgaa", sum := "89ec2f2c9327011d8acb15dcf11cd87e65ee54cfa25d50ce070fe4a336bad530", func := "magneto/magnetolaw53.SignRight", spec := "signRight", apart := false, narrowed := true }
def SignRightUptoSaid : Prop := signRightUptoRow.holds Try.pinned (OpenSpec.upto signRightSpec)

end Rows
end Go.Proofs.Ytpelnohiecgbgaa
