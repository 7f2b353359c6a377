/-
  No cell of these rows narrows 'for every input' (looked for: loops, veiled, ifaces, maps, wideKeys, modest, calm, conditions, laid).
  DERIVED. THE GIVEN ROWS OF THIS SEAT. 8 by the template 'for every input the law returns true; each argument reads behind the call as it read before'; 0 by the template 'total and deterministic' (their statements: YthgojfmcjbieiaaTotals.lean).
  GIVEN WITH THE SEED: the statements are not yours to turn. If you find one false, say at which input.
  Laid BY PROGRAM, IN A SANDBOX (cutbox-rows.mjs): the forced cells as the released guide's own fill.sh prints them over the translation c00be280553eb2df… (all of the seat's roots in one cut). By AI agents, Wed Nov 11 2026. No macro, syntax, notation, axiom, sorry.
-/
import Derived.Test.YthgojfmcjbieiaaChecked
import GoSem.Claim
import GoSem.ClaimJoined
import GoSem.ClaimMapViews
import Derived.JoinedTies
import Derived.KernelRfl
namespace Go.Proofs.Ythgojfmcjbieiaa
/- THE CELL 'sum', in the pinned program and in every row, IS THE sha256 OF THE DUMP (.gsa) THAT YthgojfmcjbieiaaProg.lean LOADS. Nothing in Lean hashes anything: it is a label: what it is worth is what the hold of that sum in a sandbox is worth. -/
noncomputable def Try.pinned : Pinned := { name := "ythgojfmcjbieiaa", sum := "c00be280553eb2df9ec1aac429686569ae96adba8d05582ef5c8f427f3bb4395", checked := Try.checked }
namespace Rows
def none {H : Type} : Left H := { results := [], args := [] }

/-- 'postroadlaw01.CrcWraps': WHATEVER THE INPUT: true; the input reads as it did. -/
def crcWrapsSpec : ChangeSpec := { name := "crcWraps", fn := fun _ => fun
  | [d] => { results := [.lit (.bool true)], args := [d] }
  | _ => none }
def crcWrapsRow : OpenClaim := { program := "ythgojfmcjbieiaa", sum := "c00be280553eb2df9ec1aac429686569ae96adba8d05582ef5c8f427f3bb4395", func := "postroad/postroadlaw01.CrcWraps", spec := "crcWraps", apart := false }
def CrcWrapsSaid : Prop := crcWrapsRow.holds Try.pinned (OpenSpec.ofChange crcWrapsSpec)

/-- ITS FALSE NEIGHBOUR: 'it returns false'. Refute it at one input. -/
def crcWrapsWrong : ChangeSpec := { name := "crcWraps", fn := fun _ => fun
  | [d] => { results := [.lit (.bool false)], args := [d] }
  | _ => none }
def CrcWrapsWrongFalsely : Prop := crcWrapsRow.holds Try.pinned (OpenSpec.ofChange crcWrapsWrong)

/-- 'postroadlaw01.CrcTells': WHATEVER THE INPUT: true; the input reads as it did. -/
def crcTellsSpec : ChangeSpec := { name := "crcTells", fn := fun _ => fun
  | [d1, d2, d3] => { results := [.lit (.bool true)], args := [d1, d2, d3] }
  | _ => none }
def crcTellsRow : OpenClaim := { program := "ythgojfmcjbieiaa", sum := "c00be280553eb2df9ec1aac429686569ae96adba8d05582ef5c8f427f3bb4395", func := "postroad/postroadlaw01.CrcTells", spec := "crcTells", apart := false }
def CrcTellsSaid : Prop := crcTellsRow.holds Try.pinned (OpenSpec.ofChange crcTellsSpec)

/-- ITS FALSE NEIGHBOUR: 'it returns false'. Refute it at one input. -/
def crcTellsWrong : ChangeSpec := { name := "crcTells", fn := fun _ => fun
  | [d1, d2, d3] => { results := [.lit (.bool false)], args := [d1, d2, d3] }
  | _ => none }
def CrcTellsWrongFalsely : Prop := crcTellsRow.holds Try.pinned (OpenSpec.ofChange crcTellsWrong)

/-- 'postroadlaw01.CrcOpened': WHATEVER THE INPUT: true; the input reads as it did. -/
def crcOpenedSpec : ChangeSpec := { name := "crcOpened", fn := fun _ => fun
  | [d] => { results := [.lit (.bool true)], args := [d] }
  | _ => none }
def crcOpenedRow : OpenClaim := { program := "ythgojfmcjbieiaa", sum := "c00be280553eb2df9ec1aac429686569ae96adba8d05582ef5c8f427f3bb4395", func := "postroad/postroadlaw01.CrcOpened", spec := "crcOpened", apart := false }
def CrcOpenedSaid : Prop := crcOpenedRow.holds Try.pinned (OpenSpec.ofChange crcOpenedSpec)

/-- ITS FALSE NEIGHBOUR: 'it returns false'. Refute it at one input. -/
def crcOpenedWrong : ChangeSpec := { name := "crcOpened", fn := fun _ => fun
  | [d] => { results := [.lit (.bool false)], args := [d] }
  | _ => none }
def CrcOpenedWrongFalsely : Prop := crcOpenedRow.holds Try.pinned (OpenSpec.ofChange crcOpenedWrong)

/-- 'postroadlaw01.CrcOwn': WHATEVER THE INPUT: true; the input reads as it did. -/
def crcOwnSpec : ChangeSpec := { name := "crcOwn", fn := fun _ => fun
  | [d] => { results := [.lit (.bool true)], args := [d] }
  | _ => none }
def crcOwnRow : OpenClaim := { program := "ythgojfmcjbieiaa", sum := "c00be280553eb2df9ec1aac429686569ae96adba8d05582ef5c8f427f3bb4395", func := "postroad/postroadlaw01.CrcOwn", spec := "crcOwn", apart := false }
def CrcOwnSaid : Prop := crcOwnRow.holds Try.pinned (OpenSpec.ofChange crcOwnSpec)

/-- ITS FALSE NEIGHBOUR: 'it returns false'. Refute it at one input. -/
def crcOwnWrong : ChangeSpec := { name := "crcOwn", fn := fun _ => fun
  | [d] => { results := [.lit (.bool false)], args := [d] }
  | _ => none }
def CrcOwnWrongFalsely : Prop := crcOwnRow.holds Try.pinned (OpenSpec.ofChange crcOwnWrong)

/-- 'postroadlaw01.CrcSums': WHATEVER THE INPUT: true; the input reads as it did. -/
def crcSumsSpec : ChangeSpec := { name := "crcSums", fn := fun _ => fun
  | [d1, d2, d3, d4] => { results := [.lit (.bool true)], args := [d1, d2, d3, d4] }
  | _ => none }
def crcSumsRow : OpenClaim := { program := "ythgojfmcjbieiaa", sum := "c00be280553eb2df9ec1aac429686569ae96adba8d05582ef5c8f427f3bb4395", func := "postroad/postroadlaw01.CrcSums", spec := "crcSums", apart := false }
def CrcSumsSaid : Prop := crcSumsRow.holds Try.pinned (OpenSpec.ofChange crcSumsSpec)

/-- ITS FALSE NEIGHBOUR: 'it returns false'. Refute it at one input. -/
def crcSumsWrong : ChangeSpec := { name := "crcSums", fn := fun _ => fun
  | [d1, d2, d3, d4] => { results := [.lit (.bool false)], args := [d1, d2, d3, d4] }
  | _ => none }
def CrcSumsWrongFalsely : Prop := crcSumsRow.holds Try.pinned (OpenSpec.ofChange crcSumsWrong)

/-- 'postroadlaw01.CrcJoins': WHATEVER THE INPUT: true; the input reads as it did. -/
def crcJoinsSpec : ChangeSpec := { name := "crcJoins", fn := fun _ => fun
  | [d1, d2, d3] => { results := [.lit (.bool true)], args := [d1, d2, d3] }
  | _ => none }
def crcJoinsRow : OpenClaim := { program := "ythgojfmcjbieiaa", sum := "c00be280553eb2df9ec1aac429686569ae96adba8d05582ef5c8f427f3bb4395", func := "postroad/postroadlaw01.CrcJoins", spec := "crcJoins", apart := false }
def CrcJoinsSaid : Prop := crcJoinsRow.holds Try.pinned (OpenSpec.ofChange crcJoinsSpec)

/-- ITS FALSE NEIGHBOUR: 'it returns false'. Refute it at one input. -/
def crcJoinsWrong : ChangeSpec := { name := "crcJoins", fn := fun _ => fun
  | [d1, d2, d3] => { results := [.lit (.bool false)], args := [d1, d2, d3] }
  | _ => none }
def CrcJoinsWrongFalsely : Prop := crcJoinsRow.holds Try.pinned (OpenSpec.ofChange crcJoinsWrong)

/-- 'postroadlaw01.CrcLong': WHATEVER THE INPUT: true; the input reads as it did. -/
def crcLongSpec : ChangeSpec := { name := "crcLong", fn := fun _ => fun
  | [d1, d2, d3, d4] => { results := [.lit (.bool true)], args := [d1, d2, d3, d4] }
  | _ => none }
def crcLongRow : OpenClaim := { program := "ythgojfmcjbieiaa", sum := "c00be280553eb2df9ec1aac429686569ae96adba8d05582ef5c8f427f3bb4395", func := "postroad/postroadlaw01.CrcLong", spec := "crcLong", apart := false }
def CrcLongSaid : Prop := crcLongRow.holds Try.pinned (OpenSpec.ofChange crcLongSpec)

/-- ITS FALSE NEIGHBOUR: 'it returns false'. Refute it at one input. -/
def crcLongWrong : ChangeSpec := { name := "crcLong", fn := fun _ => fun
  | [d1, d2, d3, d4] => { results := [.lit (.bool false)], args := [d1, d2, d3, d4] }
  | _ => none }
def CrcLongWrongFalsely : Prop := crcLongRow.holds Try.pinned (OpenSpec.ofChange crcLongWrong)

/-- 'postroadlaw01.CrcLinear': WHATEVER THE INPUT: true; the input reads as it did. -/
def crcLinearSpec : ChangeSpec := { name := "crcLinear", fn := fun _ => fun
  | [d1, d2, d3] => { results := [.lit (.bool true)], args := [d1, d2, d3] }
  | _ => none }
def crcLinearRow : OpenClaim := { program := "ythgojfmcjbieiaa", sum := "c00be280553eb2df9ec1aac429686569ae96adba8d05582ef5c8f427f3bb4395", func := "postroad/postroadlaw01.CrcLinear", spec := "crcLinear", apart := false }
def CrcLinearSaid : Prop := crcLinearRow.holds Try.pinned (OpenSpec.ofChange crcLinearSpec)

/-- ITS FALSE NEIGHBOUR: 'it returns false'. Refute it at one input. -/
def crcLinearWrong : ChangeSpec := { name := "crcLinear", fn := fun _ => fun
  | [d1, d2, d3] => { results := [.lit (.bool false)], args := [d1, d2, d3] }
  | _ => none }
def CrcLinearWrongFalsely : Prop := crcLinearRow.holds Try.pinned (OpenSpec.ofChange crcLinearWrong)

/- THE SECOND FORM. 'bulk': how many values and letters a reading holds, each counted each time it is reached (what is shared counts as often as it is met; a slice's spare places count too). A statement '..UptoSaid' is the law's where the arguments, and the package variables that the reading takes, are together of bulk at most 1048576: NARROWER than '..Said'. Prove '..Said' where nothing that the law and all that it calls make is longer than what came in: it says more and counts as full. Else prove '..UptoSaid'. A law counts once. -/
mutual
def uptoBulk {H : Type} : DataW H → Nat
  | .lit (.string bytes) => bytes.length + 1
  | .lit _ => 1
  | .nil => 1
  | .ptr d => uptoBulk d + 1
  | .slice elems spare => uptoBulkAll elems + uptoBulkAll spare + 1
  | .agg parts => uptoBulkAll parts + 1
  | .iface _ d => uptoBulk d + 1
  | .map entries => uptoBulkEntries entries + 1
  | .held _ => 1
def uptoBulkAll {H : Type} : List (DataW H) → Nat
  | [] => 0
  | d :: r => uptoBulk d + uptoBulkAll r
def uptoBulkEntries {H : Type} : List (Lit × DataW H) → Nat
  | [] => 0
  | x :: r => uptoBulkEntry x + uptoBulkEntries r
def uptoBulkEntry {H : Type} : Lit × DataW H → Nat
  | (.string bytes, d) => bytes.length + uptoBulk d + 1
  | (_, d) => uptoBulk d + 1
 end
def uptoSmall : (H : Type) → List (DataW H) → Bool := fun _ ds => decide (uptoBulkAll ds ≤ 1048576)
def OpenSpec.upto (s : _root_.Go.ChangeSpec) : _root_.Go.OpenSpec := { _root_.Go.OpenSpec.ofChange s with cond := some uptoSmall }

/-- 'postroadlaw01.CrcWraps', WHERE WHAT IT READS IS OF BULK AT MOST 1048576: true; the input reads as it did. -/
def crcWrapsUptoRow : OpenClaim := { program := "ythgojfmcjbieiaa", sum := "c00be280553eb2df9ec1aac429686569ae96adba8d05582ef5c8f427f3bb4395", func := "postroad/postroadlaw01.CrcWraps", spec := "crcWraps", apart := false, narrowed := true }
def CrcWrapsUptoSaid : Prop := crcWrapsUptoRow.holds Try.pinned (OpenSpec.upto crcWrapsSpec)

/-- 'postroadlaw01.CrcTells', WHERE WHAT IT READS IS OF BULK AT MOST 1048576: true; the input reads as it did. -/
def crcTellsUptoRow : OpenClaim := { program := "ythgojfmcjbieiaa", sum := "c00be280553eb2df9ec1aac429686569ae96adba8d05582ef5c8f427f3bb4395", func := "postroad/postroadlaw01.CrcTells", spec := "crcTells", apart := false, narrowed := true }
def CrcTellsUptoSaid : Prop := crcTellsUptoRow.holds Try.pinned (OpenSpec.upto crcTellsSpec)

/-- 'postroadlaw01.CrcOpened', WHERE WHAT IT READS IS OF BULK AT MOST 1048576: true; the input reads as it did. -/
def crcOpenedUptoRow : OpenClaim := { program := "ythgojfmcjbieiaa", sum := "c00be280553eb2df9ec1aac429686569ae96adba8d05582ef5c8f427f3bb4395", func := "postroad/postroadlaw01.CrcOpened", spec := "crcOpened", apart := false, narrowed := true }
def CrcOpenedUptoSaid : Prop := crcOpenedUptoRow.holds Try.pinned (OpenSpec.upto crcOpenedSpec)

/-- 'postroadlaw01.CrcOwn', WHERE WHAT IT READS IS OF BULK AT MOST 1048576: true; the input reads as it did. -/
def crcOwnUptoRow : OpenClaim := { program := "ythgojfmcjbieiaa", sum := "c00be280553eb2df9ec1aac429686569ae96adba8d05582ef5c8f427f3bb4395", func := "postroad/postroadlaw01.CrcOwn", spec := "crcOwn", apart := false, narrowed := true }
def CrcOwnUptoSaid : Prop := crcOwnUptoRow.holds Try.pinned (OpenSpec.upto crcOwnSpec)

/-- 'postroadlaw01.CrcSums', WHERE WHAT IT READS IS OF BULK AT MOST 1048576: true; the input reads as it did. -/
def crcSumsUptoRow : OpenClaim := { program := "ythgojfmcjbieiaa", sum := "c00be280553eb2df9ec1aac429686569ae96adba8d05582ef5c8f427f3bb4395", func := "postroad/postroadlaw01.CrcSums", spec := "crcSums", apart := false, narrowed := true }
def CrcSumsUptoSaid : Prop := crcSumsUptoRow.holds Try.pinned (OpenSpec.upto crcSumsSpec)

/-- 'postroadlaw01.CrcJoins', WHERE WHAT IT READS IS OF BULK AT MOST 1048576: true; the input reads as it did. -/
def crcJoinsUptoRow : OpenClaim := { program := "ythgojfmcjbieiaa", sum := "c00be280553eb2df9ec1aac429686569ae96adba8d05582ef5c8f427f3bb4395", func := "postroad/postroadlaw01.CrcJoins", spec := "crcJoins", apart := false, narrowed := true }
def CrcJoinsUptoSaid : Prop := crcJoinsUptoRow.holds Try.pinned (OpenSpec.upto crcJoinsSpec)

/-- 'postroadlaw01.CrcLong', WHERE WHAT IT READS IS OF BULK AT MOST 1048576: true; the input reads as it did. -/
def crcLongUptoRow : OpenClaim := { program := "ythgojfmcjbieiaa", sum := "c00be280553eb2df9ec1aac429686569ae96adba8d05582ef5c8f427f3bb4395", func := "postroad/postroadlaw01.CrcLong", spec := "crcLong", apart := false, narrowed := true }
def CrcLongUptoSaid : Prop := crcLongUptoRow.holds Try.pinned (OpenSpec.upto crcLongSpec)

/-- 'postroadlaw01.CrcLinear', WHERE WHAT IT READS IS OF BULK AT MOST 1048576: true; the input reads as it did. -/
def crcLinearUptoRow : OpenClaim := { program := "ythgojfmcjbieiaa", sum := "c00be280553eb2df9ec1aac429686569ae96adba8d05582ef5c8f427f3bb4395", func := "postroad/postroadlaw01.CrcLinear", spec := "crcLinear", apart := false, narrowed := true }
def CrcLinearUptoSaid : Prop := crcLinearUptoRow.holds Try.pinned (OpenSpec.upto crcLinearSpec)

end Rows
end Go.Proofs.Ythgojfmcjbieiaa
