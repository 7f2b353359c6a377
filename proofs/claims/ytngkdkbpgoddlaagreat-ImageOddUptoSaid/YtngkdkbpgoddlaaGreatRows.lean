/-
  No cell of these rows narrows 'for every input' (looked for: loops, veiled, ifaces, maps, wideKeys, modest, calm, conditions, laid).
  DERIVED. THE GIVEN ROWS OF THIS SEAT. 5 by the template 'for every input the law returns true; each argument reads behind the call as it read before'; 0 by the template 'total and deterministic' (their statements: YtngkdkbpgoddlaaGreatTotals.lean).
  GIVEN WITH THE SEED: the statements are not yours to turn. If you find one false, say at which input.
  Laid BY PROGRAM, IN A SANDBOX (cutbox-rows.mjs): the forced cells as the released guide's own fill.sh prints them over the translation 893d08b465e9d266… (all of the seat's roots in one cut). By AI agents, Wed Nov 11 2026. No macro, syntax, notation, axiom, sorry.
-/
import Derived.Test.YtngkdkbpgoddlaaGreatChecked
import GoSem.Claim
import GoSem.ClaimJoined
import GoSem.ClaimMapViews
import Derived.JoinedTies
import Derived.KernelRfl
namespace Go.Proofs.YtngkdkbpgoddlaaGreat
/- THE CELL 'sum', in the pinned program and in every row, IS THE sha256 OF THE DUMP (.gsa) THAT YtngkdkbpgoddlaaGreatProg.lean LOADS. Nothing in Lean hashes anything: it is a label: what it is worth is what the hold of that sum in a sandbox is worth. -/
noncomputable def Tryz.pinned : Pinned := { name := "ytngkdkbpgoddlaagreat", sum := "893d08b465e9d2665ec30c309658a44c08eba754519cca57fc290b5f35b90efd", checked := Tryz.checked }
namespace Rows
def none {H : Type} : Left H := { results := [], args := [] }

/-- 'postroadlaw17.ImageOther': WHATEVER THE INPUT: true; the input reads as it did. -/
def imageOtherSpec : ChangeSpec := { name := "imageOther", fn := fun _ => fun
  | [d1, d2, d3, d4, d5] => { results := [.lit (.bool true)], args := [d1, d2, d3, d4, d5] }
  | _ => none }
def imageOtherRow : OpenClaim := { program := "ytngkdkbpgoddlaagreat", sum := "893d08b465e9d2665ec30c309658a44c08eba754519cca57fc290b5f35b90efd", func := "postroad/postroadlaw17.ImageOther", spec := "imageOther", unfollowed := true, recurses := true, plainKeys := false, apart := false }
def ImageOtherSaid : Prop := imageOtherRow.holds Tryz.pinned (OpenSpec.ofChange imageOtherSpec)

/-- ITS FALSE NEIGHBOUR: 'it returns false'. Refute it at one input. -/
def imageOtherWrong : ChangeSpec := { name := "imageOther", fn := fun _ => fun
  | [d1, d2, d3, d4, d5] => { results := [.lit (.bool false)], args := [d1, d2, d3, d4, d5] }
  | _ => none }
def ImageOtherWrongFalsely : Prop := imageOtherRow.holds Tryz.pinned (OpenSpec.ofChange imageOtherWrong)

/-- 'postroadlaw17.ImageSpoilt': WHATEVER THE INPUT: true; the input reads as it did. -/
def imageSpoiltSpec : ChangeSpec := { name := "imageSpoilt", fn := fun _ => fun
  | [d1, d2, d3, d4, d5] => { results := [.lit (.bool true)], args := [d1, d2, d3, d4, d5] }
  | _ => none }
def imageSpoiltRow : OpenClaim := { program := "ytngkdkbpgoddlaagreat", sum := "893d08b465e9d2665ec30c309658a44c08eba754519cca57fc290b5f35b90efd", func := "postroad/postroadlaw17.ImageSpoilt", spec := "imageSpoilt", unfollowed := true, recurses := true, plainKeys := false, apart := false }
def ImageSpoiltSaid : Prop := imageSpoiltRow.holds Tryz.pinned (OpenSpec.ofChange imageSpoiltSpec)

/-- ITS FALSE NEIGHBOUR: 'it returns false'. Refute it at one input. -/
def imageSpoiltWrong : ChangeSpec := { name := "imageSpoilt", fn := fun _ => fun
  | [d1, d2, d3, d4, d5] => { results := [.lit (.bool false)], args := [d1, d2, d3, d4, d5] }
  | _ => none }
def ImageSpoiltWrongFalsely : Prop := imageSpoiltRow.holds Tryz.pinned (OpenSpec.ofChange imageSpoiltWrong)

/-- 'postroadlaw17.ImageOdd': WHATEVER THE INPUT: true; the input reads as it did. -/
def imageOddSpec : ChangeSpec := { name := "imageOdd", fn := fun _ => fun
  | [d1, d2, d3, d4] => { results := [.lit (.bool true)], args := [d1, d2, d3, d4] }
  | _ => none }
def imageOddRow : OpenClaim := { program := "ytngkdkbpgoddlaagreat", sum := "893d08b465e9d2665ec30c309658a44c08eba754519cca57fc290b5f35b90efd", func := "postroad/postroadlaw17.ImageOdd", spec := "imageOdd", unfollowed := true, recurses := true, plainKeys := false, apart := false }
def ImageOddSaid : Prop := imageOddRow.holds Tryz.pinned (OpenSpec.ofChange imageOddSpec)

/-- ITS FALSE NEIGHBOUR: 'it returns false'. Refute it at one input. -/
def imageOddWrong : ChangeSpec := { name := "imageOdd", fn := fun _ => fun
  | [d1, d2, d3, d4] => { results := [.lit (.bool false)], args := [d1, d2, d3, d4] }
  | _ => none }
def ImageOddWrongFalsely : Prop := imageOddRow.holds Tryz.pinned (OpenSpec.ofChange imageOddWrong)

/-- 'postroadlaw17.ImageDecodes': WHATEVER THE INPUT: true; the input reads as it did. -/
def imageDecodesSpec : ChangeSpec := { name := "imageDecodes", fn := fun _ => fun
  | [d] => { results := [.lit (.bool true)], args := [d] }
  | _ => none }
def imageDecodesRow : OpenClaim := { program := "ytngkdkbpgoddlaagreat", sum := "893d08b465e9d2665ec30c309658a44c08eba754519cca57fc290b5f35b90efd", func := "postroad/postroadlaw17.ImageDecodes", spec := "imageDecodes", unfollowed := true, recurses := true, plainKeys := false, apart := false }
def ImageDecodesSaid : Prop := imageDecodesRow.holds Tryz.pinned (OpenSpec.ofChange imageDecodesSpec)

/-- ITS FALSE NEIGHBOUR: 'it returns false'. Refute it at one input. -/
def imageDecodesWrong : ChangeSpec := { name := "imageDecodes", fn := fun _ => fun
  | [d] => { results := [.lit (.bool false)], args := [d] }
  | _ => none }
def ImageDecodesWrongFalsely : Prop := imageDecodesRow.holds Tryz.pinned (OpenSpec.ofChange imageDecodesWrong)

/-- 'postroadlaw17.ImageBack': WHATEVER THE INPUT: true; the input reads as it did. -/
def imageBackSpec : ChangeSpec := { name := "imageBack", fn := fun _ => fun
  | [d1, d2, d3, d4] => { results := [.lit (.bool true)], args := [d1, d2, d3, d4] }
  | _ => none }
def imageBackRow : OpenClaim := { program := "ytngkdkbpgoddlaagreat", sum := "893d08b465e9d2665ec30c309658a44c08eba754519cca57fc290b5f35b90efd", func := "postroad/postroadlaw17.ImageBack", spec := "imageBack", unfollowed := true, recurses := true, plainKeys := false, apart := false }
def ImageBackSaid : Prop := imageBackRow.holds Tryz.pinned (OpenSpec.ofChange imageBackSpec)

/-- ITS FALSE NEIGHBOUR: 'it returns false'. Refute it at one input. -/
def imageBackWrong : ChangeSpec := { name := "imageBack", fn := fun _ => fun
  | [d1, d2, d3, d4] => { results := [.lit (.bool false)], args := [d1, d2, d3, d4] }
  | _ => none }
def ImageBackWrongFalsely : Prop := imageBackRow.holds Tryz.pinned (OpenSpec.ofChange imageBackWrong)

/- THE SECOND FORM. 'bulk': how many values and letters a reading holds, each counted each time it is reached (what is shared counts as often as it is met; a slice's spare places count too). A statement '..UptoSaid' is the law's where the arguments, and the package variables that the reading takes, are together of bulk at most 1048576: NARROWER than '..Said'. Prove '..Said' where nothing that the law and all that it calls make is longer than what came in: it says more and counts as full. Else prove '..UptoSaid'. A law counts once. -/
mutual
def uptoBulk {H : Type} : DataW H → Nat
  | .lit (.string bytes) => bytes.length + 1
  | .lit _ => 1
  | .nil => 1
  | .ptr d => uptoBulk d + 1
  | .slice elems spare => uptoBulkAll elems + uptoBulkAll spare + 1
  | .agg parts => uptoBulkAll parts + 1
  | .iface _ d => uptoBulk d + 1
  | .map entries => uptoBulkEntries entries + 1
  | .held _ => 1
def uptoBulkAll {H : Type} : List (DataW H) → Nat
  | [] => 0
  | d :: r => uptoBulk d + uptoBulkAll r
def uptoBulkEntries {H : Type} : List (Lit × DataW H) → Nat
  | [] => 0
  | x :: r => uptoBulkEntry x + uptoBulkEntries r
def uptoBulkEntry {H : Type} : Lit × DataW H → Nat
  | (.string bytes, d) => bytes.length + uptoBulk d + 1
  | (_, d) => uptoBulk d + 1
 end
def uptoSmall : (H : Type) → List (DataW H) → Bool := fun _ ds => decide (uptoBulkAll ds ≤ 1048576)
def OpenSpec.upto (s : _root_.Go.ChangeSpec) : _root_.Go.OpenSpec := { _root_.Go.OpenSpec.ofChange s with cond := some uptoSmall }

/-- 'postroadlaw17.ImageOther', WHERE WHAT IT READS IS OF BULK AT MOST 1048576: true; the input reads as it did. -/
def imageOtherUptoRow : OpenClaim := { program := "ytngkdkbpgoddlaagreat", sum := "893d08b465e9d2665ec30c309658a44c08eba754519cca57fc290b5f35b90efd", func := "postroad/postroadlaw17.ImageOther", spec := "imageOther", unfollowed := true, recurses := true, plainKeys := false, apart := false, narrowed := true }
def ImageOtherUptoSaid : Prop := imageOtherUptoRow.holds Tryz.pinned (OpenSpec.upto imageOtherSpec)

/-- 'postroadlaw17.ImageSpoilt', WHERE WHAT IT READS IS OF BULK AT MOST 1048576: true; the input reads as it did. -/
def imageSpoiltUptoRow : OpenClaim := { program := "ytngkdkbpgoddlaagreat", sum := "893d08b465e9d2665ec30c309658a44c08eba754519cca57fc290b5f35b90efd", func := "postroad/postroadlaw17.ImageSpoilt", spec := "imageSpoilt", unfollowed := true, recurses := true, plainKeys := false, apart := false, narrowed := true }
def ImageSpoiltUptoSaid : Prop := imageSpoiltUptoRow.holds Tryz.pinned (OpenSpec.upto imageSpoiltSpec)

/-- 'postroadlaw17.ImageOdd', WHERE WHAT IT READS IS OF BULK AT MOST 1048576: true; the input reads as it did. -/
def imageOddUptoRow : OpenClaim := { program := "ytngkdkbpgoddlaagreat", sum := "893d08b465e9d2665ec30c309658a44c08eba754519cca57fc290b5f35b90efd", func := "postroad/postroadlaw17.ImageOdd", spec := "imageOdd", unfollowed := true, recurses := true, plainKeys := false, apart := false, narrowed := true }
def ImageOddUptoSaid : Prop := imageOddUptoRow.holds Tryz.pinned (OpenSpec.upto imageOddSpec)

/-- 'postroadlaw17.ImageDecodes', WHERE WHAT IT READS IS OF BULK AT MOST 1048576: true; the input reads as it did. -/
def imageDecodesUptoRow : OpenClaim := { program := "ytngkdkbpgoddlaagreat", sum := "893d08b465e9d2665ec30c309658a44c08eba754519cca57fc290b5f35b90efd", func := "postroad/postroadlaw17.ImageDecodes", spec := "imageDecodes", unfollowed := true, recurses := true, plainKeys := false, apart := false, narrowed := true }
def ImageDecodesUptoSaid : Prop := imageDecodesUptoRow.holds Tryz.pinned (OpenSpec.upto imageDecodesSpec)

/-- 'postroadlaw17.ImageBack', WHERE WHAT IT READS IS OF BULK AT MOST 1048576: true; the input reads as it did. -/
def imageBackUptoRow : OpenClaim := { program := "ytngkdkbpgoddlaagreat", sum := "893d08b465e9d2665ec30c309658a44c08eba754519cca57fc290b5f35b90efd", func := "postroad/postroadlaw17.ImageBack", spec := "imageBack", unfollowed := true, recurses := true, plainKeys := false, apart := false, narrowed := true }
def ImageBackUptoSaid : Prop := imageBackUptoRow.holds Tryz.pinned (OpenSpec.upto imageBackSpec)

end Rows
end Go.Proofs.YtngkdkbpgoddlaaGreat
