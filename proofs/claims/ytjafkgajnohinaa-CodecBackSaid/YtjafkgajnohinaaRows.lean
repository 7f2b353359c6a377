/-
  No cell of these rows narrows 'for every input' (looked for: loops, veiled, ifaces, maps, wideKeys, modest, calm, conditions, laid).
  DERIVED. THE GIVEN ROWS OF THIS SEAT. 6 by the template 'for every input the law returns true; each argument reads behind the call as it read before'; 0 by the template 'total and deterministic' (their statements: YtjafkgajnohinaaTotals.lean).
  GIVEN WITH THE SEED: the statements are not yours to turn. If you find one false, say at which input.
  Laid BY PROGRAM, IN A SANDBOX (cutbox-rows.mjs): the forced cells as the released guide's own fill.sh prints them over the translation b046a421580df9f0… (all of the seat's roots in one cut). By AI agents, Wed Nov 11 2026. No macro, syntax, notation, axiom, sorry.
-/
import Derived.Test.YtjafkgajnohinaaChecked
import GoSem.Claim
import GoSem.ClaimJoined
import GoSem.ClaimMapViews
import Derived.JoinedTies
import Derived.KernelRfl
namespace Go.Proofs.Ytjafkgajnohinaa
/- THE CELL 'sum', in the pinned program and in every row, IS THE sha256 OF THE DUMP (.gsa) THAT YtjafkgajnohinaaProg.lean LOADS. Nothing in Lean hashes anything: it is a label: what it is worth is what the hold of that sum in a sandbox is worth. -/
noncomputable def Try.pinned : Pinned := { name := "ytjafkgajnohinaa", sum := "b046a421580df9f0e7d5dda4b5b50b1bab51736bb1a92139f59a2cbc2ec8e545", checked := Try.checked }
namespace Rows
def none {H : Type} : Left H := { results := [], args := [] }

/-- 'postroadlaw02.CodecPuts': WHATEVER THE INPUT: true; the input reads as it did. -/
def codecPutsSpec : ChangeSpec := { name := "codecPuts", fn := fun _ => fun
  | [d1, d2, d3, d4] => { results := [.lit (.bool true)], args := [d1, d2, d3, d4] }
  | _ => none }
def codecPutsRow : OpenClaim := { program := "ytjafkgajnohinaa", sum := "b046a421580df9f0e7d5dda4b5b50b1bab51736bb1a92139f59a2cbc2ec8e545", func := "postroad/postroadlaw02.CodecPuts", spec := "codecPuts", apart := false }
def CodecPutsSaid : Prop := codecPutsRow.holds Try.pinned (OpenSpec.ofChange codecPutsSpec)

/-- ITS FALSE NEIGHBOUR: 'it returns false'. Refute it at one input. -/
def codecPutsWrong : ChangeSpec := { name := "codecPuts", fn := fun _ => fun
  | [d1, d2, d3, d4] => { results := [.lit (.bool false)], args := [d1, d2, d3, d4] }
  | _ => none }
def CodecPutsWrongFalsely : Prop := codecPutsRow.holds Try.pinned (OpenSpec.ofChange codecPutsWrong)

/-- 'postroadlaw02.CodecNums': WHATEVER THE INPUT: true; the input reads as it did. -/
def codecNumsSpec : ChangeSpec := { name := "codecNums", fn := fun _ => fun
  | [d1, d2] => { results := [.lit (.bool true)], args := [d1, d2] }
  | _ => none }
def codecNumsRow : OpenClaim := { program := "ytjafkgajnohinaa", sum := "b046a421580df9f0e7d5dda4b5b50b1bab51736bb1a92139f59a2cbc2ec8e545", func := "postroad/postroadlaw02.CodecNums", spec := "codecNums", apart := false }
def CodecNumsSaid : Prop := codecNumsRow.holds Try.pinned (OpenSpec.ofChange codecNumsSpec)

/-- ITS FALSE NEIGHBOUR: 'it returns false'. Refute it at one input. -/
def codecNumsWrong : ChangeSpec := { name := "codecNums", fn := fun _ => fun
  | [d1, d2] => { results := [.lit (.bool false)], args := [d1, d2] }
  | _ => none }
def CodecNumsWrongFalsely : Prop := codecNumsRow.holds Try.pinned (OpenSpec.ofChange codecNumsWrong)

/-- 'postroadlaw02.CodecOwn': WHATEVER THE INPUT: true; the input reads as it did. -/
def codecOwnSpec : ChangeSpec := { name := "codecOwn", fn := fun _ => fun
  | [d1, d2] => { results := [.lit (.bool true)], args := [d1, d2] }
  | _ => none }
def codecOwnRow : OpenClaim := { program := "ytjafkgajnohinaa", sum := "b046a421580df9f0e7d5dda4b5b50b1bab51736bb1a92139f59a2cbc2ec8e545", func := "postroad/postroadlaw02.CodecOwn", spec := "codecOwn", unfollowed := true, recurses := true, apart := false }
def CodecOwnSaid : Prop := codecOwnRow.holds Try.pinned (OpenSpec.ofChange codecOwnSpec)

/-- ITS FALSE NEIGHBOUR: 'it returns false'. Refute it at one input. -/
def codecOwnWrong : ChangeSpec := { name := "codecOwn", fn := fun _ => fun
  | [d1, d2] => { results := [.lit (.bool false)], args := [d1, d2] }
  | _ => none }
def CodecOwnWrongFalsely : Prop := codecOwnRow.holds Try.pinned (OpenSpec.ofChange codecOwnWrong)

/-- 'postroadlaw02.CodecStops': WHATEVER THE INPUT: true; the input reads as it did. -/
def codecStopsSpec : ChangeSpec := { name := "codecStops", fn := fun _ => fun
  | [d1, d2] => { results := [.lit (.bool true)], args := [d1, d2] }
  | _ => none }
def codecStopsRow : OpenClaim := { program := "ytjafkgajnohinaa", sum := "b046a421580df9f0e7d5dda4b5b50b1bab51736bb1a92139f59a2cbc2ec8e545", func := "postroad/postroadlaw02.CodecStops", spec := "codecStops", unfollowed := true, recurses := true, apart := false }
def CodecStopsSaid : Prop := codecStopsRow.holds Try.pinned (OpenSpec.ofChange codecStopsSpec)

/-- ITS FALSE NEIGHBOUR: 'it returns false'. Refute it at one input. -/
def codecStopsWrong : ChangeSpec := { name := "codecStops", fn := fun _ => fun
  | [d1, d2] => { results := [.lit (.bool false)], args := [d1, d2] }
  | _ => none }
def CodecStopsWrongFalsely : Prop := codecStopsRow.holds Try.pinned (OpenSpec.ofChange codecStopsWrong)

/-- 'postroadlaw02.CodecBack': WHATEVER THE INPUT: true; the input reads as it did. -/
def codecBackSpec : ChangeSpec := { name := "codecBack", fn := fun _ => fun
  | [d1, d2, d3, d4] => { results := [.lit (.bool true)], args := [d1, d2, d3, d4] }
  | _ => none }
def codecBackRow : OpenClaim := { program := "ytjafkgajnohinaa", sum := "b046a421580df9f0e7d5dda4b5b50b1bab51736bb1a92139f59a2cbc2ec8e545", func := "postroad/postroadlaw02.CodecBack", spec := "codecBack", unfollowed := true, recurses := true, apart := false }
def CodecBackSaid : Prop := codecBackRow.holds Try.pinned (OpenSpec.ofChange codecBackSpec)

/-- ITS FALSE NEIGHBOUR: 'it returns false'. Refute it at one input. -/
def codecBackWrong : ChangeSpec := { name := "codecBack", fn := fun _ => fun
  | [d1, d2, d3, d4] => { results := [.lit (.bool false)], args := [d1, d2, d3, d4] }
  | _ => none }
def CodecBackWrongFalsely : Prop := codecBackRow.holds Try.pinned (OpenSpec.ofChange codecBackWrong)

/-- 'postroadlaw02.CodecLong': WHATEVER THE INPUT: true; the input reads as it did. -/
def codecLongSpec : ChangeSpec := { name := "codecLong", fn := fun _ => fun
  | [d1, d2, d3] => { results := [.lit (.bool true)], args := [d1, d2, d3] }
  | _ => none }
def codecLongRow : OpenClaim := { program := "ytjafkgajnohinaa", sum := "b046a421580df9f0e7d5dda4b5b50b1bab51736bb1a92139f59a2cbc2ec8e545", func := "postroad/postroadlaw02.CodecLong", spec := "codecLong", unfollowed := true, recurses := true, apart := false }
def CodecLongSaid : Prop := codecLongRow.holds Try.pinned (OpenSpec.ofChange codecLongSpec)

/-- ITS FALSE NEIGHBOUR: 'it returns false'. Refute it at one input. -/
def codecLongWrong : ChangeSpec := { name := "codecLong", fn := fun _ => fun
  | [d1, d2, d3] => { results := [.lit (.bool false)], args := [d1, d2, d3] }
  | _ => none }
def CodecLongWrongFalsely : Prop := codecLongRow.holds Try.pinned (OpenSpec.ofChange codecLongWrong)

/- THE SECOND FORM. 'bulk': how many values and letters a reading holds, each counted each time it is reached (what is shared counts as often as it is met; a slice's spare places count too). A statement '..UptoSaid' is the law's where the arguments, and the package variables that the reading takes, are together of bulk at most 1048576: NARROWER than '..Said'. Prove '..Said' where nothing that the law and all that it calls make is longer than what came in: it says more and counts as full. Else prove '..UptoSaid'. A law counts once. -/
mutual
def uptoBulk {H : Type} : DataW H → Nat
  | .lit (.string bytes) => bytes.length + 1
  | .lit _ => 1
  | .nil => 1
  | .ptr d => uptoBulk d + 1
  | .slice elems spare => uptoBulkAll elems + uptoBulkAll spare + 1
  | .agg parts => uptoBulkAll parts + 1
  | .iface _ d => uptoBulk d + 1
  | .map entries => uptoBulkEntries entries + 1
  | .held _ => 1
def uptoBulkAll {H : Type} : List (DataW H) → Nat
  | [] => 0
  | d :: r => uptoBulk d + uptoBulkAll r
def uptoBulkEntries {H : Type} : List (Lit × DataW H) → Nat
  | [] => 0
  | x :: r => uptoBulkEntry x + uptoBulkEntries r
def uptoBulkEntry {H : Type} : Lit × DataW H → Nat
  | (.string bytes, d) => bytes.length + uptoBulk d + 1
  | (_, d) => uptoBulk d + 1
 end
def uptoSmall : (H : Type) → List (DataW H) → Bool := fun _ ds => decide (uptoBulkAll ds ≤ 1048576)
def OpenSpec.upto (s : _root_.Go.ChangeSpec) : _root_.Go.OpenSpec := { _root_.Go.OpenSpec.ofChange s with cond := some uptoSmall }

/-- 'postroadlaw02.CodecPuts', WHERE WHAT IT READS IS OF BULK AT MOST 1048576: true; the input reads as it did. -/
def codecPutsUptoRow : OpenClaim := { program := "ytjafkgajnohinaa", sum := "b046a421580df9f0e7d5dda4b5b50b1bab51736bb1a92139f59a2cbc2ec8e545", func := "postroad/postroadlaw02.CodecPuts", spec := "codecPuts", apart := false, narrowed := true }
def CodecPutsUptoSaid : Prop := codecPutsUptoRow.holds Try.pinned (OpenSpec.upto codecPutsSpec)

/-- 'postroadlaw02.CodecNums', WHERE WHAT IT READS IS OF BULK AT MOST 1048576: true; the input reads as it did. -/
def codecNumsUptoRow : OpenClaim := { program := "ytjafkgajnohinaa", sum := "b046a421580df9f0e7d5dda4b5b50b1bab51736bb1a92139f59a2cbc2ec8e545", func := "postroad/postroadlaw02.CodecNums", spec := "codecNums", apart := false, narrowed := true }
def CodecNumsUptoSaid : Prop := codecNumsUptoRow.holds Try.pinned (OpenSpec.upto codecNumsSpec)

/-- 'postroadlaw02.CodecOwn', WHERE WHAT IT READS IS OF BULK AT MOST 1048576: true; the input reads as it did. -/
def codecOwnUptoRow : OpenClaim := { program := "ytjafkgajnohinaa", sum := "b046a421580df9f0e7d5dda4b5b50b1bab51736bb1a92139f59a2cbc2ec8e545", func := "postroad/postroadlaw02.CodecOwn", spec := "codecOwn", unfollowed := true, recurses := true, apart := false, narrowed := true }
def CodecOwnUptoSaid : Prop := codecOwnUptoRow.holds Try.pinned (OpenSpec.upto codecOwnSpec)

/-- 'postroadlaw02.CodecStops', WHERE WHAT IT READS IS OF BULK AT MOST 1048576: true; the input reads as it did. -/
def codecStopsUptoRow : OpenClaim := { program := "ytjafkgajnohinaa", sum := "b046a421580df9f0e7d5dda4b5b50b1bab51736bb1a92139f59a2cbc2ec8e545", func := "postroad/postroadlaw02.CodecStops", spec := "codecStops", unfollowed := true, recurses := true, apart := false, narrowed := true }
def CodecStopsUptoSaid : Prop := codecStopsUptoRow.holds Try.pinned (OpenSpec.upto codecStopsSpec)

/-- 'postroadlaw02.CodecBack', WHERE WHAT IT READS IS OF BULK AT MOST 1048576: true; the input reads as it did. -/
def codecBackUptoRow : OpenClaim := { program := "ytjafkgajnohinaa", sum := "b046a421580df9f0e7d5dda4b5b50b1bab51736bb1a92139f59a2cbc2ec8e545", func := "postroad/postroadlaw02.CodecBack", spec := "codecBack", unfollowed := true, recurses := true, apart := false, narrowed := true }
def CodecBackUptoSaid : Prop := codecBackUptoRow.holds Try.pinned (OpenSpec.upto codecBackSpec)

/-- 'postroadlaw02.CodecLong', WHERE WHAT IT READS IS OF BULK AT MOST 1048576: true; the input reads as it did. -/
def codecLongUptoRow : OpenClaim := { program := "ytjafkgajnohinaa", sum := "b046a421580df9f0e7d5dda4b5b50b1bab51736bb1a92139f59a2cbc2ec8e545", func := "postroad/postroadlaw02.CodecLong", spec := "codecLong", unfollowed := true, recurses := true, apart := false, narrowed := true }
def CodecLongUptoSaid : Prop := codecLongUptoRow.holds Try.pinned (OpenSpec.upto codecLongSpec)

end Rows
end Go.Proofs.Ytjafkgajnohinaa
