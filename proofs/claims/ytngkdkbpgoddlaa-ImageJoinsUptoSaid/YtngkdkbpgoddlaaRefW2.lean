import Derived.Test.YtngkdkbpgoddlaaRefW1
set_option linter.unusedVariables false
set_option linter.unusedSimpArgs false
namespace Go.Proofs.Ytngkdkbpgoddlaa
open Go.RowKit Go.Rl

open Go.Codec
theorem refMany_at {v : Value} {s t : St} {most m : Int} {size : Nat} {w : World} {b : Nat} (hB : SlB vb b w v s.1) (hbw : b ≤ w.heap.size) (hz0 : 0 < size) (hm0 : -9223372036854775808 ≤ most) (hm1 : most ≤ 9223372036854775807) (hq : manyR s most size = (t, m)) :
    Gives Try.prog 26 #[TV v s.2, vi most, vi (size : Int)] w (fun r w' => ∃ x, r = .tuple #[TV x t.2, vi m] ∧ SlB vb b w' x t.1 ∧ Ext w w') := by
  have h := refMany_calls b v s most size w hB hbw hz0 hm0 hm1
  rw [hq] at h
  exact h

end Go.Proofs.Ytngkdkbpgoddlaa
