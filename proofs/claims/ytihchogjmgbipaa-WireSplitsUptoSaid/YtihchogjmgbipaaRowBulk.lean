/- The given rows' measure of what comes in, for the logic. -/
import Derived.Test.YtihchogjmgbipaaRows
import Derived.Test.YtihchogjmgbipaaRl
namespace Go.Proofs.Ytihchogjmgbipaa
open Go.Rl
def bulk (H : Type) : Bulk H where
  one d := Rows.uptoBulk d
  all l := Rows.uptoBulkAll l
  nil := by simp [Rows.uptoBulkAll]
  cons d r := by simp [Rows.uptoBulkAll]
  pos d := by
    cases d with
    | lit l => cases l <;> simp [Rows.uptoBulk]
    | _ => simp [Rows.uptoBulk]
  string l := by simp [Rows.uptoBulk]
  slice l r := by simp only [Rows.uptoBulk]; omega
  agg l := by simp only [Rows.uptoBulk]; omega
end Go.Proofs.Ytihchogjmgbipaa
