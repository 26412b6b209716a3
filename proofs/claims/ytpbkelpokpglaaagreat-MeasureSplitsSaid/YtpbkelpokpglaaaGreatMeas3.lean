/- Walks: Of of the reference of measure. -/
import Derived.Test.YtpbkelpokpglaaaGreatMeas2
set_option linter.all false
namespace Go.Proofs.YtpbkelpokpglaaaGreat
open Go.RowKit
/-- The figures' block in the round k of the last loop. -/
@[reducible] def figL (l : List St) (k : Nat) : Array Value := #[.int .i64 (cnt l 1), .int .i64 (cnt l 2), .int .i64 (cnt l 3), .int .i64 (cnt l 4), .int .i64 (cnt l 5), .int .i64 (cnt l 10),
  .int .i64 (cnt l 14), .int .i64 (cnt l 15), .int .i64 (cnt l 11), .int .i64 (cnt l 12), .int .i64 (cnt l 16), .int .i64 (latSum l k), .int .i64 (latMax l k)]
@[reducible] def figObj : Obj := .cells #[.int .i64 0, .int .i64 0, .int .i64 0, .int .i64 0, .int .i64 0, .int .i64 0, .int .i64 0, .int .i64 0, .int .i64 0, .int .i64 0, .int .i64 0, .int .i64 0, .int .i64 0] 44
end Go.Proofs.YtpbkelpokpglaaaGreat
