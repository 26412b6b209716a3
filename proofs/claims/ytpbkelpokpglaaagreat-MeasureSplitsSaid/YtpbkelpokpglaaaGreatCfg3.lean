/- Walks: the check of a configuration (its reference), and whether it is small. -/
import Derived.Test.YtpbkelpokpglaaaGreatCfg2
set_option linter.all false
namespace Go.Proofs.YtpbkelpokpglaaaGreat
open Go.RowKit
end Go.Proofs.YtpbkelpokpglaaaGreat
