/- Walks: what the functions compute. -/
import Derived.Test.YtfpipaoobmcomaaRefD
import Derived.Test.YtfpipaoobmcomaaPar
namespace Go.Proofs.Ytfpipaoobmcomaa
open Go.RowKit
set_option linter.unusedVariables false
set_option linter.unusedSimpArgs false
set_option maxRecDepth 10000

end Go.Proofs.Ytfpipaoobmcomaa
