import Derived.Test.YtkpjjfhfbpfjpaaGreatKffbf8f
set_option linter.unusedVariables false
set_option linter.unusedSimpArgs false
set_option maxRecDepth 100000
set_option maxHeartbeats 8000000
namespace Go.Proofs.YtkpjjfhfbpfjpaaGreat
open Go.RowKit
end Go.Proofs.YtkpjjfhfbpfjpaaGreat
