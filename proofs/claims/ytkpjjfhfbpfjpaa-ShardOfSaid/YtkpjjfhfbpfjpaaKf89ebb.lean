import Derived.Test.YtkpjjfhfbpfjpaaK6b6f2e
set_option linter.unusedVariables false
set_option linter.unusedSimpArgs false
set_option maxRecDepth 100000
set_option maxHeartbeats 8000000
namespace Go.Proofs.Ytkpjjfhfbpfjpaa
end Go.Proofs.Ytkpjjfhfbpfjpaa
