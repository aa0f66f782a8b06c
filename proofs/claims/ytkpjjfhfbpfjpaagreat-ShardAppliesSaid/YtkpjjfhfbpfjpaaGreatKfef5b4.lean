import Derived.Test.YtkpjjfhfbpfjpaaGreatK64d55c
set_option linter.unusedVariables false
set_option linter.unusedSimpArgs false
set_option maxRecDepth 100000
set_option maxHeartbeats 8000000
namespace Go.Proofs.YtkpjjfhfbpfjpaaGreat
section
variable {α:Type} {f:α→α→Int}
end
end Go.Proofs.YtkpjjfhfbpfjpaaGreat
