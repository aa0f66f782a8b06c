import Derived.Test.YtkpjjfhfbpfjpaaGreatK4e30bf
set_option linter.unusedVariables false
set_option linter.unusedSimpArgs false
set_option maxRecDepth 100000
set_option maxHeartbeats 8000000
namespace Go.Proofs.YtkpjjfhfbpfjpaaGreat
open Go.RowKit
section
variable {w w':World} {base gN n k:Nat} {TT:TypeId} {D:List Dat}
end
end Go.Proofs.YtkpjjfhfbpfjpaaGreat
