import Derived.Test.YtkpjjfhfbpfjpaaGreatKa64ff6
set_option linter.unusedVariables false
set_option linter.unusedSimpArgs false
set_option maxRecDepth 100000
set_option maxHeartbeats 8000000
namespace Go.Proofs.YtkpjjfhfbpfjpaaGreat
section
variable {s:Sch}
def outs (G:List (Chg × Chg)):List Chg:=G.flatMap fun p=>Zbw p.1 p.2
end
section
variable {s:Sch}
end
end Go.Proofs.YtkpjjfhfbpfjpaaGreat

