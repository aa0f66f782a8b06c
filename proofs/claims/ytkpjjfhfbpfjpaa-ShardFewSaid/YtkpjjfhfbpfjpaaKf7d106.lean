import Derived.Test.YtkpjjfhfbpfjpaaKa64ff6
import Derived.Test.YtkpjjfhfbpfjpaaK0b8b95
set_option linter.unusedVariables false
set_option linter.unusedSimpArgs false
set_option maxRecDepth 100000
set_option maxHeartbeats 8000000
namespace Go.Proofs.Ytkpjjfhfbpfjpaa
section
variable {s:Sch}
def outs (G:List (Chg × Chg)):List Chg:=G.flatMap fun p=>ZaJ p.1 p.2
end
section
variable {s:Sch}
end
section
variable {s:Sch} {t:Int}
end
section
variable {s:Sch} {m:Int}
end
section
variable {s:Sch} {m:Int}
end
end Go.Proofs.Ytkpjjfhfbpfjpaa
