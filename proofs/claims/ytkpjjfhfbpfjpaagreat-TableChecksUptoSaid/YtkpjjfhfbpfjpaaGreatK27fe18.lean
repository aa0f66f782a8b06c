import Derived.Test.YtkpjjfhfbpfjpaaGreatK4c8cb1
import Derived.Laws.CopyOwn
import Derived.Laws.CopyRow
import Derived.Deep.Cut
import Derived.Deep.CutRange
import Derived.Deep.DeepCutAuto
set_option linter.unusedVariables false
set_option linter.unusedSimpArgs false
set_option maxRecDepth 100000
set_option maxHeartbeats 8000000
namespace Go.Proofs.YtkpjjfhfbpfjpaaGreat
open Go Go.RowKit
section
variable {w wr wx wl wp:World} {B0 gt cap g:Nat} {S:Nat→Prop} {s:Sch} {A0:Option Addr} {c0':Nat} {cur cur':St} {l:List Chg} {A A':Option Addr} {c c':Nat}
end
section
variable {wr W W':World} {g xb:Nat} {X:List Value} {A:Option Addr} {c:Nat} {r:Row}
end
end Go.Proofs.YtkpjjfhfbpfjpaaGreat
