import Derived.Test.YtjadnfodboepeaaGreatK6a
import Derived.Deep.Slices
set_option linter.all false
set_option maxRecDepth 100000
set_option maxHeartbeats 8000000
namespace Go.Proofs.YtjadnfodboepeaaGreat
open Go.RowKit Go.Deep
def Stp (w w':World) (B:Nat) (F:TypeId->Array Value->Array Value->Prop):Prop:=∀ g z e,B<=g->w.heap[g]?=some (.cells z e (0,0))->∃ E,w'.heap[g]?=some (.cells E e (0,0))/\E.size=z.size/\F e z E
section
variable {w w':World} {B B' lo N lo' N' n size:Nat} {e:TypeId} {E E':Array Value->Nat->Prop} {u v:Value} {R:TypeId->Array Value->Array Value->Prop}
end
section
variable {w w':World} {B lo N lo' N' n:Nat}
end
section
variable {w wr wx:World} {g lo N n lo' N' n':Nat} {A A':Option Addr} {c c':Nat}
end
section
variable {w wr wx:World} {g n c m d n' c' m' d':Nat} {t t':Int} {A B A' B':Option Addr}
end
section
variable {w w':World} {B B' n:Nat} {r:Row} {A:Option Addr} {c:Nat} {v:Value}
end
end Go.Proofs.YtjadnfodboepeaaGreat
