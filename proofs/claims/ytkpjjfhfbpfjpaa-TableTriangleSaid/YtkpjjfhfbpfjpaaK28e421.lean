import Derived.Test.YtkpjjfhfbpfjpaaK49244f
import Derived.Test.YtkpjjfhfbpfjpaaK5cc749
set_option linter.unusedVariables false
set_option linter.unusedSimpArgs false
set_option maxRecDepth 100000
set_option maxHeartbeats 8000000
namespace Go.Proofs.Ytkpjjfhfbpfjpaa
open Go.RowKit
structure Kp (g:Nat) (w w':World):Prop where
 sz:w.heap.size≤w'.heap.size
 blk:∀ b,b<w.heap.size→b≠g→w'.heap[b]?=w.heap[b]?
abbrev LtG (w:World) (g:Nat):Nat→Prop:=fun b=>b<w.heap.size∧b≠g
def Bx (w:World) (g b:Nat) (vs:Array Value) (t:TypeId):Prop:=w.heap[b]?=some (.cells vs t (0,0))∧b≠g
section
variable {g:Nat} {w w':World} {A:Option Addr}
theorem Kp.below (h:Below w.heap.size w w'):Kp g w w':=⟨h.size,fun b hb _=>h.block b hb⟩
theorem Kp.grown (h:w.grownBy w' (some g)):Kp g w w':=⟨h.size,fun b hb hn=>h.block b hb (fun e=>by injection e with e;exact hn e)⟩
theorem Kp.lt (k:Kp g w w'):∀ b,LtG w g b→LtG w' g b:=fun b hb=>⟨by have:=k.sz;have:=hb.1;omega,hb.2⟩
theorem Kp.sl {l:List Dat} (k:Kp g w w') (h:Sl w (LtG w g) A l):Sl w' (LtG w' g) A l:=Sl.more (Sl.keep h (fun b hb=>k.blk b hb.1 hb.2)) k.lt
theorem Kp.tab {l:List Tab} (k:Kp g w w') (h:TabS w (LtG w g) A l):TabS w' (LtG w' g) A l:=k.sl h
theorem Kp.st {l:St} (k:Kp g w w') (h:StS w (LtG w g) A l):StS w' (LtG w' g) A l:=k.sl h
theorem Kp.ch {l:List Chg} (k:Kp g w w') (h:ChgS w (LtG w g) A l):ChgS w' (LtG w' g) A l:=k.sl h
theorem Kp.bx {b:Nat} {vs:Array Value} {t:TypeId} (k:Kp g w w') (h:Bx w g b vs t):Bx w' g b vs t:=⟨(k.blk b (Zad h.1) h.2).trans h.1,h.2⟩
theorem Bx.lt {b:Nat} {vs:Array Value} {t:TypeId} (h:Bx w g b vs t):b<w.heap.size:=Zad h.1
theorem Bx.at_ {b:Nat} {vs:Array Value} {t:TypeId} (h:Bx w g b vs t) (j:Nat) (u:Value) (hu:vs.toList[j]?=some u):w.cell? ⟨b,j,none⟩=some u:=by
 have:=Zaa h.1 j u hu;rwa [Nat.zero_add] at this
end
end Go.Proofs.Ytkpjjfhfbpfjpaa
