import Derived.Test.YtkpjjfhfbpfjpaaGreatK205b2e
set_option linter.unusedVariables false
set_option linter.unusedSimpArgs false
set_option maxRecDepth 100000
set_option maxHeartbeats 8000000
namespace Go.Proofs.YtkpjjfhfbpfjpaaGreat
open Go.RowKit
theorem infoR:(Tryz.prog.info? 42).map (fun i=>(i.zero,i.size,i.bytes))=some (some (.slice none 0 0),1,24):=by kernel_rfl
theorem getElem?_of_take {α:Type} {l:List α} {k j:Nat} {u:α} (h:(l.take k)[j]?=some u):l[j]?=some u:=by
 rw [List.getElem?_take] at h;split at h
 · exact h
 · cases h
theorem ZaO {w':World} {A:Option Addr} {c base n:Nat} {r:Row} (h:w'.ownsRow base 89 3 (.slice A r.length c) r.length (Zak r)) (hl:RowOk r) (hn:n≤base):r.length≤c∧RowS w' (fun b=>n≤b∧b<w'.heap.size) A r:=⟨ZdJ h rfl,(ZaI hl h).more (fun b hb=>⟨by omega,hb.2⟩)⟩
theorem Zbt {w:World} {S:Nat→Prop} {A:Option Addr} {c:Nat} {r:Row} (h1:r.length≤c) (h2:RowS w S A r):Dat.Vals w S (Zax r) [.slice A r.length c]:=by
 unfold Zax Dat.Vals;exact⟨A,c,by simp,by simpa using h1,h2⟩
end Go.Proofs.YtkpjjfhfbpfjpaaGreat
