import Derived.Test.YtkpjjfhfbpfjpaaGreatK4e30bf
set_option linter.unusedVariables false
set_option linter.unusedSimpArgs false
set_option maxRecDepth 100000
set_option maxHeartbeats 8000000
namespace Go.Proofs.YtkpjjfhfbpfjpaaGreat
open Go.RowKit
theorem Zdr {w:World} {b:Nat} {cs:Array Value} {t:TypeId} (h:w.heap[b]?=some (.cells cs t (0,0))):CellsAt w b 0 cs.toList:=fun j u hu=>by
 rw [Nat.zero_add];simp only [World.cell?,h];simpa using hu
def Lst (w:World) (base gN n k:Nat) (TT:TypeId) (D:List Dat):Prop :=
 ∃ vs:List Value,vs.length=k∧w.heap[gN]?=some (.cells (vs++Zam (n - k)).toArray TT (0,0))∧Dat.ValsAll w (fun b=>base≤b∧b<w.heap.size) (D.take k) vs
section
variable {w w':World} {base gN n k:Nat} {TT:TypeId} {D:List Dat}
theorem Lst.zero (h:w.heap[gN]?=some (.cells (Zam n).toArray TT (0,0))):Lst w base gN n 0 TT D :=
 ⟨[],rfl,by simpa using h,by simp only [List.take_zero];unfold Dat.ValsAll;rfl⟩
theorem Lst.lt (h:Lst w base gN n k TT D):gN<w.heap.size:=by
 obtain⟨_,_,h,_⟩:=h;exact Zac h
theorem Lst.below (h:Lst w base gN n k TT D) (hb:Below w.heap.size w w'):Lst w' base gN n k TT D:=by
 obtain⟨vs,h1,h2,h3⟩:=h;exact⟨vs,h1,(hb.block gN (Zac h2)).trans h2,Dat.ValsAll.more (fun b hb'=>⟨hb'.1,Nat.lt_of_lt_of_le hb'.2 hb.size⟩) _ _ (Dat.ValsAll.keep (fun b hb'=>hb.block b hb'.2) _ _ h3)⟩
theorem Lst.cell (h:Lst w base gN n k TT D) (hk:k<n):w.cell? ⟨gN,k,none⟩=some (.slice none 0 0)∧w.frozen? ⟨gN,k,none⟩=false:=by
 obtain⟨vs,h1,h2,_⟩:=h;refine⟨?_,by simp [World.frozen?,h2]⟩
 have h9:=Zdr h2 k (.slice none 0 0) (by
  show (vs++Zam (n - k))[k]?=_;rw [List.getElem?_append_right (by omega),show k - vs.length=0 by omega];obtain⟨m,hm⟩:∃ m,n - k=m+1:=⟨n - k - 1,by omega⟩;rw [hm];rfl)
 rwa [Nat.zero_add] at h9
theorem Lst.put (h:Lst w base gN n k TT D) (hk:k<n) (hg:gN<base) {v:Value} {d:Dat} (hd:D[k]?=some d) (hv:Dat.Vals w (fun b=>base≤b∧b<w.heap.size) d [v]):Lst (w.setCell ⟨gN,k,none⟩ v) base gN n (k+1) TT D:=by
 obtain⟨vs,h1,h2,h3⟩:=h;have hne:∀ b,base≤b∧b<w.heap.size→(w.setCell ⟨gN,k,none⟩ v).heap[b]?=w.heap[b]?:=fun b hb=>Below.heap_setCell w ⟨gN,k,none⟩ v b (by show b≠gN;omega);refine⟨vs++[v],by simp [h1],?_,?_⟩
 · have e:(vs++Zam (n - k)).set k v=vs++[v]++Zam (n - (k+1)):=by
     rw [show n - k=n - (k+1)+1 by omega];subst h1;simp [Zam,List.replicate_succ,List.set_append]
   rw [←e];exact Zag h2
 · have hlt:=(List.getElem?_eq_some_iff.1 hd).1
   have e2:D.take (k+1)=D.take k++[d]:=by
    rw [List.take_succ_eq_append_getElem hlt]
    congr 2
    exact(List.getElem?_eq_some_iff.1 hd).2
   rw [e2];refine Dat.ValsAll.more (fun b hb=>⟨hb.1,by simpa using hb.2⟩) _ _ (Zbf (Dat.ValsAll.keep hne _ _ h3) (Zba (Dat.Vals.keep hne _ _ hv)))
theorem Lst.done (h:Lst w base gN n n TT D) (hn:D.length=n) (hb:Dat.bytesAll D≤140737488355328) {S':Nat→Prop} (hg:S' gN) (hS:∀ b,base≤b∧b<w.heap.size→S' b):Sl w S' (some ⟨gN,0,none⟩) D:=by
 obtain⟨vs,h1,h2,h3⟩:=h;rw [List.take_of_length_le (by omega)] at h3;rw [show Zam (n - n)=[] by simp [Zam],List.append_nil] at h2;exact Sl.of_vals hb (Dat.ValsAll.more hS _ _ h3) (fun _=>⟨gN,0,rfl,hg,Zdr h2⟩)
end
end Go.Proofs.YtkpjjfhfbpfjpaaGreat
