import Derived.Test.YtkpjjfhfbpfjpaaK1c92d1
import Derived.Test.YtkpjjfhfbpfjpaaK4e30bf
set_option linter.unusedVariables false
set_option linter.unusedSimpArgs false
set_option maxRecDepth 100000
set_option maxHeartbeats 8000000
namespace Go.Proofs.Ytkpjjfhfbpfjpaa
theorem ZdF (a b:List Row) (i:Nat) (h:i<a.length):(a++b).getD i []=a.getD i []:=by simp [List.getD,List.getElem?_append_left h]
theorem ZdE (a b:List Row) (i:Nat) (h:a.length≤i):(a++b).getD i []=b.getD (i - a.length) []:=by simp [List.getD,List.getElem?_append_right h]
theorem Zda {s:Sch} {t:Int} {a b:List Row} (ha:Asc s t a) (hb:Asc s t b) (hab:∀ x ∈ a,∀ y ∈ b,cmpR (keyF s t x) (keyF s t y)<0):Asc s t (a++b):=by
 intro i j hij hj;rw [List.length_append] at hj
 by_cases h1:j<a.length
 · rw [ZdF _ _ _ (by omega),ZdF _ _ _ h1];exact ha i j hij h1
 · by_cases h2:i<a.length
   · rw [ZdF _ _ _ h2,ZdE _ _ _ (by omega)];refine hab _ ?_ _ ?_
     · simp [List.getD,h2]
     · have:j - a.length<b.length:=(by omega);simp [List.getD,this]
   · rw [ZdE _ _ _ (by omega),ZdE _ _ _ (by omega)];exact hb _ _ (by omega) (by omega)
theorem asc_take {s:Sch} {t:Int} {l:List Row} (h:Asc s t l) (k:Nat):Asc s t (l.take k):=by
 intro i j hij hj;rw [List.length_take] at hj;have e:∀ x,x<k→(l.take k).getD x []=l.getD x []:=(fun x hx=>by simp [List.getD,List.getElem?_take,hx]);rw [e i (by omega),e j (by omega)];exact h i j hij (by omega)
theorem ZeF {l:List Row} (k i:Nat):(l.drop k).getD i []=l.getD (k+i) []:=by simp [List.getD,List.getElem?_drop]
theorem asc_drop {s:Sch} {t:Int} {l:List Row} (h:Asc s t l) (k:Nat):Asc s t (l.drop k):=by
 intro i j hij hj;rw [List.length_drop] at hj;rw [ZeF,ZeF];exact h _ _ (by omega) (by omega)
theorem asc_one (s:Sch) (t:Int) (r:Row):Asc s t [r]:=fun i j hij hj=>by simp at hj;omega
theorem put_len (s:Sch) (c:Chg) (l:List Row):(putC s c l).length≤l.length+1:=by
 unfold putC;have:=ZfM s c.table (keyC s c) l;simp only [List.length_append,List.length_take];split<;>split<;>simp<;>omega
open Go.RowKit
theorem Zaj {w:World} {o:Obj} {b k:Nat} (h:b<w.heap.size):(w.alloc o).cell? ⟨b,k,none⟩=w.cell? ⟨b,k,none⟩:=World.cell?_of_block (Below.heap_alloc w o b h)
theorem Zcp {w:World} {o:Obj} {b k:Nat} (h:b<w.heap.size):(w.alloc o).frozen? ⟨b,k,none⟩=w.frozen? ⟨b,k,none⟩:=World.frozen?_of_block (Below.heap_alloc w o b h)
theorem Zaf {w:World} {cs:Array Value} {t:TypeId} {n k:Nat} {v:Value} (hn:n=w.heap.size) (h:cs[k]?=some v):(w.alloc (.cells cs t)).cell? ⟨n,k,none⟩=some v:=by
 subst hn;rw [cell_of_row _ _ _ _ _ _ (heap_alloc_new w (.cells cs t))];exact h
theorem ZaO {w:World} {cs:Array Value} {t:TypeId} {n k:Nat} (hn:n=w.heap.size):(w.alloc (.cells cs t)).frozen? ⟨n,k,none⟩=false:=by
 subst hn;have h:=heap_alloc_new w (.cells cs t);unfold World.frozen?;rw [h];simp
theorem drop_chg {l:List Chg} {k:Nat} (h:k<l.length):l.drop k=l.getD k chg0 :: l.drop (k+1):=by
 rw [List.drop_eq_getElem_cons h];simp [List.getD,h]
theorem Zdu {s:Sch} {m:Int} {c:Chg} (h:Zaz s m c=true):∃ tt:Nat,c.table=tt∧tt<s.tabs.length:=by
 unfold Zaz at h;simp only [Bool.and_eq_true,hasN,decide_eq_true_eq] at h;obtain⟨tt,htt⟩:=Int.eq_ofNat_of_zero_le h.1.1.1.1.1;exact⟨tt,htt,by have:=h.1.1.1.1.2;omega⟩
theorem valid_some {s:Sch} {m:Int} {c:Chg} (h:Zaz s m c=true):0<c.old.length∨0<c.new.length:=by
 unfold Zaz at h;simp only [Bool.and_eq_true,Bool.not_eq_true',Bool.and_eq_false_iff,decide_eq_false_iff_not] at h;have:=h.1.1.1.2;omega
end Go.Proofs.Ytkpjjfhfbpfjpaa
