import Derived.Test.YtkpjjfhfbpfjpaaGreatK42e91f
import Derived.Test.YtkpjjfhfbpfjpaaGreatK4e30bf
set_option linter.unusedVariables false
set_option linter.unusedSimpArgs false
set_option maxRecDepth 100000
set_option maxHeartbeats 8000000
namespace Go.Proofs.YtkpjjfhfbpfjpaaGreat
theorem countF_set (st:St) (t:Nat) (l:List Row) (h:t<st.length):(Zao (st.set t l):Int)=Zao st+(l.length - (st.getD t []).length:Int):=by
 induction st generalizing t with
 | nil=>simp at h
 | cons a r ih =>
  cases t with
  | zero=>simp only [List.set_cons_zero,Zao,List.getD_cons_zero];omega
  | succ t =>
   have:=ih t (by simpa using h);simp only [List.set_cons_succ,Zao,List.getD_cons_succ];omega
theorem Zbc (st:St) (t:Nat):(st.getD t []).length≤Zao st:=by
 induction st generalizing t with
 | nil=>simp
 | cons a r ih =>
  cases t with
  | zero=>simp [Zao]
  | succ t=>have:=ih t;simp only [Zao,List.getD_cons_succ];omega
theorem Zhc {s:Sch} {m:Int} {c:Chg} (hv:Zap s m c=true) (hn:0<c.new.length):keyF s c.table c.new=keyC s c:=by
 unfold keyC;split
 · rename_i h0
   unfold Zap at hv;simp only [Bool.and_eq_true,Bool.or_eq_true,decide_eq_true_eq,beq_iff_eq] at hv;rcases hv.2 with (h | h) | h
   · omega
   · omega
   · exact((cmpR_is.zero _ _).1 h).symm
 · rfl
theorem Zfn (a b:List Row) (i:Nat) (h:i<a.length):(a++b).getD i []=a.getD i []:=by simp [List.getD,List.getElem?_append_left h]
theorem Zfm (a b:List Row) (i:Nat) (h:a.length≤i):(a++b).getD i []=b.getD (i - a.length) []:=by simp [List.getD,List.getElem?_append_right h]
theorem Zez {s:Sch} {t:Int} {a b:List Row} (ha:Asc s t a) (hb:Asc s t b) (hab:∀ x ∈ a,∀ y ∈ b,cmpR (keyF s t x) (keyF s t y)<0):Asc s t (a++b):=by
 intro i j hij hj;rw [List.length_append] at hj
 by_cases h1:j<a.length
 · rw [Zfn _ _ _ (by omega),Zfn _ _ _ h1];exact ha i j hij h1
 · by_cases h2:i<a.length
   · rw [Zfn _ _ _ h2,Zfm _ _ _ (by omega)];refine hab _ ?_ _ ?_
     · simp [List.getD,h2]
     · have:j - a.length<b.length:=(by omega);simp [List.getD,this]
   · rw [Zfm _ _ _ (by omega),Zfm _ _ _ (by omega)];exact hb _ _ (by omega) (by omega)
theorem asc_take {s:Sch} {t:Int} {l:List Row} (h:Asc s t l) (k:Nat):Asc s t (l.take k):=by
 intro i j hij hj;rw [List.length_take] at hj;have e:∀ x,x<k→(l.take k).getD x []=l.getD x []:=(fun x hx=>by simp [List.getD,List.getElem?_take,hx]);rw [e i (by omega),e j (by omega)];exact h i j hij (by omega)
theorem ZgJ {l:List Row} (k i:Nat):(l.drop k).getD i []=l.getD (k+i) []:=by simp [List.getD,List.getElem?_drop]
theorem asc_drop {s:Sch} {t:Int} {l:List Row} (h:Asc s t l) (k:Nat):Asc s t (l.drop k):=by
 intro i j hij hj;rw [List.length_drop] at hj;rw [ZgJ,ZgJ];exact h _ _ (by omega) (by omega)
theorem asc_one (s:Sch) (t:Int) (r:Row):Asc s t [r]:=fun i j hij hj=>by simp at hj;omega
theorem put_len (s:Sch) (c:Chg) (l:List Row):(putC s c l).length≤l.length+1:=by
 unfold putC;have:=low_le s c.table (keyC s c) l;simp only [List.length_append,List.length_take];split<;>split<;>simp<;>omega
open Go.RowKit
theorem Zah {w:World} {o:Obj} {b k:Nat} (h:b<w.heap.size):(w.alloc o).cell? ⟨b,k,none⟩=w.cell? ⟨b,k,none⟩:=World.cell?_of_block (Below.heap_alloc w o b h)
theorem Zby {w:World} {o:Obj} {b k:Nat} (h:b<w.heap.size):(w.alloc o).frozen? ⟨b,k,none⟩=w.frozen? ⟨b,k,none⟩:=World.frozen?_of_block (Below.heap_alloc w o b h)
theorem Zaf {w:World} {cs:Array Value} {t:TypeId} {n k:Nat} {v:Value} (hn:n=w.heap.size) (h:cs[k]?=some v):(w.alloc (.cells cs t)).cell? ⟨n,k,none⟩=some v:=by
 subst hn;rw [cell_of_row _ _ _ _ _ _ (heap_alloc_new w (.cells cs t))];exact h
theorem ZaN {w:World} {cs:Array Value} {t:TypeId} {n k:Nat} (hn:n=w.heap.size):(w.alloc (.cells cs t)).frozen? ⟨n,k,none⟩=false:=by
 subst hn;have h:=heap_alloc_new w (.cells cs t);unfold World.frozen?;rw [h];simp
theorem drop_chg {l:List Chg} {k:Nat} (h:k<l.length):l.drop k=l.getD k chg0 :: l.drop (k+1):=by
 rw [List.drop_eq_getElem_cons h];simp [List.getD,h]
theorem Zfd {s:Sch} {m:Int} {c:Chg} (h:Zap s m c=true):∃ tt:Nat,c.table=tt∧tt<s.tabs.length:=by
 unfold Zap at h;simp only [Bool.and_eq_true,hasN,decide_eq_true_eq] at h;obtain⟨tt,htt⟩:=Int.eq_ofNat_of_zero_le h.1.1.1.1.1;exact⟨tt,htt,by have:=h.1.1.1.1.2;omega⟩
theorem Zel {s:Sch} {m:Int} {c:Chg} (h:Zap s m c=true):0<c.old.length∨0<c.new.length:=by
 unfold Zap at h;simp only [Bool.and_eq_true,Bool.not_eq_true',Bool.and_eq_false_iff,decide_eq_false_iff_not] at h;have:=h.1.1.1.2;omega
end Go.Proofs.YtkpjjfhfbpfjpaaGreat
