import Derived.Test.YtkpjjfhfbpfjpaaK25401f
import Derived.Test.YtkpjjfhfbpfjpaaKb0474c
import Derived.Test.YtkpjjfhfbpfjpaaK660fb2
import Derived.Test.YtkpjjfhfbpfjpaaKc9b616
set_option linter.unusedVariables false
set_option linter.unusedSimpArgs false
set_option maxRecDepth 100000
set_option maxHeartbeats 8000000
namespace Go.Proofs.Ytkpjjfhfbpfjpaa
theorem getD_lt {α:Type} {l:List α} {d:α} {k:Nat} (h:k<l.length):l.getD k d=l[k]:=by simp [List.getD,h]
def TabG (tb:Tab):Prop:=1≤tb.cols.length∧tb.cols.length≤4∧1≤tb.key∧tb.key≤tb.cols.length∧∀ c ∈ tb.cols,c.kind=3∨c.kind=4∨c.kind=5
theorem gen_tabs {id:Int} (hid:id=4∨id=5) (r1 r2 r3:List Rfr) (chk:List Pred):∀ tb ∈ Zav id r1 r2 r3 chk,TabG tb:=by
 intro tb h;simp only [Zav,List.mem_cons,List.not_mem_nil,or_false] at h;rcases h with rfl | rfl | rfl | rfl
 · refine⟨by decide,by decide,by decide,by decide,fun c hc=>?_⟩;simp only [ZdF,List.mem_cons,List.not_mem_nil,or_false] at hc;rcases hc with rfl | rfl<;>simp
 · refine⟨by simp [Zcf],by simp [Zcf],by simp,by simp [Zcf],fun c hc=>?_⟩;simp only [Zcf,List.mem_cons,List.not_mem_nil,or_false] at hc;rcases hc with rfl | rfl | rfl | rfl
   · rcases hid with h | h<;>simp [h]
   all_goals simp
 · refine⟨by simp [Zcw],by simp [Zcw],by simp,by simp [Zcw],fun c hc=>?_⟩;simp only [Zcw,List.mem_cons,List.not_mem_nil,or_false] at hc;rcases hc with rfl | rfl<;>simp
 · refine⟨by simp [Zce],by simp [Zce],by simp,by simp [Zce],fun c hc=>?_⟩;simp only [Zce,List.mem_cons,List.not_mem_nil,or_false] at hc;rcases hc with rfl;rcases hid with h | h<;>simp [h]
theorem GenS.len {s:Sch} (h:GenS s):2≤s.tabs.length∧s.tabs.length≤4:=by
 obtain⟨n,v,id,b1,b2,b3,chk,rfl,h2,h4,_⟩:=h;have:(Zav id (rf0 b1 1 0) (rf0 b2 0 0) (rf0 b3 0 1) chk).length=4:=rfl;show 2≤(List.take n _).length∧(List.take n _).length≤4;rw [List.length_take];omega
theorem GenS.tab {s:Sch} (h:GenS s) {t:Nat} (ht:t<s.tabs.length):TabG (s.tabs.getD t t0):=by
 obtain⟨n,v,id,b1,b2,b3,chk,rfl,h2,h4,_,_,hid,_⟩:=h;have e:(Sch.tabs ⟨v,(Zav id (rf0 b1 1 0) (rf0 b2 0 0) (rf0 b3 0 1) chk).take n⟩).getD t t0=(List.take n (Zav id (rf0 b1 1 0) (rf0 b2 0 0) (rf0 b3 0 1) chk))[t]'ht:=getD_lt ht;rw [e];exact gen_tabs hid _ _ _ _ _ (List.mem_of_mem_take (List.getElem_mem ht))
end Go.Proofs.Ytkpjjfhfbpfjpaa
