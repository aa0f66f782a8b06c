import Derived.Test.YtkpjjfhfbpfjpaaGreatKa64ff6
import Derived.Test.YtkpjjfhfbpfjpaaGreatKffbf8f
import Derived.Test.YtkpjjfhfbpfjpaaGreatKfde3e9
import Derived.Test.YtkpjjfhfbpfjpaaGreatKb0474c
import Derived.Test.YtkpjjfhfbpfjpaaGreatK660fb2
set_option linter.unusedVariables false
set_option linter.unusedSimpArgs false
set_option maxRecDepth 100000
set_option maxHeartbeats 8000000
namespace Go.Proofs.YtkpjjfhfbpfjpaaGreat
section
variable {s:Sch}
def outs (G:List (Chg × Chg)):List Chg:=G.flatMap fun p=>Zbn p.1 p.2
end
structure NetE where
 t:Int
 key:Row
 c:Chg
section
variable {s:Sch}
end
section
variable {s:Sch} {t:Int}
end
section
variable {s:Sch} {m:Int}
end
section
variable {s:Sch} {m:Int}
end
theorem Zfc {α:Type} {l:List α} {d:α} {k:Nat} (h:k<l.length):l.getD k d=l[k]:=by simp [List.getD,h]
def TabG (tb:Tab):Prop:=1≤tb.cols.length∧tb.cols.length≤4∧1≤tb.key∧tb.key≤tb.cols.length∧∀ c ∈ tb.cols,c.kind=3∨c.kind=4∨c.kind=5
theorem Zha {id:Int} (hid:id=4∨id=5) (r1 r2 r3:List Rfr) (chk:List Pred):∀ tb ∈ Zau id r1 r2 r3 chk,TabG tb:=by
 intro tb h;simp only [Zau,List.mem_cons,List.not_mem_nil,or_false] at h;rcases h with rfl | rfl | rfl | rfl
 · refine⟨by decide,by decide,by decide,by decide,fun c hc=>?_⟩;simp only [Zey,List.mem_cons,List.not_mem_nil,or_false] at hc;rcases hc with rfl | rfl<;>simp
 · refine⟨by simp [ZcI],by simp [ZcI],by simp,by simp [ZcI],fun c hc=>?_⟩;simp only [ZcI,List.mem_cons,List.not_mem_nil,or_false] at hc;rcases hc with rfl | rfl | rfl | rfl
   · rcases hid with h | h<;>simp [h]
   all_goals simp
 · refine⟨by simp [ZcY],by simp [ZcY],by simp,by simp [ZcY],fun c hc=>?_⟩;simp only [ZcY,List.mem_cons,List.not_mem_nil,or_false] at hc;rcases hc with rfl | rfl<;>simp
 · refine⟨by simp [ZcR],by simp [ZcR],by simp,by simp [ZcR],fun c hc=>?_⟩;simp only [ZcR,List.mem_cons,List.not_mem_nil,or_false] at hc;rcases hc with rfl;rcases hid with h | h<;>simp [h]
theorem GenS.len {s:Sch} (h:GenS s):2≤s.tabs.length∧s.tabs.length≤4:=by
 obtain⟨n,v,id,b1,b2,b3,chk,rfl,h2,h4,_⟩:=h;have:(Zau id (rf0 b1 1 0) (rf0 b2 0 0) (rf0 b3 0 1) chk).length=4:=rfl;show 2≤(List.take n _).length∧(List.take n _).length≤4;rw [List.length_take];omega
theorem GenS.tab {s:Sch} (h:GenS s) {t:Nat} (ht:t<s.tabs.length):TabG (s.tabs.getD t t0):=by
 obtain⟨n,v,id,b1,b2,b3,chk,rfl,h2,h4,_,_,hid,_⟩:=h;have e:(Sch.tabs ⟨v,(Zau id (rf0 b1 1 0) (rf0 b2 0 0) (rf0 b3 0 1) chk).take n⟩).getD t t0=(List.take n (Zau id (rf0 b1 1 0) (rf0 b2 0 0) (rf0 b3 0 1) chk))[t]'ht:=Zfc ht;rw [e];exact Zha hid _ _ _ _ _ (List.mem_of_mem_take (List.getElem_mem ht))
theorem GenS.wide {s:Sch} (h:GenS s):∀ t,t<s.tabs.length→0<(s.tabs.getD t t0).cols.length:=fun t ht=>(h.tab ht).1
theorem GenS.kinds {s:Sch} (h:GenS s) {t:Nat} (ht:t<s.tabs.length):Zbv s t=(s.tabs.getD t t0).cols.map (·.kind)∧(Zbv s t).length≤4:=by
 have e:Zbv s t=(s.tabs.getD t t0).cols.map (·.kind):=by
  unfold Zbv hasN;rw [if_pos (by simp;omega),Int.toNat_natCast]
 rw [e,List.length_map];exact⟨rfl,(h.tab ht).2.1⟩
theorem Zfg {m key:Int}:∀ {cs:List Col} {r:Row} {i:Nat},r.length=cs.length→(∀ j,j<cs.length→ZaB m key (cs.getD j c0).kind (i+j) (r.getD j v0)=true)→Zaz m key i cs r=true
 | [],r,i,_,_=>by cases r<;>simp [Zaz]
 | c :: cs,[],i,h,_=>by simp at h
 | c :: cs,v :: r,i,h,hf=>by
  have h0:=hf 0 (by simp)
  have ih:=Zfg (m:=m) (key:=key) (cs:=cs) (r:=r) (i:=i+1) (by simpa using h) (fun j hj=>by
   have:=hf (j+1) (by simpa using hj);rw [show i+(j+1)=i+1+j by omega] at this;simpa using this)
  simp only [Zaz,Bool.and_eq_true];exact⟨by simpa using h0,ih⟩
theorem rowGen_fits {s:Sch} {m:Int} (h:GenS s) (hm:Zbu m=true) {t:Nat} (ht:t<s.tabs.length) {r:Row} (hr:Zhh (s.tabs.getD t t0).key m (Zbv s t) r):ZaC s t r m=true:=by
 obtain⟨h1,h2⟩:=hr;obtain⟨h3,_⟩:=h.kinds ht;have hk:=(h.tab ht).2.2.2.2;rw [h3] at h1 h2;rw [List.length_map] at h1 h2;unfold ZaC hasN;rw [Int.toNat_natCast];simp only [Bool.and_eq_true,decide_eq_true_eq];refine⟨⟨⟨hm,by omega,by omega⟩,h1⟩,Zfg h1 (fun j hj=>?_)⟩;have h4:=h2 j hj;have e1:((s.tabs.getD t t0).cols.map (·.kind)).getD j 0=((s.tabs.getD t t0).cols.getD j c0).kind:=(by rw [Zfc hj,Zfc (by simpa using hj),List.getElem_map])
 have e2:ZcW ((s.tabs.getD t t0).cols.getD j c0).kind=((s.tabs.getD t t0).cols.getD j c0).kind:=by
  have hmem:(s.tabs.getD t t0).cols.getD j c0 ∈ (s.tabs.getD t t0).cols:=by
   rw [Zfc hj];exact List.getElem_mem hj
  rcases hk _ hmem with e | e | e<;>rw [e]<;>rfl
 rw [e1,e2] at h4;rw [Nat.zero_add];exact h4
theorem put_ok {s:Sch} {m:Int} {st:St} (h:StOk s m st) {t:Nat} (ht:t<st.length) {key row:Row} (hk:0<row.length→keyF s t row=key) (hf:0<row.length→ZaC s t row m=true):StOk s m (st.set t (putR s t key row (st.getD t [])))∧putR s t key row (st.getD t [])=putL s t key row (st.getD t []):=by
 have hr:=h.2 t ht;have e:=putR_eq hr.2 key row;rw [e];exact⟨h.set (rowsOk_put hr hk hf),rfl⟩
theorem putL_len (s:Sch) (t:Int) (row:Row) (l:List Row):(putL s t (keyF s t row) row l).length≤l.length+1:=by
 have:=Zho s ⟨t,[],row⟩ l;have e:putC s ⟨t,[],row⟩ l=putL s t (keyF s t row) row l:=(by rw [putC_eq];simp [keyC]);rwa [e] at this
theorem stOk_nil {s:Sch} {m:Int} (n:Nat) (h:n=s.tabs.length):StOk s m (List.replicate n []):=by
 refine⟨by simpa using h,fun t ht=>?_⟩
 have e:(List.replicate n ([]:List Row)).getD t []=[]:=by
  have:t<n:=(by simpa using ht);simp [List.getD,this]
 rw [e];exact⟨fun r hr=>by simp at hr,fun i j _ hj=>by simp at hj⟩
end Go.Proofs.YtkpjjfhfbpfjpaaGreat
