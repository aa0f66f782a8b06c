import Derived.Test.YtkpjjfhfbpfjpaaK4e30bf
set_option linter.unusedVariables false
set_option linter.unusedSimpArgs false
set_option maxRecDepth 100000
set_option maxHeartbeats 8000000
namespace Go.Proofs.Ytkpjjfhfbpfjpaa
open Go.RowKit
section
variable {w w':World} {base size:Nat} {S0 X:Nat→Prop} {e:TypeId} {v:Value} {l l2:List Dat}
theorem run_append_none2 {P:Program} {w:World} (t ty e:TypeId) (i:TypeInfo) (ht:P.underlying t=some (.slice e)) (hi:P.info? e=some i)
  (A:Option Addr) (n c:Nat) (hnc:n≤c) (B:Option Addr) (c':Nat) :
  (Builtin.append_ #[t,t] ty #[.slice A n c,.slice B 0 c']).run P w=.ok (.slice A n c) w:=by
 cases A<;>cases B<;>simp [Builtin.append_,run_underlying ht,sizeOf,typeInfo,hi,Builtin.lenOf,Builtin.firstCells,storeCells,loadCells,loadCellsFrom,hnc]
theorem Mk.cap {A:Option Addr} {n c:Nat} (h:Mk w base S0 e size (.slice A n c) l):n≤c:=by
 obtain⟨vals,h1,_⟩:=h.own;have hn:=h.len;subst hn;exact Zby h1 rfl
theorem Mk.pushs {news vals:List Value} {g cap n c m:Nat} {A:Option Addr} (h:Mk w base S0 e size (.slice A n c) l) (hv:Dat.ValsAll w (fun b=>S0 b∨Beh base w (.slice A n c) b) l vals) (hd:Dat.ValsAll w (fun b=>S0 b∨Beh base w (.slice A n c) b) l2 news)
  (hm:m=l2.length) (hown:w'.ownsRow base e size (.slice (some ⟨g,0,none⟩) (n+m) cap) (n+m) (vals++news)) (hg:w.grownBy w' (Value.slice A n c).ownBlock) (hat:(Value.slice A n c).ownBlock=some g∨g=w.heap.size):Mk w' base S0 e size (.slice (some ⟨g,0,none⟩) (n+m) cap) (l++l2):=by
 obtain⟨vs,h1,h2,h3⟩:=h.own;have hn:=h.len;have hk:Same (fun b=>S0 b∨Beh base w (.slice A n c) b) w w':=fun b hb=>hg.block b (h3 b hb).1 (h3 b hb).2
 have hgo:∀ b,b<w.heap.size→some b≠(Value.slice A n c).ownBlock→some b≠(Value.slice (some ⟨g,0,none⟩) (n+m) cap).ownBlock:=fun b h1 h2 e=>by
  have e':b=g:=(by simpa [Value.ownBlock] using e);rcases hat with hat | hat
  · exact h2 (by rw [hat,e'])
  · omega
 have hgb:base≤g:=by
  rcases hat with hat | hat
  · exact(h.base_le hat).1
  · rw [hat];exact h.hi
 refine⟨⟨vals++news,by rw [List.length_append,←hn,←hm];exact hown,Dat.ValsAll.more (fun b hb=>hb.imp id (fun hb=>⟨hb.1,Nat.lt_of_lt_of_le hb.2.1 hg.size,hgo b hb.2.1 hb.2.2⟩)) _ _ (Zav (Dat.ValsAll.keep hk _ _ hv) (Dat.ValsAll.keep hk _ _ hd)),fun b hb=>?_⟩,h.lo,Nat.le_trans h.hi hg.size⟩;rcases hb with hb | hb
 · refine⟨by have:=h.lo b hb;have:=h.hi;have:=hg.size;omega,fun e=>?_⟩;have e':b=g:=(by simpa [Value.ownBlock] using e);have:=h.lo b hb;omega
 · exact hb.2
theorem wp_append_mks {o:Oper} {a:Act} {K:Act→World→Prop} {Q:Exit→Act→World→Prop} (s x:Operand) (t:TypeId)
  (ho:o.op=.call { callee:=.builtin .append,args:=#[s,x],argTypes:=#[t,t] })
  (base:Nat) (S0:Nat→Prop) (e:TypeId) (i:TypeInfo) (z:Value) (size bytes:Nat) (ht:Try.prog.underlying t=some (.slice e)) (hi:Try.prog.info? e=some i) (hz:i.zero=some z)
  (hsize:i.size=size) (hby:i.bytes=bytes) (hzs:z.cells.size=size) (hsz:0<size)
  (w0:World) (A:Option Addr) (n c:Nat) (l:List Dat) (hM:Mk w0 base S0 e size (.slice A n c) l) (hs:a.eval s=.slice A n c)
  (l2:List Dat) (news:List Value) (hd:Dat.ValsAll w0 (fun b=>S0 b∨Beh base w0 (.slice A n c) b) l2 news) (hpl:Dat.PlainAll l2) (hds:∀ d ∈ l2,d.size=size) (B:Option Addr) (m c':Nat) (hm:m=l2.length) (hx:a.eval x=.slice B m c') (hB:0<m→∃ ad,B=some ad∧∀ j u,news[j]?=some u→w0.cell? (ad.add j)=some u)
  (h63:n+m≤17592186044416) (hbytes:(n+m)*bytes≤140737488355328)
  (h:∀ A' cap w',Mk w' base S0 e size (.slice A' (n+m) cap) (l++l2)→Below base w0 w'→K (a.put o.dst (.slice A' (n+m) cap)) w'):o.wp Try.prog a w0 K Q:=by
 rcases Nat.eq_zero_or_pos m with h0 | h0
 · subst h0;have hl2:l2=[]:=List.eq_nil_of_length_eq_zero hm.symm;subst hl2;have hr:=run_append_none2 (P:=Try.prog) (w:=w0) t o.type e i ht hi A n c hM.cap B c';unfold Oper.wp execOp;simp only [ho,resolve,invoke,builtin,Sem.run_bind,Sem.run_pure,Result.andThen_ok,List.map_toArray,List.map_cons,List.map_nil,hs,hx,hr];exact h A c w0 (by rw [List.append_nil];exact hM) (Below.refl _ _)
 · obtain⟨ad,rfl,hnews⟩:=hB h0;obtain⟨vals,h1,h2,h3⟩:=hM.own;have hn:=hM.len;rw [←hn] at h1;refine wp_append_lies _ s x t ho base e i z size bytes ht hi hz hsize hby hzs hsz (.slice A n c) n vals hs h1 ad m c' news hx (by rw [hd.len,ZcH hds,hm]) hnews (Dat.ValsAll.one _ _ hpl hd) h0 (by unfold maxLen;omega) hbytes hM.hi w0.heap.size rfl ?_;intro g cap w' hown hg hat hlt;refine h _ cap w' (hM.pushs h2 hd hm hown hg hat) ⟨hg.os,hg.tape,hg.output,hg.size,fun b hb=>hg.block b (by have:=hM.hi;omega) (fun e=>?_)⟩;have:=(hM.base_le e.symm).1;omega
theorem ZcU {ops:Array Oper} {o:Oper} {a:Act} {K:Act→World→Prop} {Q:Exit→Act→World→Prop} {E:Prop} (hgd:o.guard=none) (s x:Operand) (t:TypeId)
  (ho:o.op=.call { callee:=.builtin .append,args:=#[s,x],argTypes:=#[t,t] })
  (base:Nat) (S0:Nat→Prop) (e:TypeId) (i:TypeInfo) (z:Value) (size bytes:Nat) (ht:Try.prog.underlying t=some (.slice e)) (hi:Try.prog.info? e=some i) (hz:i.zero=some z)
  (hsize:i.size=size) (hby:i.bytes=bytes) (hzs:z.cells.size=size) (hsz:0<size)
  (w0:World) (A:Option Addr) (n c:Nat) (l:List Dat) (hM:Mk w0 base S0 e size (.slice A n c) l) (hs:a.eval s=.slice A n c)
  (l2:List Dat) (news:List Value) (hd:Dat.ValsAll w0 (fun b=>S0 b∨Beh base w0 (.slice A n c) b) l2 news) (hpl:Dat.PlainAll l2) (hds:∀ d ∈ l2,d.size=size) (B:Option Addr) (m c':Nat) (hm:m=l2.length) (hx:a.eval x=.slice B m c') (hB:0<m→∃ ad,B=some ad∧∀ j u,news[j]?=some u→w0.cell? (ad.add j)=some u)
  (h63:n+m≤17592186044416) (hbytes:(n+m)*bytes≤140737488355328)
  (h:∀ A' cap w',Mk w' base S0 e size (.slice A' (n+m) cap) (l++l2)→Below base w0 w'→K (a.put o.dst (.slice A' (n+m) cap)) w') :
  if Region.wanted o (yielded ops a.tmps)=true then Oper.wp Try.prog o a w0 K Q else E:=by
 have hw:Region.wanted o (yielded ops a.tmps)=true:=(by simp [Region.wanted,hgd]);rw [if_pos hw];exact wp_append_mks s x t ho base S0 e i z size bytes ht hi hz hsize hby hzs hsz w0 A n c l hM hs l2 news hd hpl hds B m c' hm hx hB h63 hbytes h
end
end Go.Proofs.Ytkpjjfhfbpfjpaa
