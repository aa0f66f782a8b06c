import Derived.Test.YtkpjjfhfbpfjpaaK855ab7
set_option linter.unusedVariables false
set_option linter.unusedSimpArgs false
set_option maxRecDepth 100000
set_option maxHeartbeats 8000000
namespace Go.Proofs.Ytkpjjfhfbpfjpaa
open Go.RowKit
structure Mk (w:World) (base:Nat) (S0:Nat→Prop) (e:TypeId) (size:Nat) (v:Value) (l:List Dat):Prop where
 own:OwnD w base e size (fun b=>S0 b∨Beh base w v b) v l
 lo:∀ b,S0 b→b<base
 hi:base≤w.heap.size
section
variable {w w':World} {base size:Nat} {S0 X:Nat→Prop} {e:TypeId} {v:Value} {l:List Dat}
theorem Mk.start (lo:∀ b,S0 b→b<base) (hi:base≤w.heap.size) (e:TypeId) (size:Nat):Mk w base S0 e size (.slice none 0 0) [] :=
 ⟨OwnD.nil_ (fun b hb=>by rcases hb with hb | hb;{ have:=lo b hb;omega };exact hb.2.1),lo,hi⟩
theorem Mk.base_le (h:Mk w base S0 e size v l) {g:Nat} (hg:v.ownBlock=some g):base≤g∧g<w.heap.size:=by
 obtain⟨vals,h1,_⟩:=h.own;exact⟨ZaE h1 hg,ZaH h1 hg⟩
theorem Mk.keep (h:Mk w base S0 e size v l) (hf:Fr X w w') (hX:∀ b,X b→b<base∧¬ S0 b):Mk w' base S0 e size v l:=by
 have hk:Same (fun b=>S0 b∨Beh base w v b) w w':=fun b hb=>by
  rcases hb with hb | hb
  · exact hf.block b (by have:=h.lo b hb;have:=h.hi;omega) (fun hx=>(hX b hx).2 hb)
  · exact hf.block b hb.2.1 (fun hx=>by have:=(hX b hx).1;have:=hb.1;omega)
 have h1:=h.own.keep hf.size hk (fun g hg=>hf.block g (h.base_le hg).2 (fun hx=>by have:=(hX g hx).1;have:=(h.base_le hg).1;omega))
 exact⟨h1.more (fun b hb=>hb.imp id (fun hb=>⟨hb.1,Nat.lt_of_lt_of_le hb.2.1 hf.size,hb.2.2⟩)) (fun b hb=>by
  rcases hb with hb | hb
  · exact⟨by have:=h.lo b hb;have:=h.hi;have:=hf.size;omega,fun e=>by have:=(h.base_le e.symm).1;have:=h.lo b hb;omega⟩
  · exact hb.2),h.lo,Nat.le_trans h.hi hf.size⟩
theorem Mk.below (h:Mk w base S0 e size v l) (hb:Below w.heap.size w w'):Mk w' base S0 e size v l:=h.keep (X:=fun _=>False) (Fr.of_below hb) (fun _ h=>h.elim)
theorem Mk.len {A:Option Addr} {n c:Nat} (h:Mk w base S0 e size (.slice A n c) l):n=l.length:=by
 obtain⟨vals,h1,_⟩:=h.own;rcases h1.2 with ⟨e1,h0⟩ | ⟨g,cap,cur,e1,_⟩
 · injection e1 with _ e2 _;omega
 · injection e1
theorem Mk.slice {A:Option Addr} {n c:Nat} (h:Mk w base S0 e size (.slice A n c) l) (hl:Dat.bytesAll l≤140737488355328):n=l.length∧n≤c∧Sl w (fun b=>S0 b∨base≤b∧b<w.heap.size) A l :=
 h.own.slice hl (fun b hb=>hb.imp id (fun hb=>⟨hb.1,hb.2.1⟩)) (fun g h1 h2 _=>.inr ⟨h1,h2⟩)
theorem Mk.push {news vals:List Value} {d:Dat} {g cap n c m:Nat} {A:Option Addr} {a:Nat} (h:Mk w base S0 e size (.slice A n c) l) (hv:Dat.ValsAll w (fun b=>S0 b∨Beh base w (.slice A n c) b) l vals) (hd:Dat.Vals w (fun b=>S0 b∨Beh base w (.slice A n c) b) d news)
  (hm:m=n+1) (hown:w'.ownsRow base e size (.slice (some ⟨g,0,none⟩) m cap) m (vals++news)) (hg:w.grownBy w' (Value.slice A n c).ownBlock) (hat:(Value.slice A n c).ownBlock=some g∨g=w.heap.size):Mk w' base S0 e size (.slice (some ⟨g,0,none⟩) m cap) (l++[d]):=by
 obtain⟨vs,h1,h2,h3⟩:=h.own;have hn:=h.len;have hp:=Zeq hv hd h3 (by rw [hm,hn]) hown hg hat
 have hgo:∀ b,b<w.heap.size→some b≠(Value.slice A n c).ownBlock→some b≠(Value.slice (some ⟨g,0,none⟩) m cap).ownBlock:=fun b h1 h2 e=>by
  have e':b=g:=(by simpa [Value.ownBlock] using e);rcases hat with hat | hat
  · exact h2 (by rw [hat,e'])
  · omega
 have hgb:base≤g:=by
  rcases hat with hat | hat
  · exact(h.base_le hat).1
  · rw [hat];exact h.hi
 refine⟨hp.more (fun b hb=>hb.imp id (fun hb=>⟨hb.1,Nat.lt_of_lt_of_le hb.2.1 hg.size,hgo b hb.2.1 hb.2.2⟩)) (fun b hb=>?_),h.lo,Nat.le_trans h.hi hg.size⟩;rcases hb with hb | hb
 · refine⟨by have:=h.lo b hb;have:=h.hi;have:=hg.size;omega,fun e=>?_⟩;have e':b=g:=(by simpa [Value.ownBlock] using e);have:=h.lo b hb;omega
 · exact hb.2
theorem ZbT {ops:Array Oper} {rest:List Oper} {o:Oper} {a:Act} {Q:Exit→Act→World→Prop} (hgd:o.guard=none) (s x:Operand) (t:TypeId)
  (ho:o.op=.call { callee:=.builtin .append,args:=#[s,x],argTypes:=#[t,t] })
  (base:Nat) (S0:Nat→Prop) (e:TypeId) (i:TypeInfo) (z:Value) (size bytes:Nat) (ht:Try.prog.underlying t=some (.slice e)) (hi:Try.prog.info? e=some i) (hz:i.zero=some z)
  (hsize:i.size=size) (hby:i.bytes=bytes) (hzs:z.cells.size=size) (hsz:0<size)
  (w0:World) (A:Option Addr) (n c:Nat) (l:List Dat) (hM:Mk w0 base S0 e size (.slice A n c) l) (hs:a.eval s=.slice A n c)
  (d:Dat) (news:Array Value) (hd:Dat.Vals w0 (fun b=>S0 b∨Beh base w0 (.slice A n c) b) d news.toList) (hpl:d.Plain) (hds:d.size=size) (c':Nat) (hx:a.eval x=.slice (some ⟨w0.heap.size,0,none⟩) 1 c')
  (h63:n+1≤17592186044416) (hbytes:(n+1)*bytes≤140737488355328)
  (h:∀ g cap w',Mk w' base S0 e size (.slice (some ⟨g,0,none⟩) (n+1) cap) (l++[d])→Below base w0 w'→w0.heap.size<w'.heap.size→wpList Try.prog ops Q rest (a.put o.dst (.slice (some ⟨g,0,none⟩) (n+1) cap)) w') :
  wpList Try.prog ops Q (o :: rest) a (w0.alloc (.cells news e)):=by
 have hba:Below w0.heap.size w0 (w0.alloc (.cells news e)):=(Below.refl _ _).alloc nR _;have hM':=hM.below hba;obtain⟨vals,h1,h2,h3⟩:=hM'.own;have hn:=hM.len;rw [←hn] at h1
 have hd':Dat.Vals (w0.alloc (.cells news e)) (fun b=>S0 b∨Beh base (w0.alloc (.cells news e)) (.slice A n c) b) d news.toList:=by
  refine Dat.Vals.more (fun b hb=>hb.imp id (fun hb=>⟨hb.1,by have:=hb.2.1;simp;omega,hb.2.2⟩)) d _ (Dat.Vals.keep (fun b hb=>?_) d _ hd);refine Below.heap_alloc _ _ _ ?_;rcases hb with hb | hb
  · have:=hM.lo b hb;have:=hM.hi;omega
  · exact hb.2.1
 refine wpList_append_lies _ hgd s x t ho base e i z size bytes ht hi hz hsize hby hzs hsz (.slice A n c) n vals hs h1 ⟨w0.heap.size,0,none⟩ 1 c' news.toList hx
  (by rw [Dat.Vals.len _ _ hd,hds];omega) (World.news_of_block (heap_alloc_new w0 (.cells news e))) (Dat.Vals.one d _ hpl hd) (by omega) (by unfold maxLen;omega) hbytes (by have:=hM.hi;simp;omega) (w0.heap.size+1) (World.size_alloc _ _) ?_
 intro g cap w' hown hg hat hlt;refine h g cap w' (hM'.push (a:=0) h2 hd' rfl hown hg (hat.imp id (fun e=>by rw [e,World.size_alloc]))) ?_ (by have:=hg.size;simp at this;omega);have hb1:Below base w0 (w0.alloc (.cells news e)):=hba.mono hM.hi;refine hb1.trans ⟨hg.os,hg.tape,hg.output,hg.size,fun b hb=>hg.block b (by have:=hM.hi;simp;omega) (fun e=>?_)⟩;have:=(hM.base_le e.symm).1;omega
end
section
variable {w w':World} {base size:Nat} {S0 X:Nat→Prop} {e:TypeId} {v:Value} {l:List Dat}
theorem step_append_mk {ops:Array Oper} {o:Oper} {a:Act} {K:Act→World→Prop} {Q:Exit→Act→World→Prop} {E:Prop} (hgd:o.guard=none) (s x:Operand) (t:TypeId)
  (ho:o.op=.call { callee:=.builtin .append,args:=#[s,x],argTypes:=#[t,t] })
  (base:Nat) (S0:Nat→Prop) (e:TypeId) (i:TypeInfo) (z:Value) (size bytes:Nat) (ht:Try.prog.underlying t=some (.slice e)) (hi:Try.prog.info? e=some i) (hz:i.zero=some z)
  (hsize:i.size=size) (hby:i.bytes=bytes) (hzs:z.cells.size=size) (hsz:0<size)
  (w0:World) (A:Option Addr) (n c:Nat) (l:List Dat) (hM:Mk w0 base S0 e size (.slice A n c) l) (hs:a.eval s=.slice A n c)
  (d:Dat) (news:Array Value) (hd:Dat.Vals w0 (fun b=>S0 b∨Beh base w0 (.slice A n c) b) d news.toList) (hpl:d.Plain) (hds:d.size=size) (c':Nat) (hx:a.eval x=.slice (some ⟨w0.heap.size,0,none⟩) 1 c')
  (h63:n+1≤17592186044416) (hbytes:(n+1)*bytes≤140737488355328)
  (h:∀ g cap w',Mk w' base S0 e size (.slice (some ⟨g,0,none⟩) (n+1) cap) (l++[d])→Below base w0 w'→w0.heap.size<w'.heap.size→K (a.put o.dst (.slice (some ⟨g,0,none⟩) (n+1) cap)) w') :
  if Region.wanted o (yielded ops a.tmps)=true then Oper.wp Try.prog o a (w0.alloc (.cells news e)) K Q else E:=by
 have hba:Below w0.heap.size w0 (w0.alloc (.cells news e)):=(Below.refl _ _).alloc nR _;have hM':=hM.below hba;obtain⟨vals,h1,h2,h3⟩:=hM'.own;have hn:=hM.len;rw [←hn] at h1
 have hd':Dat.Vals (w0.alloc (.cells news e)) (fun b=>S0 b∨Beh base (w0.alloc (.cells news e)) (.slice A n c) b) d news.toList:=by
  refine Dat.Vals.more (fun b hb=>hb.imp id (fun hb=>⟨hb.1,by have:=hb.2.1;simp;omega,hb.2.2⟩)) d _ (Dat.Vals.keep (fun b hb=>?_) d _ hd);refine Below.heap_alloc _ _ _ ?_;rcases hb with hb | hb
  · have:=hM.lo b hb;have:=hM.hi;omega
  · exact hb.2.1
 refine step_append_lies _ hgd s x t ho base e i z size bytes ht hi hz hsize hby hzs hsz (.slice A n c) n vals hs h1 ⟨w0.heap.size,0,none⟩ 1 c' news.toList hx
  (by rw [Dat.Vals.len _ _ hd,hds];omega) (World.news_of_block (heap_alloc_new w0 (.cells news e))) (Dat.Vals.one d _ hpl hd) (by omega) (by unfold maxLen;omega) hbytes (by have:=hM.hi;simp;omega) (w0.heap.size+1) (World.size_alloc _ _) ?_
 intro g cap w' hown hg hat hlt;refine h g cap w' (hM'.push (a:=0) h2 hd' rfl hown hg (hat.imp id (fun e=>by rw [e,World.size_alloc]))) ?_ (by have:=hg.size;simp at this;omega);have hb1:Below base w0 (w0.alloc (.cells news e)):=hba.mono hM.hi;refine hb1.trans ⟨hg.os,hg.tape,hg.output,hg.size,fun b hb=>hg.block b (by have:=hM.hi;simp;omega) (fun e=>?_)⟩;have:=(hM.base_le e.symm).1;omega
end
section
variable {w w':World} {base size:Nat} {S0 X:Nat→Prop} {e:TypeId} {v:Value} {l:List Dat}
end
end Go.Proofs.Ytkpjjfhfbpfjpaa
