import Derived.Test.YtkpjjfhfbpfjpaaGreatK4e30bf
set_option linter.unusedVariables false
set_option linter.unusedSimpArgs false
set_option maxRecDepth 100000
set_option maxHeartbeats 8000000
namespace Go.Proofs.YtkpjjfhfbpfjpaaGreat
open Go.RowKit
def upd {α:Type} (f:Nat→Nat→α) (i j:Nat) (x:α):Nat→Nat→α:=fun a b=>if a=i∧b=j then x else f a b
theorem ZbP {α:Type} (f:Nat→Nat→α) (i j:Nat) (x:α):upd f i j x i j=x:=if_pos ⟨rfl,rfl⟩
theorem Zcr {α:Type} {f:Nat→Nat→α} {i j a b:Nat} {x:α} (h:¬ (a=i∧b=j)):upd f i j x a b=f a b:=if_neg h
def Oth (S0:Nat→Prop) (w:World) (B0 n T:Nat) (V:Nat→Nat→Value):Nat→Prop:=fun b=>S0 b∨(B0≤b∧b<w.heap.size∧∀ i j,i<n→j<T→some b≠(V i j).ownBlock)
structure Grid (w:World) (B0:Nat) (e TT:TypeId) (size:Nat) (S0:Nat→Prop) (n T:Nat) (G:Nat→Nat) (C V:Nat→Nat→Value) (L:Nat→Nat→List Dat):Prop where
 blk:∀ i,i<n→∃ vs:List Value,vs.length=T∧(∀ j,j<T→vs[j]?=some (C i j))∧w.heap[G i]?=some (.cells vs.toArray TT (0,0))
 own:∀ i j,i<n→j<T→OwnD w B0 e size (Oth S0 w B0 n T V) (V i j) (L i j)
 dis:∀ i j i' j',i<n→j<T→i'<n→j'<T→∀ b,(V i j).ownBlock=some b→(V i' j').ownBlock=some b→i=i'∧j=j'
 inj:∀ i i',i<n→i'<n→G i=G i'→i=i'
 lo:∀ i,i<n→G i<B0
 s0:∀ b,S0 b→b<B0∧∀ i,i<n→b≠G i
 hi:B0≤w.heap.size
section
variable {w w':World} {B0 size n T:Nat} {e TT:TypeId} {S0 X:Nat→Prop} {G:Nat→Nat} {C V:Nat→Nat→Value} {L:Nat→Nat→List Dat}
theorem OwnD.lt {v:Value} {l:List Dat} {S:Nat→Prop} (h:OwnD w B0 e size S v l) {g:Nat} (hg:v.ownBlock=some g):B0≤g∧g<w.heap.size:=by
 obtain⟨vals,h1,_⟩:=h;exact⟨Zaz h1 hg,ZaO h1 hg⟩
theorem Grid.cell (h:Grid w B0 e TT size S0 n T G C V L) {i j:Nat} (hi:i<n) (hj:j<T):w.cell? ⟨G i,j,none⟩=some (C i j)∧w.frozen? ⟨G i,j,none⟩=false:=by
 obtain⟨vs,h1,h2,h3⟩:=h.blk i hi;refine⟨?_,by simp [World.frozen?,h3]⟩;simp only [World.cell?,h3];simpa using h2 j hj
theorem Grid.form (h:Grid w B0 e TT size S0 n T G C V L) {i j:Nat} (hi:i<n) (hj:j<T):∃ A c,V i j=.slice A (L i j).length c:=by
 obtain⟨vals,h1,_⟩:=h.own i j hi hj;exact Zel h1
theorem Grid.keep (h:Grid w B0 e TT size S0 n T G C V L) (hf:Fr X w w') (hX:∀ b,X b→b<B0∧¬ S0 b∧∀ i,i<n→b≠G i):Grid w' B0 e TT size S0 n T G C V L:=by
 have hsz:=hf.size;have hO:∀ b,Oth S0 w B0 n T V b→Oth S0 w' B0 n T V b:=fun b hb=>hb.imp id (fun hb=>⟨hb.1,by omega,hb.2.2⟩)
 have hk:Same (Oth S0 w B0 n T V) w w':=fun b hb=>by
  rcases hb with hb | hb
  · exact hf.block b (by have:=(h.s0 b hb).1;have:=h.hi;omega) (fun hx=>(hX b hx).2.1 hb)
  · exact hf.block b hb.2.1 (fun hx=>by have:=(hX b hx).1;omega)
 refine⟨fun i hi=>?_,fun i j hi hj=>?_,h.dis,h.inj,h.lo,h.s0,Nat.le_trans h.hi hsz⟩
 · obtain⟨vs,h1,h2,h3⟩:=h.blk i hi;exact⟨vs,h1,h2,(hf.block _ (Zad h3) (fun hx=>(hX _ hx).2.2 i hi rfl)).trans h3⟩
 · have ho:=h.own i j hi hj;have h1:=ho.keep hsz hk (fun g hg=>hf.block g (ho.lt hg).2 (fun hx=>by have:=(hX g hx).1;have:=(ho.lt hg).1;omega));refine h1.more hO (fun b hb=>?_);rcases hb with hb | hb
   · exact⟨by have:=(h.s0 b hb).1;have:=h.hi;omega,fun e=>by have:=(ho.lt e.symm).1;have:=(h.s0 b hb).1;omega⟩
   · exact⟨hb.2.1,hb.2.2 i j hi hj⟩
theorem Grid.below (h:Grid w B0 e TT size S0 n T G C V L) (hb:Below w.heap.size w w'):Grid w' B0 e TT size S0 n T G C V L:=h.keep (X:=fun _=>False) (Fr.of_below hb) (fun _ h=>h.elim)
theorem Grid.push (h:Grid w B0 e TT size S0 n T G C V L) {i j:Nat} (hi:i<n) (hj:j<T) {vals news:List Value} {d:Dat} {g cap m:Nat} (hv:Dat.ValsAll w (Oth S0 w B0 n T V) (L i j) vals) (hd:Dat.Vals w (Oth S0 w B0 n T V) d news) (hm:m=(L i j).length+1)
  (hown:w'.ownsRow B0 e size (.slice (some ⟨g,0,none⟩) m cap) m (vals++news)) (hg:w.grownBy w' (V i j).ownBlock) (hat:(V i j).ownBlock=some g∨g=w.heap.size) :
  Grid w' B0 e TT size S0 n T G C (upd V i j (.slice (some ⟨g,0,none⟩) m cap)) (upd L i j (L i j++[d])):=by
 have hsz:=hg.size;have ho:=h.own i j hi hj;obtain⟨_,_,_,hS⟩:=ho;have ho:=h.own i j hi hj
 have hO:∀ b,Oth S0 w B0 n T V b→Oth S0 w' B0 n T (upd V i j (.slice (some ⟨g,0,none⟩) m cap)) b:=fun b hb=>by
  rcases hb with hb | hb
  · exact .inl hb
  · refine .inr ⟨hb.1,by omega,fun a c ha hc=>?_⟩
    by_cases e1:a=i∧c=j
    · obtain⟨rfl,rfl⟩:=e1;rw [ZbP];intro e2;have e3:b=g:=(by simpa [Value.ownBlock] using e2);rcases hat with hat | hat
      · exact hb.2.2 a c ha hc (by rw [hat,e3])
      · omega
    · rw [Zcr e1];exact hb.2.2 a c ha hc
 have hgb:B0≤g:=by
  rcases hat with hat | hat
  · exact(ho.lt hat).1
  · rw [hat];exact h.hi
 have hlow:∀ b,Oth S0 w' B0 n T (upd V i j (.slice (some ⟨g,0,none⟩) m cap)) b→b<w'.heap.size∧∀ a c,a<n→c<T→some b≠(upd V i j (.slice (some ⟨g,0,none⟩) m cap) a c).ownBlock:=fun b hb=>by
  rcases hb with hb | hb
  · refine⟨by have:=(h.s0 b hb).1;have:=h.hi;omega,fun a c ha hc e=>?_⟩;have h5:=(h.s0 b hb).1
    by_cases e1:a=i∧c=j
    · obtain⟨rfl,rfl⟩:=e1;rw [ZbP] at e;have e3:b=g:=(by simpa [Value.ownBlock] using e);omega
    · rw [Zcr e1] at e;have:=((h.own a c ha hc).lt e.symm).1;omega
  · exact hb.2
 have hk:Same (Oth S0 w B0 n T V) w w':=fun b hb=>hg.block b (hS b hb).1 (hS b hb).2;refine⟨fun a ha=>?_,fun a c ha hc=>?_,fun a c a' c' ha hc ha' hc' b hb hb'=>?_,h.inj,h.lo,h.s0,Nat.le_trans h.hi hsz⟩
 · obtain⟨vs,h1,h2,h3⟩:=h.blk a ha;exact⟨vs,h1,h2,(hg.block _ (Zad h3) (fun e=>by have:=(ho.lt e.symm).1;have:=h.lo a ha;omega)).trans h3⟩
 · by_cases e1:a=i∧c=j
   · obtain⟨rfl,rfl⟩:=e1;rw [ZbP,ZbP];exact(Zgo hv hd hS hm hown hg hat).more hO (fun b hb=>⟨(hlow b hb).1,by have:=(hlow b hb).2 a c ha hc;rwa [ZbP] at this⟩)
   · rw [Zcr e1,Zcr e1];have hoa:=h.own a c ha hc;refine(hoa.keep hsz hk (fun q hq=>hg.block q (hoa.lt hq).2 (fun e=>e1 (h.dis a c i j ha hc hi hj q hq e.symm)))).more hO (fun b hb=>⟨(hlow b hb).1,by have:=(hlow b hb).2 a c ha hc;rwa [Zcr e1] at this⟩)
 · by_cases e1:a=i∧c=j
   · obtain⟨rfl,rfl⟩:=e1;rw [ZbP] at hb;have e3:g=b:=by simpa [Value.ownBlock] using hb
     by_cases e2:a'=a∧c'=c
     · exact⟨e2.1.symm,e2.2.symm⟩
     · rw [Zcr e2] at hb';rcases hat with hat | hat
       · exact h.dis a c a' c' ha hc ha' hc' g hat (by rw [hb',e3])
       · have:=((h.own a' c' ha' hc').lt hb').2;omega
   · rw [Zcr e1] at hb
     by_cases e2:a'=i∧c'=j
     · obtain⟨rfl,rfl⟩:=e2;rw [ZbP] at hb';have e3:g=b:=(by simpa [Value.ownBlock] using hb');rcases hat with hat | hat
       · exact h.dis a c a' c' ha hc ha' hc' g (by rw [hb,e3]) hat
       · have:=((h.own a c ha hc).lt hb).2;omega
     · rw [Zcr e2] at hb';exact h.dis a c a' c' ha hc ha' hc' b hb hb'
theorem Grid.store (h:Grid w B0 e TT size S0 n T G C V L) {i j:Nat} (hi:i<n) (hj:j<T) (v:Value):Grid (w.setCell ⟨G i,j,none⟩ v) B0 e TT size S0 n T G (upd C i j v) V L:=by
 have hne:∀ b,b≠G i→(w.setCell ⟨G i,j,none⟩ v).heap[b]?=w.heap[b]?:=fun b hb=>Below.heap_setCell w ⟨G i,j,none⟩ v b hb;have hO:∀ b,Oth S0 w B0 n T V b→Oth S0 (w.setCell ⟨G i,j,none⟩ v) B0 n T V b:=fun b hb=>hb.imp id (fun hb=>⟨hb.1,by simpa using hb.2.1,hb.2.2⟩)
 have hk:Same (Oth S0 w B0 n T V) w (w.setCell ⟨G i,j,none⟩ v):=fun b hb=>hne b (fun e=>by
  rcases hb with hb | hb
  · exact(h.s0 b hb).2 i hi e
  · have:=h.lo i hi;omega)
 refine⟨fun a ha=>?_,fun a c ha hc=>?_,h.dis,h.inj,h.lo,h.s0,by simpa using h.hi⟩
 · obtain⟨vs,h1,h2,h3⟩:=h.blk a ha
   by_cases e1:a=i
   · subst e1;refine⟨vs.set j v,by simpa using h1,fun c hc=>?_,Zaf h3⟩
     by_cases e2:c=j
     · subst e2;rw [ZbP,List.getElem?_set_self (by omega)]
     · rw [Zcr (by omega),List.getElem?_set_ne (by omega)];exact h2 c hc
   · refine⟨vs,h1,fun c hc=>by rw [Zcr (by omega)];exact h2 c hc,(hne _ (fun e=>e1 (h.inj a i ha hi e))).trans h3⟩
 · have ho:=h.own a c ha hc;refine(ho.keep (by simp) hk (fun g hg=>hne g (fun e=>by have:=(ho.lt hg).1;have:=h.lo i hi;omega))).more hO (fun b hb=>?_);rcases hb with hb | hb
   · exact⟨by have:=(h.s0 b hb).1;have:=h.hi;simp;omega,fun e=>by have:=(ho.lt e.symm).1;have:=(h.s0 b hb).1;omega⟩
   · exact⟨hb.2.1,hb.2.2 a c ha hc⟩
theorem Grid.congr {L':Nat→Nat→List Dat} (h:Grid w B0 e TT size S0 n T G C V L) (hL:∀ i j,i<n→j<T→L' i j=L i j):Grid w B0 e TT size S0 n T G C V L' :=
 ⟨h.blk,fun i j hi hj=>by rw [hL i j hi hj];exact h.own i j hi hj,h.dis,h.inj,h.lo,h.s0,h.hi⟩
theorem Grid.start (hb:∀ i,i<n→w.heap[G i]?=some (.cells (Zao T).toArray TT (0,0))) (hinj:∀ i i',i<n→i'<n→G i=G i'→i=i') (hlo:∀ i,i<n→G i<B0) (hs:∀ b,S0 b→b<B0∧∀ i,i<n→b≠G i) (hhi:B0≤w.heap.size) :
  Grid w B0 e TT size S0 n T G (fun _ _=>.slice none 0 0) (fun _ _=>.slice none 0 0) (fun _ _=>[]) :=
 ⟨fun i hi => ⟨Zao T, by simp [Zao], fun j hj => by simp [Zao, hj], hb i hi⟩, fun i j hi hj => OwnD.nil_ (fun b hb => by
     rcases hb with hb | hb
     · have:=(hs b hb).1;omega
     · exact hb.2.1),fun i j i' j' hi hj hi' hj' b hb=>by simp [Value.ownBlock] at hb,hinj,hlo,hs,hhi⟩
theorem Grid.row (h:Grid w B0 e TT size S0 n T G V V L) {i:Nat} (hi:i<n) (hl:∀ j,j<T→Dat.bytesAll (L i j)≤140737488355328) {S':Nat→Prop} (hS':∀ b,S0 b∨(B0≤b∧b<w.heap.size)→S' b) :
  ∃ vs:List Value,w.heap[G i]?=some (.cells vs.toArray TT (0,0))∧Dat.ValsAll w S' ((List.range T).map fun j=>Dat.slice (L i j)) vs:=by
 obtain⟨vs,h1,h2,h3⟩:=h.blk i hi;refine⟨vs,h3,?_⟩
 have key:∀ k,k≤T→Dat.ValsAll w S' ((List.range k).map fun j=>Dat.slice (L i j)) (vs.take k):=by
  intro k;induction k with
  | zero=>intro _;simp only [List.range_zero,List.map_nil,List.take_zero];unfold Dat.ValsAll;rfl
  | succ k ih =>
   intro hk;rw [List.range_succ,List.map_append,List.take_add_one,h2 k (by omega)];refine Zay (ih (by omega)) (ZaS ?_);have ho:=h.own i k hi (by omega);obtain⟨A,c,hf⟩:=h.form hi (show k<T by omega);rw [hf] at ho;obtain⟨e1,e2,e3⟩:=ho.slice (S':=S') (hl k (by omega)) (fun b hb=>hS' b (hb.imp id (fun hb=>⟨hb.1,hb.2.1⟩))) (fun g g1 g2 _=>hS' g (.inr ⟨g1,g2⟩));rw [hf];unfold Dat.Vals;exact⟨A,c,rfl,e2,e3⟩
 have:=key T nR;rwa [List.take_of_length_le (by omega)] at this
theorem ZcT {ops:Array Oper} {o:Oper} {a:Act} {K:Act→World→Prop} {Q:Exit→Act→World→Prop} {E:Prop} (hgd:o.guard=none) (s x:Operand) (t:TypeId)
  (ho:o.op=.call { callee:=.builtin .append,args:=#[s,x],argTypes:=#[t,t] })
  (info:TypeInfo) (z:Value) (bytes:Nat) (ht:Tryz.prog.underlying t=some (.slice e)) (hi0:Tryz.prog.info? e=some info) (hz:info.zero=some z)
  (hsize:info.size=size) (hby:info.bytes=bytes) (hzs:z.cells.size=size) (hsz:0<size)
  (w0:World) (h:Grid w0 B0 e TT size S0 n T G C V L) {i j:Nat} (hi:i<n) (hj:j<T) (hs:a.eval s=V i j)
  (d:Dat) (news:Array Value) (hd:Dat.Vals w0 (Oth S0 w0 B0 n T V) d news.toList) (hpl:d.Plain) (hds:d.size=size) (c':Nat) (hx:a.eval x=.slice (some ⟨w0.heap.size,0,none⟩) 1 c')
  (h63:(L i j).length+1≤17592186044416) (hbytes:((L i j).length+1)*bytes≤140737488355328)
  (hK:∀ g cap w',Grid w' B0 e TT size S0 n T G C (upd V i j (.slice (some ⟨g,0,none⟩) ((L i j).length+1) cap)) (upd L i j (L i j++[d]))→w0.grownBy w' (V i j).ownBlock→K (a.put o.dst (.slice (some ⟨g,0,none⟩) ((L i j).length+1) cap)) w') :
  if Region.wanted o (yielded ops a.tmps)=true then Oper.wp Tryz.prog o a (w0.alloc (.cells news e)) K Q else E:=by
 have hba:Below w0.heap.size w0 (w0.alloc (.cells news e)):=(Below.refl _ _).alloc nR _;have h':=h.below hba;obtain⟨vals,h1,h2,h3⟩:=h'.own i j hi hj
 have hd':Dat.Vals (w0.alloc (.cells news e)) (Oth S0 (w0.alloc (.cells news e)) B0 n T V) d news.toList:=by
  refine Dat.Vals.more (fun b hb=>hb.imp id (fun hb=>⟨hb.1,by have:=hb.2.1;simp;omega,hb.2.2⟩)) d _ (Dat.Vals.keep (fun b hb=>?_) d _ hd);refine Below.heap_alloc _ _ _ ?_;rcases hb with hb | hb
  · have:=(h.s0 b hb).1;have:=h.hi;omega
  · exact hb.2.1
 refine step_append_lies _ hgd s x t ho B0 e info z size bytes ht hi0 hz hsize hby hzs hsz (V i j) (L i j).length vals hs h1 ⟨w0.heap.size,0,none⟩ 1 c' news.toList hx
  (by rw [Dat.Vals.len _ _ hd,hds];omega) (World.news_of_block (heap_alloc_new w0 (.cells news e))) (Dat.Vals.one d _ hpl hd) (by omega) (by unfold maxLen;omega) hbytes (by have:=h.hi;simp;omega) (w0.heap.size+1) (World.size_alloc _ _) ?_
 intro g cap w' hown hg hat hlt;refine hK g cap w' (h'.push hi hj h2 hd' rfl hown hg (hat.imp id (fun e=>by rw [e,World.size_alloc]))) ?_;exact(World.grownBy_alloc w0 _ _).trans hg
end
end Go.Proofs.YtkpjjfhfbpfjpaaGreat
