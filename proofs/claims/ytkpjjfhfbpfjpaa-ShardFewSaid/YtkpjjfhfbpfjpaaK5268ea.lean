import Derived.Test.YtkpjjfhfbpfjpaaK1c92d1
import Derived.Test.YtkpjjfhfbpfjpaaKefeab0
import Derived.Lib.SliceRun
set_option linter.unusedVariables false
set_option linter.unusedSimpArgs false
set_option maxRecDepth 100000
set_option maxHeartbeats 8000000
namespace Go.Proofs.Ytkpjjfhfbpfjpaa
open Go.RowKit
mutual
def Dat.Vals (w:World) (S:Nat→Prop):Dat→List Value→Prop
 | .lit v,vs=>vs=[v]∧ZfE v
 | .slice l,vs=>∃ A c,vs=[.slice A l.length c]∧l.length≤c∧Sl w S A l
 | .agg l,vs=>Dat.ValsAll w S l vs
def Dat.ValsAll (w:World) (S:Nat→Prop):List Dat→List Value→Prop
 | [],vs=>vs=[]
 | d :: r,vs=>∃ a b,vs=a++b∧Dat.Vals w S d a∧Dat.ValsAll w S r b
end
mutual
def Dat.Plain:Dat→Prop
 | .lit v=>v.oneCell'=true
 | .slice _=>True
 | .agg l=>Dat.PlainAll l
def Dat.PlainAll:List Dat→Prop
 | []=>True
 | d :: r=>Dat.Plain d∧Dat.PlainAll r
end
theorem Zdg {α:Type} {enc:α→Dat} (h:∀ a,(enc a).Plain):∀ l:List α,Dat.PlainAll (l.map enc)
 | []=>by simp [Dat.PlainAll]
 | a :: r=>by simp only [List.map_cons,Dat.PlainAll];exact⟨h a,Zdg h r⟩
section
variable {w w':World} {S S':Nat→Prop}
mutual
theorem Dat.Vals.keep (hk:Same S w w'):∀ (d:Dat) (vs:List Value),Dat.Vals w S d vs→Dat.Vals w' S d vs
 | .lit v,vs,h=>by unfold Dat.Vals at h ⊢;exact h
 | .slice l,vs,h=>by
  unfold Dat.Vals at h ⊢;obtain⟨A,c,h1,h2,h3⟩:=h;exact⟨A,c,h1,h2,h3.keep hk⟩
 | .agg l,vs,h=>by unfold Dat.Vals at h ⊢;exact Dat.ValsAll.keep hk l vs h
theorem Dat.ValsAll.keep (hk:Same S w w'):∀ (l:List Dat) (vs:List Value),Dat.ValsAll w S l vs→Dat.ValsAll w' S l vs
 | [],vs,h=>by unfold Dat.ValsAll at h ⊢;exact h
 | d :: r,vs,h=>by
  unfold Dat.ValsAll at h ⊢;obtain⟨a,b,e,h1,h2⟩:=h;exact⟨a,b,e,Dat.Vals.keep hk d a h1,Dat.ValsAll.keep hk r b h2⟩
end
mutual
theorem Dat.Vals.more (hk:∀ b,S b→S' b):∀ (d:Dat) (vs:List Value),Dat.Vals w S d vs→Dat.Vals w S' d vs
 | .lit v,vs,h=>by unfold Dat.Vals at h ⊢;exact h
 | .slice l,vs,h=>by
  unfold Dat.Vals at h ⊢;obtain⟨A,c,h1,h2,h3⟩:=h;exact⟨A,c,h1,h2,h3.more hk⟩
 | .agg l,vs,h=>by unfold Dat.Vals at h ⊢;exact Dat.ValsAll.more hk l vs h
theorem Dat.ValsAll.more (hk:∀ b,S b→S' b):∀ (l:List Dat) (vs:List Value),Dat.ValsAll w S l vs→Dat.ValsAll w S' l vs
 | [],vs,h=>by unfold Dat.ValsAll at h ⊢;exact h
 | d :: r,vs,h=>by
  unfold Dat.ValsAll at h ⊢;obtain⟨a,b,e,h1,h2⟩:=h;exact⟨a,b,e,Dat.Vals.more hk d a h1,Dat.ValsAll.more hk r b h2⟩
end
mutual
theorem Dat.Vals.len:∀ (d:Dat) (vs:List Value),Dat.Vals w S d vs→vs.length=d.size
 | .lit v,vs,h=>by unfold Dat.Vals at h;rw [h.1];simp [Dat.size]
 | .slice l,vs,h=>by
  unfold Dat.Vals at h;obtain⟨A,c,h1,_⟩:=h;rw [h1];simp [Dat.size]
 | .agg l,vs,h=>by unfold Dat.Vals at h;simp only [Dat.size];exact Dat.ValsAll.len l vs h
theorem Dat.ValsAll.len:∀ (l:List Dat) (vs:List Value),Dat.ValsAll w S l vs→vs.length=Dat.sizes l
 | [],vs,h=>by unfold Dat.ValsAll at h;rw [h];simp [Dat.sizes]
 | d :: r,vs,h=>by
  unfold Dat.ValsAll at h;obtain⟨a,b,e,h1,h2⟩:=h;rw [e,List.length_append,Dat.Vals.len d a h1,Dat.ValsAll.len r b h2];simp [Dat.sizes]
end
mutual
theorem Dat.Vals.one:∀ (d:Dat) (vs:List Value),d.Plain→Dat.Vals w S d vs→∀ u ∈ vs,u.oneCell'=true
 | .lit v,vs,hp,h,u,hu=>by
  unfold Dat.Vals at h;unfold Dat.Plain at hp;rw [h.1] at hu;rw [List.mem_singleton] at hu;rw [hu];exact hp
 | .slice l,vs,hp,h,u,hu=>by
  unfold Dat.Vals at h;obtain⟨A,c,h1,_⟩:=h;rw [h1,List.mem_singleton] at hu;rw [hu];rfl
 | .agg l,vs,hp,h,u,hu=>by
  unfold Dat.Vals at h;unfold Dat.Plain at hp;exact Dat.ValsAll.one l vs hp h u hu
theorem Dat.ValsAll.one:∀ (l:List Dat) (vs:List Value),Dat.PlainAll l→Dat.ValsAll w S l vs→∀ u ∈ vs,u.oneCell'=true
 | [],vs,_,h,u,hu=>by unfold Dat.ValsAll at h;rw [h] at hu;simp at hu
 | d :: r,vs,hp,h,u,hu=>by
  unfold Dat.ValsAll at h;unfold Dat.PlainAll at hp;obtain⟨a,b,e,h1,h2⟩:=h;rw [e,List.mem_append] at hu;rcases hu with hu | hu
  · exact Dat.Vals.one d a hp.1 h1 u hu
  · exact Dat.ValsAll.one r b hp.2 h2 u hu
end
def CellsAt (w:World) (b off:Nat) (vs:List Value):Prop:=∀ j u,vs[j]?=some u→w.cell? ⟨b,off+j,none⟩=some u
theorem CellsAt.left {b off:Nat} {x y:List Value} (h:CellsAt w b off (x++y)):CellsAt w b off x:=fun j u hu=>h j u (by rw [List.getElem?_append_left (List.getElem?_eq_some_iff.1 hu).1];exact hu)
theorem CellsAt.right {b off:Nat} {x y:List Value} (h:CellsAt w b off (x++y)):CellsAt w b (off+x.length) y:=fun j u hu=>by
 have:=h (x.length+j) u (by rw [List.getElem?_append_right (by omega)];simpa using hu);rwa [show off+(x.length+j)=off+x.length+j by omega] at this
theorem CellsAt.join {b off:Nat} {x y:List Value} (h:CellsAt w b off x) (h':CellsAt w b (off+x.length) y):CellsAt w b off (x++y):=fun j u hu=>by
 rcases Nat.lt_or_ge j x.length with hj | hj
 · rw [List.getElem?_append_left hj] at hu;exact h j u hu
 · rw [List.getElem?_append_right hj] at hu;have:=h' (j - x.length) u hu;rwa [show off+x.length+(j - x.length)=off+j by omega] at this
theorem CellsAt.add {b off:Nat} {x:List Value} (h:CellsAt w b off x):∀ j u,x[j]?=some u→w.cell? ((⟨b,off,none⟩:Addr).add j)=some u:=fun j u hu=>by rw [ZcM];exact h j u hu
theorem CellsAt.keep {b off:Nat} {x:List Value} (h:CellsAt w b off x) (hk:w'.heap[b]?=w.heap[b]?):CellsAt w' b off x:=fun j u hu=>(World.cell?_of_block (w:=w) (a:=⟨b,off+j,none⟩) hk).trans (h j u hu)
mutual
theorem held_cells:∀ (d:Dat) (b off:Nat),Dat.Held w S d b off→∃ vs,Dat.Vals w S d vs∧CellsAt w b off vs
 | .lit v,b,off,h=>by
  unfold Dat.Held at h;refine⟨[v],by unfold Dat.Vals;exact⟨rfl,h.2⟩,fun j u hu=>?_⟩;cases j with
  | zero=>simp only [List.getElem?_cons_zero,Option.some.injEq] at hu;subst hu;exact h.1
  | succ j=>simp at hu
 | .slice l,b,off,h=>by
  unfold Dat.Held at h;obtain⟨A,c,h1,h2,h3,h4⟩:=h;refine⟨[.slice A l.length c],by unfold Dat.Vals;exact⟨A,c,rfl,h2,h3,h4⟩,fun j u hu=>?_⟩;cases j with
  | zero=>simp only [List.getElem?_cons_zero,Option.some.injEq] at hu;subst hu;exact h1
  | succ j=>simp at hu
 | .agg l,b,off,h=>by unfold Dat.Held at h;unfold Dat.Vals;exact heldAll_cells l b off h
theorem heldAll_cells:∀ (l:List Dat) (b off:Nat),Dat.HeldAll w S l b off→∃ vs,Dat.ValsAll w S l vs∧CellsAt w b off vs
 | [],b,off,_=>⟨[],by unfold Dat.ValsAll;rfl,fun j u hu=>by simp at hu⟩
 | d :: r,b,off,h=>by
  unfold Dat.HeldAll at h;obtain⟨v1,h1,h2⟩:=held_cells d b off h.1;obtain⟨v2,h3,h4⟩:=heldAll_cells r b _ h.2;refine⟨v1++v2,by unfold Dat.ValsAll;exact⟨v1,v2,rfl,h1,h3⟩,h2.join ?_⟩;rw [Dat.Vals.len d v1 h1];exact h4
end
mutual
theorem held_of_cells:∀ (d:Dat) (vs:List Value) (b off:Nat),Dat.Vals w S d vs→CellsAt w b off vs→Dat.Held w S d b off
 | .lit v,vs,b,off,h,hc=>by
  unfold Dat.Vals at h;unfold Dat.Held;exact⟨hc 0 v (by rw [h.1];rfl),h.2⟩
 | .slice l,vs,b,off,h,hc=>by
  unfold Dat.Vals at h;unfold Dat.Held;obtain⟨A,c,h1,h2,h3,h4⟩:=h;exact⟨A,c,hc 0 _ (by rw [h1];rfl),h2,h3,h4⟩
 | .agg l,vs,b,off,h,hc=>by unfold Dat.Vals at h;unfold Dat.Held;exact heldAll_of_cells l vs b off h hc
theorem heldAll_of_cells:∀ (l:List Dat) (vs:List Value) (b off:Nat),Dat.ValsAll w S l vs→CellsAt w b off vs→Dat.HeldAll w S l b off
 | [],vs,b,off,_,_=>by unfold Dat.HeldAll;trivial
 | d :: r,vs,b,off,h,hc=>by
  unfold Dat.ValsAll at h;unfold Dat.HeldAll;obtain⟨x,y,e,h1,h2⟩:=h;subst e;refine⟨held_of_cells d x b off h1 hc.left,heldAll_of_cells r y b _ h2 ?_⟩;have:=hc.right;rwa [Dat.Vals.len d x h1] at this
end
theorem Sl.vals {A:Option Addr} {l:List Dat} (h:Sl w S A l):∃ vs,Dat.ValsAll w S l vs∧(0<l.length→∃ b off,A=some ⟨b,off,none⟩∧S b∧CellsAt w b off vs):=by
 rcases Nat.eq_zero_or_pos l.length with h0 | h0
 · have:l=[]:=List.eq_nil_of_length_eq_zero h0;subst this;exact⟨[],by unfold Dat.ValsAll;rfl,fun h=>by simp at h⟩
 · obtain⟨b,off,e,hb,hc⟩:=h.2 h0;obtain⟨vs,h1,h2⟩:=heldAll_cells l b off hc;exact⟨vs,h1,fun _=>⟨b,off,e,hb,h2⟩⟩
theorem Sl.of_vals {A:Option Addr} {l:List Dat} {vs:List Value} (hl:Dat.bytesAll l≤140737488355328) (h:Dat.ValsAll w S l vs) (hc:0<l.length→∃ b off,A=some ⟨b,off,none⟩∧S b∧CellsAt w b off vs):Sl w S A l :=
 ⟨hl,fun hn=>by
  obtain⟨b,off,e,hb,h1⟩:=hc hn;exact⟨b,off,e,hb,heldAll_of_cells l vs b off h h1⟩⟩
theorem Zbl:∀ {l l':List Dat} {vs vs':List Value},Dat.ValsAll w S l vs→Dat.ValsAll w S l' vs'→Dat.ValsAll w S (l++l') (vs++vs')
 | [],_,_,_,h,h'=>by unfold Dat.ValsAll at h;rw [h];exact h'
 | d :: r,l',vs,vs',h,h'=>by
  unfold Dat.ValsAll at h;obtain⟨a,b,e,h1,h2⟩:=h;rw [List.cons_append];unfold Dat.ValsAll;exact⟨a,b++vs',by rw [e,List.append_assoc],h1,Zbl h2 h'⟩
theorem ZaT {d:Dat} {vs:List Value} (h:Dat.Vals w S d vs):Dat.ValsAll w S [d] vs:=by
 unfold Dat.ValsAll;exact⟨vs,[],by simp,h,by unfold Dat.ValsAll;rfl⟩
theorem ZbR:∀ {l l':List Dat} {vs:List Value},Dat.ValsAll w S (l++l') vs→∃ a b,vs=a++b∧Dat.ValsAll w S l a∧Dat.ValsAll w S l' b
 | [],_,vs,h=>⟨[],vs,by simp,by unfold Dat.ValsAll;rfl,h⟩
 | d :: r,l',vs,h=>by
  rw [List.cons_append] at h;unfold Dat.ValsAll at h;obtain⟨a,b,e,h1,h2⟩:=h;obtain⟨x,y,e',h3,h4⟩:=ZbR h2;exact⟨a++x,y,by rw [e,e',List.append_assoc],by unfold Dat.ValsAll;exact⟨a,x,rfl,h1,h3⟩,h4⟩
theorem ZcC {n:Nat}:∀ {l:List Dat},(∀ d ∈ l,d.size=n)→Dat.sizes l=l.length*n
 | [],_=>by simp [Dat.sizes]
 | d :: r,h=>by
  have h1:=h d (by simp);have h2:=ZcC (l:=r) (fun x hx=>h x (by simp [hx]));simp only [Dat.sizes,List.length_cons,Nat.succ_mul,h1,h2];omega
theorem Zca {α:Type} {enc:α→Dat} {n:Nat} (h:∀ a,(enc a).size=n) (l:List α):Dat.sizes (l.map enc)=l.length*n:=by
 rw [ZcC (n:=n) (fun d hd=>by obtain⟨a,_,rfl⟩:=List.mem_map.1 hd;exact h a),List.length_map]
theorem Zdb {α:Type} {enc:α→Dat} {n:Nat} (hs:∀ a,(enc a).size=n) {l:List α} {vs:List Value} (h:Dat.ValsAll w S (l.map enc) vs) (k:Nat) (hk:k≤l.length):Dat.ValsAll w S ((l.take k).map enc) (vs.take (k*n))∧Dat.ValsAll w S ((l.drop k).map enc) (vs.drop (k*n)):=by
 rw [←List.take_append_drop k l,List.map_append] at h;obtain⟨a,b,e,h1,h2⟩:=ZbR h;have hl:a.length=k*n:=(by rw [Dat.ValsAll.len _ a h1,Zca hs,List.length_take,Nat.min_eq_left hk]);subst e;rw [←hl,List.take_left,List.drop_left];exact⟨h1,h2⟩
end
def OwnD (w:World) (base:Nat) (e:TypeId) (size:Nat) (S:Nat→Prop) (v:Value) (l:List Dat):Prop :=
 ∃ vals,w.ownsRow base e size v l.length vals∧Dat.ValsAll w S l vals∧∀ b,S b→b<w.heap.size∧some b≠v.ownBlock
section
variable {w w':World} {S S':Nat→Prop} {base size:Nat} {e:TypeId} {v v':Value} {l:List Dat}
theorem OwnD.nil_ (hS:∀ b,S b→b<w.heap.size):OwnD w base e size S (.slice none 0 0) [] :=
 ⟨[],World.ownsRow_nil _ _ _ _,by unfold Dat.ValsAll;rfl,fun b hb=>⟨hS b hb,by simp [Value.ownBlock]⟩⟩
theorem ZaV {n:Nat} {xs:List Value} (h:w.ownsRow base e size v n xs) (hk:∀ g,v.ownBlock=some g→w'.heap[g]?=w.heap[g]?):w'.ownsRow base e size v n xs:=by
 refine⟨h.1,?_⟩;rcases h.2 with h0 | ⟨g,cap,cur,rfl,h1,h2,h3⟩
 · exact .inl h0
 · exact .inr ⟨g,cap,cur,rfl,h1,(hk g rfl).trans h2,h3⟩
theorem OwnD.keep (h:OwnD w base e size S v l) (hsz:w.heap.size≤w'.heap.size) (hk:Same S w w') (hv:∀ g,v.ownBlock=some g→w'.heap[g]?=w.heap[g]?):OwnD w' base e size S v l:=by
 obtain⟨vals,h1,h2,h3⟩:=h;exact⟨vals,ZaV h1 hv,Dat.ValsAll.keep hk l vals h2,fun b hb=>⟨Nat.lt_of_lt_of_le (h3 b hb).1 hsz,(h3 b hb).2⟩⟩
theorem ZaH {n:Nat} {xs:List Value} (h:w.ownsRow base e size v n xs) {g:Nat} (hg:v.ownBlock=some g):g<w.heap.size:=by
 obtain⟨_,cur,hh⟩:=ZdY h hg;exact Zah hh
theorem OwnD.below (h:OwnD w base e size S v l) (hb:Below w.heap.size w w'):OwnD w' base e size S v l:=by
 obtain⟨vals,h1,h2,h3⟩:=h;exact OwnD.keep ⟨vals,h1,h2,h3⟩ hb.size (fun b hb'=>hb.block b (h3 b hb').1) (fun g hg=>hb.block g (ZaH h1 hg))
theorem OwnD.more (h:OwnD w base e size S v l) (hS:∀ b,S b→S' b) (hS':∀ b,S' b→b<w.heap.size∧some b≠v.ownBlock):OwnD w base e size S' v l:=by
 obtain⟨vals,h1,h2,h3⟩:=h;exact⟨vals,h1,Dat.ValsAll.more hS l vals h2,hS'⟩
theorem Zej {vals news:List Value} {d:Dat} {g cap n:Nat} (hv:Dat.ValsAll w S l vals) (hd:Dat.Vals w S d news) (hS:∀ b,S b→b<w.heap.size∧some b≠v.ownBlock) (hn:n=l.length+1)
  (hown:w'.ownsRow base e size (.slice (some ⟨g,0,none⟩) n cap) n (vals++news)) (hg:w.grownBy w' v.ownBlock) (hat:v.ownBlock=some g∨g=w.heap.size):OwnD w' base e size S (.slice (some ⟨g,0,none⟩) n cap) (l++[d]):=by
 have hk:Same S w w':=fun b hb=>hg.block b (hS b hb).1 (hS b hb).2;refine⟨vals++news,by rw [List.length_append,List.length_singleton,←hn];exact hown,Zbl (Dat.ValsAll.keep hk _ _ hv) (ZaT (Dat.Vals.keep hk _ _ hd)),fun b hb=>⟨Nat.lt_of_lt_of_le (hS b hb).1 hg.size,?_⟩⟩;intro e';have e2:b=g:=(by simpa [Value.ownBlock] using e');rcases hat with hat | hat
 · exact(hS b hb).2 (by rw [hat,e2])
 · have:=(hS b hb).1;omega
theorem OwnD.slice {A:Option Addr} {n c:Nat} (h:OwnD w base e size S (.slice A n c) l) (hl:Dat.bytesAll l≤140737488355328) (hT:∀ b,S b→S' b) (hT':∀ g,base≤g→g<w.heap.size→(Value.slice A n c).ownBlock=some g→S' g):n=l.length∧n≤c∧Sl w S' A l:=by
 obtain⟨vals,h1,h2,h3⟩:=h
 have hn:n=l.length:=by
  rcases h1.2 with ⟨e1,h0⟩ | ⟨g,cap,cur,e1,_⟩
  · injection e1 with _ e2 _;omega
  · injection e1
 subst hn;refine⟨rfl,ZcQ h1 rfl,Sl.of_vals hl (Dat.ValsAll.more hT l vals h2) (fun h0=>?_)⟩;obtain⟨g,e1,hb,hlt,hc⟩:=ZbM h1 h0;exact⟨g,0,e1,hT' g hb hlt (by rw [e1];rfl),fun j u hu=>by rw [Nat.zero_add];exact hc j u hu⟩
end
structure Fr (X:Nat→Prop) (w w':World):Prop where
 os:w'.os=w.os
 tape:w'.tape=w.tape
 output:w'.output=w.output
 size:w.heap.size≤w'.heap.size
 block:∀ b,b<w.heap.size→¬ X b→w'.heap[b]?=w.heap[b]?
section
variable {X Y:Nat→Prop} {w w' w'':World}
theorem Fr.refl (X:Nat→Prop) (w:World):Fr X w w:=⟨rfl,rfl,rfl,Nat.le_refl _,fun _ _ _=>rfl⟩
theorem Fr.trans (h:Fr X w w') (h':Fr Y w' w'') (hY:∀ b,b<w.heap.size→Y b→X b):Fr X w w'' :=
 ⟨h'.os.trans h.os,h'.tape.trans h.tape,h'.output.trans h.output,Nat.le_trans h.size h'.size,fun b hb hx=>(h'.block b (Nat.lt_of_lt_of_le hb h.size) (fun hy=>hx (hY b hb hy))).trans (h.block b hb hx)⟩
theorem Fr.of_below (h:Below w.heap.size w w'):Fr X w w':=⟨h.os,h.tape,h.output,h.size,fun b hb _=>h.block b hb⟩
theorem Fr.of_grown {r:Option Nat} (h:w.grownBy w' r) (hX:∀ b,b<w.heap.size→some b=r→X b):Fr X w w':=⟨h.os,h.tape,h.output,h.size,fun b hb hx=>h.block b hb (fun e=>hx (hX b hb e))⟩
theorem Fr.below {n:Nat} (h:Fr X w w') (hn:n≤w.heap.size) (hX:∀ b,b<n→¬ X b):Below n w w':=⟨h.os,h.tape,h.output,h.size,fun b hb=>h.block b (by omega) (hX b hb)⟩
theorem Fr.drewN (h:Fr X w w') (n:Nat):Fr X w (w'.drewN n):=⟨h.os,h.tape,h.output,h.size,h.block⟩
theorem Fr.drew (h:Fr X w w'):Fr X w w'.drew:=⟨h.os,h.tape,h.output,h.size,h.block⟩
theorem Fr.same {S:Nat→Prop} (h:Fr X w w') (hS:∀ b,S b→b<w.heap.size∧¬ X b):Same S w w':=fun b hb=>h.block b (hS b hb).1 (hS b hb).2
theorem Fr.cell (h:Fr X w w') {b o:Nat} (hb:b<w.heap.size) (hx:¬ X b):w'.cell? ⟨b,o,none⟩=w.cell? ⟨b,o,none⟩:=World.cell?_of_block (h.block b hb hx)
theorem Fr.setCell (h:Fr X w w') {g o:Nat} (v:Value) (hg:g<w.heap.size→X g):Fr X w (w'.setCell ⟨g,o,none⟩ v) :=
 ⟨h.os,h.tape,h.output,by simpa using h.size,fun b hb hx=>(Below.heap_setCell w' ⟨g,o,none⟩ v b (fun e=>by subst e;exact hx (hg hb))).trans (h.block b hb hx)⟩
end
theorem rowVals_snoc (r:Row) (v:V):Zam (r++[v])=Zam r++[.int .i64 v.k,.int .i64 v.i,.string v.t]:=by
 induction r with
 | nil=>rfl
 | cons a r ih=>simp [Zam,ih]
theorem Fr.grown {w w':World} {g:Nat} (h:Fr (fun b=>b=g) w w'):w.grownBy w' (some g):=⟨h.os,h.tape,h.output,h.size,fun k hk hne=>h.block k hk (fun e=>hne (by rw [e]))⟩
theorem ZaR {w w':World} {g:Nat} (h:w.grownBy w' (some g)):Fr (fun b=>b=g) w w':=Fr.of_grown h (fun b _ e=>by injection e)
structure RowI (w wr:World) (g k:Nat) (r:Row) (A:Option Addr) (c:Nat):Prop where
 len:r.length=k
 own:wr.ownsRow w.heap.size 51 3 (.slice A k c) k (Zam r)
 case:CaseOk wr g
 fr:Fr (fun b=>b=g) w wr
section
variable {w wr w2 w3:World} {g k c c':Nat} {r:Row} {A A':Option Addr} {v:V} {o:Obj}
theorem RowI.start (hc:CaseOk w g):RowI w w g 0 [] none 0:=⟨rfl,World.ownsRow_nil _ _ _ _,hc,Fr.refl _ _⟩
theorem RowI.ready (h:RowI w wr g k r A c) (hg:g<w.heap.size) (h2:wr.grownBy w2 (some g)) (o:Obj):(w2.alloc o).ownsRow w.heap.size 51 3 (.slice A k c) k (Zam r)∧w.heap.size≤(w2.alloc o).heap.size:=by
 refine⟨(h.own.kept h2 (.inr fun e=>?_)).alloc o,by have:=h.fr.size;have:=h2.size;simp;omega⟩;have:=ZaI h.own e;omega
theorem RowI.push (h:RowI w wr g k r A c) (hg:g<w.heap.size) (hc2:CaseOk w2 g) (h2:wr.grownBy w2 (some g))
  (hown:w3.ownsRow w.heap.size 51 3 (.slice A' (k+1) c') (k+1) (Zam r++[.int .i64 v.k,.int .i64 v.i,.string v.t])) (hg3:(w2.alloc o).grownBy w3 (Value.slice A k c).ownBlock):RowI w w3 g (k+1) (r++[v]) A' c':=by
 have hb:=fun b (e:some b=(Value.slice A k c).ownBlock)=>ZaI h.own e.symm;have h0:=h.fr.size;have h1:=h2.size;refine⟨by simp [h.len],by rw [rowVals_snoc];exact hown,hc2.keep (fun b hb'=>?_),?_⟩
 · refine(hg3.block b (by simp;omega) (fun e=>?_)).trans (Below.heap_alloc w2 o b (by omega));have:=hb b e;omega
 · refine(h.fr.trans (ZaR h2) (fun _ _ e=>e)).trans (Y:=fun b=>some b=(Value.slice A k c).ownBlock) ?_ (fun b hb' e=>by have:=hb b e;omega);exact⟨hg3.os,hg3.tape,hg3.output,by have:=hg3.size;simp at this;omega,fun b hb' hne=>(hg3.block b (by simp;omega) hne).trans (Below.heap_alloc w2 o b hb')⟩
end
def Zfk (key m:Int) (ks:List Int) (r:Row):Prop:=r.length=ks.length∧∀ i,i<ks.length→Zaq m key (ZbN (ks.getD i 0)) i (r.getD i v0)=true
def RowGenK (key m:Int) (ks:List Int) (k:Nat) (r:Row):Prop:=r.length=k∧∀ i,i<k→Zaq m key (ZbN (ks.getD i 0)) i (r.getD i v0)=true
theorem RowGenK.push {key m:Int} {ks:List Int} {k:Nat} {r:Row} {v:V} (h:RowGenK key m ks k r) (hv:Zaq m key (ZbN (ks.getD k 0)) k v=true):RowGenK key m ks (k+1) (r++[v]):=by
 refine⟨by simp [h.1],fun i hi=>?_⟩
 by_cases e:i<k
 · have:(r++[v]).getD i v0=r.getD i v0:=(by simp [List.getD,List.getElem?_append_left (show i<r.length by rw [h.1];exact e)]);rw [this];exact h.2 i e
 · have e':i=k:=(by omega);subst e';have:(r++[v]).getD i v0=v:=(by simp [List.getD,←h.1]);rw [this];exact hv
theorem ZdG {key m:Int} {kd:Int} {k:Nat} (h1:key≤k) (h2:m≠1):Zaq m key kd k ⟨2,0,⟨#[]⟩⟩=true:=by simp [Zaq,Zai,h1,h2]
theorem fits_missing {key m:Int} {kd:Int} {k:Nat} (h1:key≤k) (h2:m=3):Zaq m key kd k ⟨1,0,⟨#[]⟩⟩=true:=by simp [Zaq,Zai,h1,h2]
theorem Zcg {key m kd:Int} {k:Nat} {v:V} (h:ZdR kd v):Zaq m key kd k v=true:=by simp [Zaq,h.1,h.2]
def RowPost (key m:Int) (ks:List Int) (w:World) (g:Nat) (e:Ending) (w':World):Prop :=
 ∃ r A c,e=.returned (.slice A r.length c)∧Zfk key m ks r∧w'.ownsRow w.heap.size 51 3 (.slice A r.length c) r.length (Zam r)∧CaseOk w' g∧w.grownBy w' (some g)
theorem row_any (g:Nat) (K:Option Addr) (ck:Nat) (ks:List Int) (key m:Int) (S:Nat→Prop) (w:World) (hks:IntS w S K ks) (hS:∀ b,S b→b<w.heap.size∧b≠g) (hl:ks.length≤1000000) (hc:CaseOk w g) :
  Calls Try.prog 14 #[.pointer (some ⟨g,0,none⟩),.slice K ks.length ck,.int .i64 key,.int .i64 m] w (RowPost key m ks w g):=by
 obtain⟨i0,hi,hz0,hz1,hz2⟩:=info_parts Zfz;have hgl:=hc.lt;have HKS:=hI hks;have HI0:=hI (RowI.start hc);clear hks hc;go_enter Try.func14,Try.ntmps14
 go_wp2_with fail
 go_loopw [9,14] (fun out i wr=>∃ (k:Nat) (r:Row) (A:Option Addr) (c:Nat),k≤ks.length∧i=.int .i64 k∧out=.slice A k c∧RowI w wr g k r A c∧RowGenK key m ks k r) (fun _ i _=>ks.length - (intOf i).toNat)
 case atStart=>exact⟨0,[],none,0,Nat.zero_le _,rfl,rfl,HI0.out,rfl,fun i hi=>by omega⟩
 case round =>
  obtain⟨k,r,A,c,hk,rfl,rfl,hri,hgen⟩:=hrel;have HRI:=hI hri;have HGEN:=hI hgen;have hszr:=hri.fr.size;clear hri hgen
  by_cases hlt:k<ks.length
  · obtain⟨b1,o1,rfl,hb1,d1⟩:=(HKS.out.keep (HRI.out.fr.same (fun b hb=>hS b hb))).at_ hlt;have hb1l:b1<wr.heap.size:=(by have:=(hS b1 hb1).1;omega);have HC:=hI HRI.out.case;generalize hkd:ks.getD k 0=kd at d1;have HKD:=hI hkd;clear hkd
    have FIN:∀ (v:V) (A':Option Addr) (c':Nat) (w3:World),RowI w w3 g (k+1) (r++[v]) A' c'→Zaq m key (ZbN kd) k v=true→∃ (k':Nat) (r':Row) (A'':Option Addr) (c'':Nat),k'≤ks.length∧Value.int .i64 ((k:Int)+1)=.int .i64 k'∧Value.slice A' (k+1) c'=.slice A'' k' c''∧RowI w w3 g k' r' A'' c''∧RowGenK key m ks k' r' :=
     fun v A' c' w3 h1 h2=>⟨k+1,r++[v],A',c',by omega,by go_num,rfl,h1,HGEN.out.push (by rw [HKD.out];exact h2)⟩
    have HFIN:=hI FIN;clear FIN
    by_cases h1:key≤(k:Int)
    · by_cases h2:m=1
      · subst h2
        go_wp2_with fail
        have HCV:=HC;have HGV:=hI (World.grownBy.refl wr (some g));refine(ZaS g kd _ HCV.out).mono ?_;rintro e wv ⟨⟨vk,vi,vt⟩,rfl,hv,hcv,hgv⟩;have HV:=hI hv;have HCW:=hI hcv;have HGW:=hI (HGV.out.trans hgv);clear hv hcv hgv
        go_wp2_with (at_builtin;obtain⟨ho,hbs⟩:=HRI.out.ready (w2:=wv) hgl HGW.out (.cells #[.int .i64 vk,.int .i64 vi,.string vt] 51);refine Zak _ rfl (.tmp 19) (.tmp 23) 27 rfl w.heap.size 51 i0 _ 3 32 Try.underlying27 hi hz0 hz1 hz2 rfl (by decide) (.slice A k c) k (Zam r) rfl ho ⟨wv.heap.size,0,none⟩ 1 1 [.int .i64 vk,.int .i64 vi,.string vt] rfl rfl (World.news_of_block (heap_alloc_new wv (.cells #[.int .i64 vk,.int .i64 vi,.string vt] 51))) (by simp [Value.oneCell']) (by unfold maxLen;omega) (by omega) hbs ?_;intro A3 c3 w3 hown3 hg3;have HP:=hI (HRI.out.push (v:=⟨vk,vi,vt⟩) hgl HCW.out HGW.out hown3 hg3);clear ho hbs hown3 hg3)
        go_roundw
        case rel=>exact HFIN.out _ _ _ _ HP.out (Zcg HV.out)
        case measure=>simp [intOf];omega
      · have h2':(m != 1)=true:=(by simp [h2]);have h2'':(m == 1)=false:=beq_eq_false_iff_ne.2 h2;have H2:=hI h2
        by_cases h3:m=3
        · subst h3;clear h2
          go_wp2_with fail
          refine(Zay g 5 _ (by omega) (by omega) HC.out).mono ?_;rintro e wb ⟨bb,rfl,hcb,hgb,hsb⟩;have HCW:=hI hcb;have HGW:=hI hgb;clear hcb hgb hsb;cases bb
          · go_wp2_with fail
            refine(Zay g 5 _ (by omega) (by omega) HCW.out).mono ?_;rintro e wb2 ⟨bb,rfl,hcb,hgb,hsb⟩;have HCV:=hI hcb;have HGV:=hI (HGW.out.trans hgb);clear hcb hgb hsb HCW HGW;cases bb
            · go_wp2_with fail
              refine(ZaS g kd _ HCV.out).mono ?_;rintro e wv ⟨⟨vk,vi,vt⟩,rfl,hv,hcv,hgv⟩;have HV:=hI hv;have HCW:=hI hcv;have HGW:=hI (HGV.out.trans hgv);clear hv hcv hgv
              go_wp2_with (at_builtin;obtain⟨ho,hbs⟩:=HRI.out.ready (w2:=wv) hgl HGW.out (.cells #[.int .i64 vk,.int .i64 vi,.string vt] 51);refine Zak _ rfl (.tmp 19) (.tmp 23) 27 rfl w.heap.size 51 i0 _ 3 32 Try.underlying27 hi hz0 hz1 hz2 rfl (by decide) (.slice A k c) k (Zam r) rfl ho ⟨wv.heap.size,0,none⟩ 1 1 [.int .i64 vk,.int .i64 vi,.string vt] rfl rfl (World.news_of_block (heap_alloc_new wv (.cells #[.int .i64 vk,.int .i64 vi,.string vt] 51))) (by simp [Value.oneCell']) (by unfold maxLen;omega) (by omega) hbs ?_;intro A3 c3 w3 hown3 hg3;have HP:=hI (HRI.out.push (v:=⟨vk,vi,vt⟩) hgl HCW.out HGW.out hown3 hg3);clear ho hbs hown3 hg3)
              go_roundw
              case rel=>exact HFIN.out _ _ _ _ HP.out (Zcg HV.out)
              case measure=>simp [intOf];omega
            · have HCW:=HCV;have HGW:=HGV
              go_wp2_with (at_builtin;obtain⟨ho,hbs⟩:=HRI.out.ready (w2:=wb2) hgl HGW.out (.cells #[.int .i64 1,.int .i64 0,.string ⟨#[]⟩] 51);refine Zak _ rfl (.tmp 53) (.tmp 55) 27 rfl w.heap.size 51 i0 _ 3 32 Try.underlying27 hi hz0 hz1 hz2 rfl (by decide) (.slice A k c) k (Zam r) rfl ho ⟨wb2.heap.size,0,none⟩ 1 1 [.int .i64 1,.int .i64 0,.string ⟨#[]⟩] rfl rfl (World.news_of_block (heap_alloc_new wb2 (.cells #[.int .i64 1,.int .i64 0,.string ⟨#[]⟩] 51))) (by simp [Value.oneCell']) (by unfold maxLen;omega) (by omega) hbs ?_;intro A3 c3 w3 hown3 hg3;have HP:=hI (HRI.out.push (v:=⟨1,0,⟨#[]⟩⟩) hgl HCW.out HGW.out hown3 hg3);clear ho hbs hown3 hg3)
              go_roundw
              case rel=>exact HFIN.out _ _ _ _ HP.out (fits_missing h1 rfl)
              case measure=>simp [intOf];omega
          · go_wp2_with (at_builtin;obtain⟨ho,hbs⟩:=HRI.out.ready (w2:=wb) hgl HGW.out (.cells #[.int .i64 2,.int .i64 0,.string ⟨#[]⟩] 51);refine Zak _ rfl (.tmp 37) (.tmp 39) 27 rfl w.heap.size 51 i0 _ 3 32 Try.underlying27 hi hz0 hz1 hz2 rfl (by decide) (.slice A k c) k (Zam r) rfl ho ⟨wb.heap.size,0,none⟩ 1 1 [.int .i64 2,.int .i64 0,.string ⟨#[]⟩] rfl rfl (World.news_of_block (heap_alloc_new wb (.cells #[.int .i64 2,.int .i64 0,.string ⟨#[]⟩] 51))) (by simp [Value.oneCell']) (by unfold maxLen;omega) (by omega) hbs ?_;intro A3 c3 w3 hown3 hg3;have HP:=hI (HRI.out.push (v:=⟨2,0,⟨#[]⟩⟩) hgl HCW.out HGW.out hown3 hg3);clear ho hbs hown3 hg3)
            go_roundw
            case rel=>exact HFIN.out _ _ _ _ HP.out (ZdG h1 H2.out)
            case measure=>simp [intOf];omega
        · have h3':(m == 3)=false:=beq_eq_false_iff_ne.2 h3;clear h2 h3
          go_wp2_with fail
          refine(Zay g 5 _ (by omega) (by omega) HC.out).mono ?_;rintro e wb ⟨bb,rfl,hcb,hgb,hsb⟩;have HCW:=hI hcb;have HGW:=hI hgb;clear hcb hgb hsb;cases bb
          · go_wp2_with fail
            have HCV:=HCW;have HGV:=HGW;clear HCW HGW;refine(ZaS g kd _ HCV.out).mono ?_;rintro e wv ⟨⟨vk,vi,vt⟩,rfl,hv,hcv,hgv⟩;have HV:=hI hv;have HCW:=hI hcv;have HGW:=hI (HGV.out.trans hgv);clear hv hcv hgv
            go_wp2_with (at_builtin;obtain⟨ho,hbs⟩:=HRI.out.ready (w2:=wv) hgl HGW.out (.cells #[.int .i64 vk,.int .i64 vi,.string vt] 51);refine Zak _ rfl (.tmp 19) (.tmp 23) 27 rfl w.heap.size 51 i0 _ 3 32 Try.underlying27 hi hz0 hz1 hz2 rfl (by decide) (.slice A k c) k (Zam r) rfl ho ⟨wv.heap.size,0,none⟩ 1 1 [.int .i64 vk,.int .i64 vi,.string vt] rfl rfl (World.news_of_block (heap_alloc_new wv (.cells #[.int .i64 vk,.int .i64 vi,.string vt] 51))) (by simp [Value.oneCell']) (by unfold maxLen;omega) (by omega) hbs ?_;intro A3 c3 w3 hown3 hg3;have HP:=hI (HRI.out.push (v:=⟨vk,vi,vt⟩) hgl HCW.out HGW.out hown3 hg3);clear ho hbs hown3 hg3)
            go_roundw
            case rel=>exact HFIN.out _ _ _ _ HP.out (Zcg HV.out)
            case measure=>simp [intOf];omega
          · go_wp2_with (at_builtin;obtain⟨ho,hbs⟩:=HRI.out.ready (w2:=wb) hgl HGW.out (.cells #[.int .i64 2,.int .i64 0,.string ⟨#[]⟩] 51);refine Zak _ rfl (.tmp 37) (.tmp 39) 27 rfl w.heap.size 51 i0 _ 3 32 Try.underlying27 hi hz0 hz1 hz2 rfl (by decide) (.slice A k c) k (Zam r) rfl ho ⟨wb.heap.size,0,none⟩ 1 1 [.int .i64 2,.int .i64 0,.string ⟨#[]⟩] rfl rfl (World.news_of_block (heap_alloc_new wb (.cells #[.int .i64 2,.int .i64 0,.string ⟨#[]⟩] 51))) (by simp [Value.oneCell']) (by unfold maxLen;omega) (by omega) hbs ?_;intro A3 c3 w3 hown3 hg3;have HP:=hI (HRI.out.push (v:=⟨2,0,⟨#[]⟩⟩) hgl HCW.out HGW.out hown3 hg3);clear ho hbs hown3 hg3)
            go_roundw
            case rel=>exact HFIN.out _ _ _ _ HP.out (ZdG h1 H2.out)
            case measure=>simp [intOf];omega
    · have hd:decide (key≤(k:Int))=false:=(by simpa using h1);have HCV:=HC;have HGV:=hI (World.grownBy.refl wr (some g))
      go_wp2_with fail
      refine(ZaS g kd _ HCV.out).mono ?_;rintro e wv ⟨⟨vk,vi,vt⟩,rfl,hv,hcv,hgv⟩;have HV:=hI hv;have HCW:=hI hcv;have HGW:=hI (HGV.out.trans hgv);clear hv hcv hgv
      go_wp2_with (at_builtin;obtain⟨ho,hbs⟩:=HRI.out.ready (w2:=wv) hgl HGW.out (.cells #[.int .i64 vk,.int .i64 vi,.string vt] 51);refine Zak _ rfl (.tmp 19) (.tmp 23) 27 rfl w.heap.size 51 i0 _ 3 32 Try.underlying27 hi hz0 hz1 hz2 rfl (by decide) (.slice A k c) k (Zam r) rfl ho ⟨wv.heap.size,0,none⟩ 1 1 [.int .i64 vk,.int .i64 vi,.string vt] rfl rfl (World.news_of_block (heap_alloc_new wv (.cells #[.int .i64 vk,.int .i64 vi,.string vt] 51))) (by simp [Value.oneCell']) (by unfold maxLen;omega) (by omega) hbs ?_;intro A3 c3 w3 hown3 hg3;have HP:=hI (HRI.out.push (v:=⟨vk,vi,vt⟩) hgl HCW.out HGW.out hown3 hg3);clear ho hbs hown3 hg3)
      go_roundw
      case rel=>exact HFIN.out _ _ _ _ HP.out (Zcg HV.out)
      case measure=>simp [intOf];omega
  · go_wp2_with fail
    go_ret;obtain rfl:k=ks.length:=(by omega);have hl:=HRI.out.len;refine⟨r,A,c,by rw [hl];rfl,⟨HGEN.out.1,HGEN.out.2⟩,by rw [hl];exact HRI.out.own,HRI.out.case,HRI.out.fr.grown⟩
theorem ownsRow_low {w:World} {base base' size n:Nat} {e:TypeId} {v:Value} {xs:List Value} (h:w.ownsRow base e size v n xs) (hb:base'≤base):w.ownsRow base' e size v n xs:=by
 refine⟨h.1,?_⟩;rcases h.2 with h0 | ⟨g,cap,cur,h1,h2,h3⟩
 · exact .inl h0
 · exact .inr ⟨g,cap,cur,h1,by omega,h3⟩
theorem NewR.low {r:Row} {w wa:World} {e:Ending} {w':World} (h:NewR r wa e w') (hb:Below w.heap.size w wa):NewR r w e w':=by
 obtain⟨A,c,h1,h2,h3⟩:=h;exact⟨A,c,h1,ownsRow_low h2 hb.size,hb.trans (h3.mono hb.size)⟩
theorem ZeY (A0:Option Addr) (c0':Nat) (s:Sch) (t:Int) (A:Option Addr) (ca:Nat) (r:Row) (S:Nat→Prop) (w:World) (hs:TabS w S A0 s.tabs) (hr:RowS w S A r) (hca:r.length≤ca) (hS:∀ b,S b→b<w.heap.size) :
  Calls Try.prog 33 #[sAgg s.version A0 s.tabs.length c0',.int .i64 t,.slice A r.length ca] w (NewR (keyF s t r) w):=by
 have hsl:=hs.len;have hrl:=hr.len;have HS:=hI hs;have HR:=hI hr;clear hs hr;have HB1:=hI ((Below.refl w.heap.size w).alloc nR (.cells #[.int .i64 s.version,.slice A0 s.tabs.length c0'] 25))
 by_cases hh:hasN s.tabs.length t=true
 · have HKF:=hI (show keyF s t r=r.take (keyN (s.tabs.getD t.toNat t0).key r) by unfold keyF;rw [if_pos hh]);have hh0:0≤t∧t<s.tabs.length:=(by simpa [hasN] using hh);clear hh;obtain⟨tt,rfl⟩:=Int.eq_ofNat_of_zero_le hh0.1;rw [Int.toNat_natCast] at HKF;have htl:tt<s.tabs.length:=(by omega);obtain⟨b2,o2,rfl,hb2,A1,A2,A3,c1,c2,c3,hta⟩:=HS.out.at_ htl;have k1:=hta.key;have hl2:b2<w.heap.size:=hS b2 hb2;clear hta;generalize s.tabs.getD tt t0=tb at k1 HKF;obtain⟨tn,tc,tk,tr,tp⟩:=tb;simp only at k1 HKF;have hd1:decide ((tt:Int)<0)=false:=(by simp);have hd2:decide (s.tabs.length≤tt)=false:=(by simp;omega);have HL:=hI (show keyN tk r≤r.length by unfold keyN;omega);have hCY:=ZcD A ca (r.take (keyN tk r)) S (w.alloc (.cells #[.int .i64 s.version,.slice (some ⟨b2,o2,none⟩) s.tabs.length c0'] 25)) ((HR.out.take (keyN tk r) (fun _=>rfl)).keep (fun b hb=>Below.heap_alloc _ _ _ (hS b hb)));rw [List.length_take,Nat.min_eq_left HL.out] at hCY;have HCY:=hI hCY;clear hCY;go_enter Try.func33,Try.ntmps33
   go_wp2_with fail
   refine(show Calls _ _ _ _ _ from HCY.out).mono ?_;intro e w1 hN;have hN':=(show NewR (r.take (keyN tk r)) _ e w1 from hN).low HB1.out;obtain⟨A4,c4,rfl,h4,hb4⟩:=hN';have H4:=hI h4;have HB4:=hI hb4;clear hN h4 hb4;obtain⟨m4,hm4⟩:∃ m,(r.take (keyN tk r)).length=m:=⟨_,rfl⟩;rw [hm4];have HM4:=hI hm4;clear hm4
   go_wp2_with fail
   go_ret;rw [HKF.out];exact⟨A4,c4,by rw [HM4.out];rfl,H4.out,HB4.out⟩
 · have HKF:=hI (show keyF s t r=[] by unfold keyF;rw [if_neg hh])
   have hh':t<0∨(s.tabs.length:Int)≤t:=by
    have:hasN s.tabs.length t=false:=(by simpa using hh);simp [hasN] at this;omega
   clear hh
   by_cases h0:t<0
   · have hd1:decide (t<0)=true:=(by simp [h0]);go_enter Try.func33,Try.ntmps33
     go_wp2_with fail
     go_ret;rw [HKF.out];exact⟨none,0,rfl,World.ownsRow_nil _ _ _ _,HB1.out⟩
   · have hd1:decide (t<0)=false:=(by simpa using h0);have hd2:decide ((s.tabs.length:Int)≤t)=true:=(by simp;omega);go_enter Try.func33,Try.ntmps33
     go_wp2_with fail
     go_ret;rw [HKF.out];exact⟨none,0,rfl,World.ownsRow_nil _ _ _ _,HB1.out⟩
def ZdC (s:Sch) (t:Int):List Int:=(ZaB s t).take (max 0 (min (s.tabs.getD t.toNat t0).key (ZaB s t).length)).toNat
theorem IntS.take {w:World} {S:Nat→Prop} {A:Option Addr} {l:List Int} (h:IntS w S A l) (k:Nat):IntS w S A (l.take k):=by
 refine⟨?_,fun hn=>?_⟩
 · have:=h.1;rw [Zag (n:=8) (fun _=>rfl)] at this ⊢;simp only [List.length_take];omega
 · have hn':0<(l.take k).length:=(by simpa using hn);obtain⟨b,off,e,hb,hc⟩:=h.2 (by simp at hn' ⊢;omega);refine⟨b,off,e,hb,ZcU (n:=1) (fun d hd=>by obtain⟨a,_,rfl⟩:=List.mem_map.1 hd;rfl) (fun j hj=>?_)⟩;have hj':j<(l.map ZdJ).length:=(by simp at hj ⊢;omega);have:=ZbO (n:=1) (fun d hd=>by obtain⟨a,_,rfl⟩:=List.mem_map.1 hd;rfl) hc j hj';simpa using this
end Go.Proofs.Ytkpjjfhfbpfjpaa
