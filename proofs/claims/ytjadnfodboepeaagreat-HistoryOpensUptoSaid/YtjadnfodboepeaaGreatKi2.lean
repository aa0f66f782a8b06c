import Derived.Test.YtjadnfodboepeaaGreatKgq
import Derived.Test.YtjadnfodboepeaaGreatKfq
set_option linter.all false
set_option maxRecDepth 100000
set_option maxHeartbeats 8000000
namespace Go.Proofs.YtjadnfodboepeaaGreat
open Tryz
open Go.RowKit
variable {w:World} {n k m i:Nat} {A:Option Addr} {S:Nat->Prop} {g:TypeId} {h:ByteArray}
section
variable {w w':World} {base size:Nat} {S0 X:Nat->Prop} {e:TypeId} {v:Value} {l:List Dat}
theorem ZcA {S:Nat->Prop} {M:Array Oper} {rest:List Oper} {o:Oper} {a:Act} {Q:Exit->Act->World->Prop} (O:o.guard=none) (s x:Operand) (t:TypeId)
 (aj:o.op=.call { callee:=.builtin .append,args:=#[s,x],argTypes:=#[t,t] })
 {base:Nat} {e:TypeId} {i:TypeInfo} {E:Value} {size:Nat} (bytes:Nat) (ab:prog.underlying t=some (.slice e)) (ao:prog.info? e=some i) (ah:i.zero=some E)
 (U:i.size=size) (ak:i.bytes=bytes) (aq:E.cells.size=size) (af:0<size)
 {w0:World} {A:Option Addr} {n c:Nat} {l:List Dat} (I:OwnD w0 base e size S (.slice A n c) l) (N:n=l.length) (ax:base<=w0) (an:a.eval s=.slice A n c)
 {d:Dat} (z:Array Value) (hd:Dat.Vs w0 S d z.toList) (Z:d.Plain) (aa:d.size=size) (H:Nat) (ap:a.eval x=.slice (some ⟨w0,0,none⟩) 1 H)
 (ay:n+1<=17592186044416) (av:(n+1)*bytes<=140737488355328)
 (h:∀ g cap w',OwnD w' base e size S (.slice (some ⟨g,0,none⟩) (n+1) cap) (l++[d])->w0.heap.size<w'->w0.grownBy w' (Value.slice A n c).ownBlock->((Value.slice A n c).ownBlock=some g\/g=w0.heap.size+1)->wpList prog M Q rest (a.put o.dst (.slice (some ⟨g,0,none⟩) (n+1) cap)) w') :
 wpList prog M Q (o :: rest) a (w0.alloc (.cells z e)):=by
 have ae:Below w0 w0 (w0.alloc (.cells z e)):=(qa _ _).alloc nR _;have ai:=I.below ae;obtain⟨vals,L,W,am⟩:=ai;rw [<-N] at L
 have au:Dat.Vs (w0.alloc (.cells z e)) S d z.toList:=by
  obtain⟨_,_,_,ar⟩:=I;exact Dat.Vs.keep (fun b ac=>qd _ _ _ (ar b ac).1) d _ hd
 refine wpList_append_lies _ O s x t aj base e i E size bytes ab ao ah U ak aq af (.slice A n c) n vals an L ⟨w0,0,none⟩ 1 H z.toList ap
  (by rw [Dat.Vs.len _ _ hd,aa];omega) (World.news_of_block (qb w0 (.cells z e))) (Dat.Vs.one d _ Z hd) ya yh av yd (w0+1) (Qt _ _) ?_
 intro g cap w' R F K aw;exact h g cap w' (Zfo W au am (by rw [N]) R F (K.imp id (fun e=>by rw [e,Qt]))) (by have:=F.size;simp at this;omega) ((qY w0 _ _).trans F) K
end
def upd {α:Type} (f:Nat->Nat->α) (i j:Nat) (x:α):Nat->Nat->α:=fun a b=>if a=i/\b=j then x else f a b
theorem ZaF {α:Type} (f:Nat->Nat->α) (i j:Nat) (x:α):upd f i j x i j=x:=qr ⟨rfl,rfl⟩
theorem Zbz {α:Type} {f:Nat->Nat->α} {x:α} (h:¬ (m=n/\i=k)):upd f n k x m i=f m i:=qo h
def Oth (S0:Nat->Prop) (w:World) (B0 n T:Nat) (V:Nat->Nat->Value):Nat->Prop:=fun b=>S0 b\/(B0<=b/\b<w/\∀ i j,i<n->j<T->some b≠(V i j).ownBlock)
structure Grid (w:World) (B0:Nat) (e TT:TypeId) (size:Nat) (S0:Nat->Prop) (n T:Nat) (G:Nat->Nat) (C V:Nat->Nat->Value) (L:Nat->Nat->List Dat):Prop where
 blk:∀ i,i<n->∃ vs:List Value,vs.length=T/\(∀ j,j<T->vs[j]?=some (C i j))/\w.heap[G i]?=some (.cells vs.toArray TT (0,0))
 own:∀ i j,i<n->j<T->OwnD w B0 e size (Oth S0 w B0 n T V) (V i j) (L i j)
 dis:∀ i j i' j',i<n->j<T->i'<n->j'<T->∀ b,(V i j).ownBlock=some b->(V i' j').ownBlock=some b->i=i'/\j=j'
 inj:∀ i i',i<n->i'<n->G i=G i'->i=i'
 lo:∀ i,i<n->G i<B0
 s0:∀ b,S0 b->b<B0/\∀ i,i<n->b≠G i
 hi:B0<=w
section
variable {w w':World} {B0 size n T:Nat} {e TT:TypeId} {S0 X:Nat->Prop} {G:Nat->Nat} {C V:Nat->Nat->Value} {L:Nat->Nat->List Dat}
theorem OwnD.lt {v:Value} {l:List Dat} {S:Nat->Prop} (h:OwnD w B0 e size S v l) {g:Nat} (E:v.ownBlock=some g):B0<=g/\g<w:=by
 obtain⟨vals,z,_⟩:=h;exact⟨Zs z E,ZN z E⟩
theorem Grid.cell (h:Grid w B0 e TT size S0 n T G C V L) {i j:Nat} (H:i<n) (E:j<T):w.cell? ⟨G i,j,none⟩=some (C i j)/\w.frozen? ⟨G i,j,none⟩=false:=by
 obtain⟨vs,I,F,z⟩:=h.blk i H;refine⟨?_,by simp [World.frozen?,z]⟩;simp only [World.cell?,z];simpa using F j E
theorem Grid.form (h:Grid w B0 e TT size S0 n T G C V L) {i j:Nat} (F:i<n) (E:j<T):∃ A c,V i j=.slice A (L i j).length c:=by
 obtain⟨vals,z,_⟩:=h.own i j F E;exact Zep z
theorem Grid.keep (h:Grid w B0 e TT size S0 n T G C V L) (F:Fr X w w') (K:∀ b,X b->b<B0/\¬ S0 b/\∀ i,i<n->b≠G i):Grid w' B0 e TT size S0 n T G C V L:=by
 have U:=F.size;have aa:∀ b,Oth S0 w B0 n T V b->Oth S0 w' B0 n T V b:=fun b z=>z.imp id (fun z=>⟨z.1,ya,z.2.2⟩)
 have W:Same (Oth S0 w B0 n T V) w w':=fun b z=>by
  rcases z with z | z
  .exact F.block b (ym ((h.s0 b z).1) h.hi) (fun E=>(K b E).2.1 z)
  exact F.block b z.2.1 (fun E=>yl ((K b E).1))
 refine⟨fun i H=>?_,fun i j H N=>?_,h.dis,h.inj,h.lo,h.s0,qD h.hi U⟩
 .obtain⟨vs,M,Z,O⟩:=h.blk i H;exact⟨vs,M,Z,(F.block _ (Zb O) (fun E=>(K _ E).2.2 i H rfl)).trans O⟩
 have I:=h.own i j H N;have M:=I.keep U W (fun g R=>F.block g (I.lt R).2 (fun E=>ym ((K g E).1) ((I.lt R).1)));refine M.more aa (fun b z=>?_);rcases z with z | z
 .exact⟨ym ((h.s0 b z).1) h.hi,fun e=>ym ((I.lt e.symm).1) ((h.s0 b z).1)⟩
 exact⟨z.2.1,z.2.2 i j H N⟩
theorem Grid.below (h:Grid w B0 e TT size S0 n T G C V L) (z:Below w w w'):Grid w' B0 e TT size S0 n T G C V L:=h.keep (X:=fun _=>False) (qW z) (fun _ h=>h.elim)
theorem Grid.push (h:Grid w B0 e TT size S0 n T G C V L) {i j:Nat} (ac:i<n) (ae:j<T) {vals ak:List Value} {d:Dat} {g cap m:Nat} (av:Dat.Va w (Oth S0 w B0 n T V) (L i j) vals) (hd:Dat.Vs w (Oth S0 w B0 n T V) d ak) (au:m=(L i j).length+1)
 (ao:w'.ownsRow B0 e size (.slice (some ⟨g,0,none⟩) m cap) m (vals++ak)) (U:w.grownBy w' (V i j).ownBlock) (E:(V i j).ownBlock=some g\/g=w.heap.size) :
 Grid w' B0 e TT size S0 n T G C (upd V i j (.slice (some ⟨g,0,none⟩) m cap)) (upd L i j (L i j++[d])):=by
 have aj:=U.size;have ab:=h.own i j ac ae;obtain⟨_,_,_,af⟩:=ab;have ab:=h.own i j ac ae
 have ai:∀ b,Oth S0 w B0 n T V b->Oth S0 w' B0 n T (upd V i j (.slice (some ⟨g,0,none⟩) m cap)) b:=fun b z=>by
  rcases z with z | z
  .exact .inl z
  refine .inr ⟨z.1,ya,fun a c F I=>?_⟩
  by_cases H:a=i/\c=j
  .obtain⟨rfl,rfl⟩:=H;rw [ZaF];intro K;have R:b=g:=(by simpa [Value.ownBlock] using K);rcases E with E | E
   .exact z.2.2 a c F I (by rw [E,R])
   omega
  rw [Zbz H];exact z.2.2 a c F I
 have:B0<=g:=by
  rcases E with E | E
  .exact(ab.lt E).1
  rw [E];exact h.hi
 have W:∀ b,Oth S0 w' B0 n T (upd V i j (.slice (some ⟨g,0,none⟩) m cap)) b->b<w'/\∀ a c,a<n->c<T->some b≠(upd V i j (.slice (some ⟨g,0,none⟩) m cap) a c).ownBlock:=fun b z=>by
  rcases z with z | z
  .refine⟨ym ((h.s0 b z).1) h.hi,fun a c F I e=>?_⟩;have aw:=(h.s0 b z).1
   by_cases H:a=i/\c=j
   .obtain⟨rfl,rfl⟩:=H;rw [ZaF] at e;have R:b=g:=(by simpa [Value.ownBlock] using e);omega
   rw [Zbz H] at e;have:=((h.own a c F I).lt e.symm).1;omega
  exact z.2
 have aq:Same (Oth S0 w B0 n T V) w w':=fun b z=>U.block b (af b z).1 (af b z).2;refine⟨fun a F=>?_,fun a c F I=>?_,fun a c O N F I Z aa b z M=>?_,h.inj,h.lo,h.s0,qD h.hi aj⟩
 .obtain⟨vs,ar,ap,an⟩:=h.blk a F;exact⟨vs,ar,ap,(U.block _ (Zb an) (fun e=>ym ((ab.lt e.symm).1) (h.lo a F))).trans an⟩
 .by_cases H:a=i/\c=j
  .obtain⟨rfl,rfl⟩:=H;rw [ZaF,ZaF];exact(Zfo av hd af au ao U E).more ai (fun b z=>⟨(W b z).1,by have:=(W b z).2 a c F I;rwa [ZaF] at this⟩)
  rw [Zbz H,Zbz H];have am:=h.own a c F I;refine(am.keep aj aq (fun q ah=>U.block q (am.lt ah).2 (fun e=>H (h.dis a c i j F I ac ae q ah e.symm)))).more ai (fun b z=>⟨(W b z).1,by have:=(W b z).2 a c F I;rwa [Zbz H] at this⟩)
 by_cases H:a=i/\c=j
 .obtain⟨rfl,rfl⟩:=H;rw [ZaF] at z;have R:g=b:=by simpa [Value.ownBlock] using z
  by_cases K:O=a/\N=c
  .exact⟨K.1.symm,K.2.symm⟩
  rw [Zbz K] at M;rcases E with E | E
  .exact h.dis a c O N F I Z aa g E (by rw [M,R])
  have:=((h.own O N Z aa).lt M).2;omega
 rw [Zbz H] at z
 by_cases K:O=i/\N=j
 .obtain⟨rfl,rfl⟩:=K;rw [ZaF] at M;have R:g=b:=(by simpa [Value.ownBlock] using M);rcases E with E | E
  .exact h.dis a c O N F I Z aa g (by rw [z,R]) E
  have:=((h.own a c F I).lt z).2;omega
 rw [Zbz K] at M;exact h.dis a c O N F I Z aa b z M
theorem Grid.store (h:Grid w B0 e TT size S0 n T G C V L) {i j:Nat} (H:i<n) (ab:j<T) (v:Value):Grid (w.setCell ⟨G i,j,none⟩ v) B0 e TT size S0 n T G (upd C i j v) V L:=by
 have K:∀ b,b≠G i->(w.setCell ⟨G i,j,none⟩ v).heap[b]?=w.heap[b]?:=fun b z=>qc w ⟨G i,j,none⟩ v b z;have W:∀ b,Oth S0 w B0 n T V b->Oth S0 (w.setCell ⟨G i,j,none⟩ v) B0 n T V b:=fun b z=>z.imp id (fun z=>⟨z.1,by simpa using z.2.1,z.2.2⟩)
 have U:Same (Oth S0 w B0 n T V) w (w.setCell ⟨G i,j,none⟩ v):=fun b z=>K b (fun e=>by
  rcases z with z | z
  .exact(h.s0 b z).2 i H e
  have:=h.lo i H;omega)
 refine⟨fun a F=>?_,fun a c F E=>?_,h.dis,h.inj,h.lo,h.s0,by simpa using h.hi⟩
 .obtain⟨vs,O,N,R⟩:=h.blk a F
  by_cases M:a=i
  .subst M;refine⟨vs.set j v,by simpa using O,fun c E=>?_,Zc R⟩
   by_cases aa:c=j
   .subst aa;rw [ZaF,List.getElem?_set_self ya]
   rw [Zbz ya,List.getElem?_set_ne ya];exact N c E
  refine⟨vs,O,fun c E=>by rw [Zbz ya];exact N c E,(K _ (fun e=>M (h.inj a i F H e))).trans R⟩
 have I:=h.own a c F E;refine(I.keep yb U (fun g Z=>K g (fun e=>ym ((I.lt Z).1) (h.lo i H)))).more W (fun b z=>?_);rcases z with z | z
 .exact⟨by have:=(h.s0 b z).1;have:=h.hi;simp;omega,fun e=>ym ((I.lt e.symm).1) ((h.s0 b z).1)⟩
 exact⟨z.2.1,z.2.2 a c F E⟩
theorem Grid.congr {L':Nat->Nat->List Dat} (h:Grid w B0 e TT size S0 n T G C V L) (F:∀ i j,i<n->j<T->L' i j=L i j):Grid w B0 e TT size S0 n T G C V L' :=
 ⟨h.blk,fun i j E z=>by rw [F i j E z];exact h.own i j E z,h.dis,h.inj,h.lo,h.s0,h.hi⟩
theorem Grid.start (z:∀ i,i<n->w.heap[G i]?=some (.cells (Zk T).toArray TT (0,0))) (K:∀ i E,i<n->E<n->G i=G E->i=E) (L:∀ i,i<n->G i<B0) (I:∀ b,S0 b->b<B0/\∀ i,i<n->b≠G i) (M:B0<=w) :
 Grid w B0 e TT size S0 n T G (fun _ _=>.slice none 0 0) (fun _ _=>.slice none 0 0) (fun _ _=>[]) :=
 ⟨fun i H => ⟨Zk T, by simp [Zk], fun j F => by simp [Zk, F], z i H⟩, fun i j H F => Qg (fun b z => by
  rcases z with z | z
  .have:=(I b z).1;omega
  exact z.2.1),fun i j E N H F R O b z=>by simp [Value.ownBlock] at z,K,L,I,M⟩
theorem Grid.row (h:Grid w B0 e TT size S0 n T G V V L) {i:Nat} (E:i<n) (N:∀ j,j<T->Dat.bytesAll (L i j)<=140737488355328) {S':Nat->Prop} (I:∀ b,S0 b\/(B0<=b/\b<w)->S' b) :
 ∃ vs:List Value,w.heap[G i]?=some (.cells vs.toArray TT (0,0))/\Dat.Va w S' ((List.range T).map fun j=>Dat.slice (L i j)) vs:=by
 obtain⟨vs,ac,O,W⟩:=h.blk i E;refine⟨vs,W,?_⟩
 have key:∀ k,k<=T->Dat.Va w S' ((List.range k).map fun j=>Dat.slice (L i j)) (vs.take k):=by
  intro k;induction k with
  | zero=>intro _;simp only [List.range_zero,Qn,List.take_zero];unfold Dat.Va;rfl
  | succ k U =>
   intro aa;rw [List.range_succ,qm,List.take_add_one,O k ya];refine Zu (U ya) (Zw ?_);have H:=h.own i k E ya;obtain⟨A,c,F⟩:=h.form E (show k<T by omega);rw [F] at H;obtain⟨ab,Z,R⟩:=H.slice (S':=S') (N k ya) (fun b z=>I b (z.imp id (fun z=>⟨z.1,z.2.1⟩))) (fun g M K _=>I g (.inr ⟨M,K⟩));rw [F];unfold Dat.Vs;exact⟨A,c,rfl,Z,R⟩
 have:=key T nR;rwa [qs ya] at this
theorem ZaG {an:Array Oper} {o:Oper} {a:Act} {I:Act->World->Prop} {Q:Exit->Act->World->Prop} {aq:Prop} (U:o.guard=none) (s x:Operand) (t:TypeId)
 (ao:o.op=.call { callee:=.builtin .append,args:=#[s,x],argTypes:=#[t,t] })
 {F:TypeInfo} {H:Value} (bytes:Nat) (ae:prog.underlying t=some (.slice e)) (ay:prog.info? e=some F) (am:F.zero=some H)
 (Z:F.size=size) (ap:F.bytes=bytes) (av:H.cells.size=size) (ak:0<size)
 {w0:World} (h:Grid w0 B0 e TT size S0 n T G C V L) {i j:Nat} (O:i<n) (R:j<T) (ar:a.eval s=V i j)
 {d:Dat} (E:Array Value) (hd:Dat.Vs w0 (Oth S0 w0 B0 n T V) d E.toList) (ab:d.Plain) (ac:d.size=size) (K:Nat) (au:a.eval x=.slice (some ⟨w0,0,none⟩) 1 K)
 (aA:(L i j).length+1<=17592186044416) (ax:((L i j).length+1)*bytes<=140737488355328)
 (ai:∀ g cap w',Grid w' B0 e TT size S0 n T G C (upd V i j (.slice (some ⟨g,0,none⟩) ((L i j).length+1) cap)) (upd L i j (L i j++[d]))->w0.grownBy w' (V i j).ownBlock->I (a.put o.dst (.slice (some ⟨g,0,none⟩) ((L i j).length+1) cap)) w') :
 if Region.wanted o (yielded an a.tmps)=true then Oper.wp prog o a (w0.alloc (.cells E e)) I Q else aq:=by
 have ah:Below w0 w0 (w0.alloc (.cells E e)):=(qa _ _).alloc nR _;have N:=h.below ah;obtain⟨vals,aj,aa,aB⟩:=N.own i j O R
 have aw:Dat.Vs (w0.alloc (.cells E e)) (Oth S0 (w0.alloc (.cells E e)) B0 n T V) d E.toList:=by
  refine Dat.Vs.more (fun b z=>z.imp id (fun z=>⟨z.1,by have:=z.2.1;simp;omega,z.2.2⟩)) d _ (Dat.Vs.keep (fun b z=>?_) d _ hd);refine qd _ _ _ ?_;rcases z with z | z
  .have:=(h.s0 b z).1;have:=h.hi;omega
  exact z.2.1
 refine step_append_lies _ U s x t ao B0 e F H size bytes ae ay am Z ap av ak (V i j) (L i j).length vals ar aj ⟨w0,0,none⟩ 1 K E.toList au
  (by rw [Dat.Vs.len _ _ hd,ac];omega) (World.news_of_block (qb w0 (.cells E e))) (Dat.Vs.one d _ ab hd) ya yh ax (by have:=h.hi;simp;omega) (w0+1) (Qt _ _) ?_
 intro g cap w' W M af az;refine ai g cap w' (N.push O R aa aw rfl W M (af.imp id (fun e=>by rw [e,Qt]))) ?_;exact(qY w0 _ _).trans M
end
section
variable {α:Type} {f:α->α->Int}
structure TPre (f:α->α->Int):Prop where
 flip:∀ a b,f a b<0↔0<f b a
 le_trans:∀ a b c,f a b<=0->f b c<=0->f a c<=0
theorem TPre.refl (h:TPre f) (a:α):f a a=0:=by have:=h.flip a a;omega
theorem TPre.lt_le (h:TPre f) {a b c:α} (H:f a b<0) (z:f b c<=0):f a c<0:=by
 have K:=h.flip a c;have F:=h.flip c a;have I:=h.flip a b;have E:=h.le_trans b c a z;omega
end
theorem ZcY {cs:Array Value} (h:w.heap[n]?=some (.cells cs g (0,0))):CellsAt w n 0 cs.toList:=fun j u z=>by
 rw [qx];simp only [World.cell?,h];simpa using z
def Lst (w:World) (base gN n k:Nat) (TT:TypeId) (D:List Dat):Prop :=
 ∃ vs:List Value,vs.length=k/\w.heap[gN]?=some (.cells (vs++Zk (n - k)).toArray TT (0,0))/\Dat.Va w (fun b=>base<=b/\b<w) (D.take k) vs
section
variable {w w':World} {base gN n k:Nat} {TT:TypeId} {D:List Dat}
theorem Lst.zero (h:w.heap[gN]?=some (.cells (Zk n).toArray TT (0,0))):Lst w base gN n 0 TT D :=
 ⟨[],rfl,by simpa using h,by simp only [List.take_zero];unfold Dat.Va;rfl⟩
theorem Lst.lt (h:Lst w base gN n k TT D):gN<w:=by
 obtain⟨_,_,h,_⟩:=h;exact Zb h
theorem Lst.below (h:Lst w base gN n k TT D) (E:Below w w w'):Lst w' base gN n k TT D:=by
 obtain⟨vs,H,F,I⟩:=h;exact⟨vs,H,(E.block gN (Zb F)).trans F,Dat.Va.more (fun b z=>⟨z.1,qC z.2 E.size⟩) _ _ (Dat.Va.keep (fun b z=>E.block b z.2) _ _ I)⟩
theorem Lst.cell (h:Lst w base gN n k TT D) (H:k<n):yr w gN k (.slice none 0 0)/\w.frozen? ⟨gN,k,none⟩=false:=by
 obtain⟨vs,I,z,_⟩:=h;refine⟨?_,by simp [World.frozen?,z]⟩
 have F:=ZcY z k (.slice none 0 0) (by
  show (vs++Zk (n - k))[k]?=_;rw [List.getElem?_append_right ya,show k - vs.length=0 by omega];obtain⟨m,E⟩:∃ m,n - k=m+1:=⟨n - k - 1,ya⟩;rw [E];rfl)
 rwa [qx] at F
theorem Lst.put (h:Lst w base gN n k TT D) (N:k<n) (O:gN<base) {v:Value} {d:Dat} (hd:D[k]?=some d) (I:Dat.Vs w (fun b=>base<=b/\b<w) d [v]):Lst (w.setCell ⟨gN,k,none⟩ v) base gN n (k+1) TT D:=by
 obtain⟨vs,F,K,L⟩:=h;have E:∀ b,base<=b/\b<w->(w.setCell ⟨gN,k,none⟩ v).heap[b]?=w.heap[b]?:=fun b z=>qc w ⟨gN,k,none⟩ v b (by show b≠gN;omega);refine⟨vs++[v],by simp [F],?_,?_⟩
 .have e:(vs++Zk (n - k)).set k v=vs++[v]++Zk (n - (k+1)):=by
   rw [show n - k=n - (k+1)+1 by omega];subst F;simp [Zk,List.replicate_succ,List.set_append]
  rw [<-e];exact Zc K
 have H:=(qR.1 hd).1
 have M:D.take (k+1)=D.take k++[d]:=by
  rw [qj H]
  congr 2
  exact(qR.1 hd).2
 rw [M];refine Dat.Va.more (fun b z=>⟨z.1,by simpa using z.2⟩) _ _ (Zu (Dat.Va.keep E _ _ L) (Zw (Dat.Vs.keep E _ _ I)))
theorem Lst.done (h:Lst w base gN n n TT D) (L:D.length=n) (H:Dat.bytesAll D<=140737488355328) {S':Nat->Prop} (I:S' gN) (F:∀ b,base<=b/\b<w->S' b):Sl w S' (some ⟨gN,0,none⟩) D:=by
 obtain⟨vs,K,z,E⟩:=h;rw [qs ya] at E;rw [show Zk (n - n)=[] by simp [Zk],Qq] at z;exact Qb H (Dat.Va.more F _ _ E) (fun _=>⟨gN,0,rfl,I,ZcY z⟩)
end
section
variable {w w':World} {base size:Nat} {S0 X:Nat->Prop} {e:TypeId} {v:Value} {l l2:List Dat}
theorem ZcB {P:Program} {w:World} (t H:TypeId) {e:TypeId} {i:TypeInfo} (F:P.underlying t=some (.slice e)) (I:P.info? e=some i)
 (A:Option Addr) (n c:Nat) (z:n<=c) (B:Option Addr) (E:Nat) :
 (Builtin.append_ #[t,t] H #[.slice A n c,.slice B 0 E]).run P w=.ok (.slice A n c) w:=by
 cases A<;>cases B<;>simp [Builtin.append_,run_underlying F,sizeOf,typeInfo,I,Builtin.lenOf,Builtin.firstCells,storeCells,loadCells,loadCellsFrom,z]
theorem Mk.cap {A:Option Addr} {n c:Nat} (h:Mk w base S0 e size (.slice A n c) l):n<=c:=by
 obtain⟨vals,z,_⟩:=h.own;have E:=h.len;subst E;exact Zas z rfl
theorem Mk.pushs {H vals:List Value} {g cap n c m:Nat} {A:Option Addr} (h:Mk w base S0 e size (.slice A n c) l) (R:Dat.Va w (fun b=>S0 b\/Beh base w (.slice A n c) b) l vals) (hd:Dat.Va w (fun b=>S0 b\/Beh base w (.slice A n c) b) l2 H)
 (N:m=l2.length) (O:w'.ownsRow base e size (.slice (some ⟨g,0,none⟩) (n+m) cap) (n+m) (vals++H)) (F:w.grownBy w' (Value.slice A n c).ownBlock) (E:(Value.slice A n c).ownBlock=some g\/g=w.heap.size):Mk w' base S0 e size (.slice (some ⟨g,0,none⟩) (n+m) cap) (l++l2):=by
 obtain⟨vs,U,K,L⟩:=h.own;have Z:=h.len;have I:Same (fun b=>S0 b\/Beh base w (.slice A n c) b) w w':=fun b z=>F.block b (L b z).1 (L b z).2
 have W:∀ b,b<w.heap.size->some b≠(Value.slice A n c).ownBlock->some b≠(Value.slice (some ⟨g,0,none⟩) (n+m) cap).ownBlock:=fun b U K e=>by
  have M:b=g:=(by simpa [Value.ownBlock] using e);rcases E with E | E
  .exact K (by rw [E,M])
  omega
 have:base<=g:=by
  rcases E with E | E
  .exact(h.base_le E).1
  rw [E];exact h.hi
 refine⟨⟨vals++H,by rw [qi,<-Z,<-N];exact O,Dat.Va.more (fun b z=>z.imp id (fun z=>⟨z.1,qC z.2.1 F.size,W b z.2.1 z.2.2⟩)) _ _ (Zu (Dat.Va.keep I _ _ R) (Dat.Va.keep I _ _ hd)),fun b z=>?_⟩,h.lo,qD h.hi F.size⟩;rcases z with z | z
 .refine⟨by have:=h.lo b z;have:=h.hi;have:=F.size;omega,fun e=>?_⟩;have M:b=g:=(by simpa [Value.ownBlock] using e);have:=h.lo b z;omega
 exact z.2
theorem wp_append_mks {o:Oper} {a:Act} {M:Act->World->Prop} {Q:Exit->Act->World->Prop} (s:Operand) {x:Operand} {t:TypeId}
 (R:o.op=.call { callee:=.builtin .append,args:=#[s,x],argTypes:=#[t,t] })
 {base:Nat} {S0:Nat->Prop} {e:TypeId} {i:TypeInfo} {H:Value} {size:Nat} (bytes:Nat) (N:prog.underlying t=some (.slice e)) (W:prog.info? e=some i) (ak:i.zero=some H)
 (ab:i.size=size) (am:i.bytes=bytes) (aq:H.cells.size=size) (aj:0<size)
 {w0:World} {A:Option Addr} {n c:Nat} {l:List Dat} (z:Mk w0 base S0 e size (.slice A n c) l) (U:a.eval s=.slice A n c)
 {l2:List Dat} {K:List Value} (hd:Dat.Va w0 (fun b=>S0 b\/Beh base w0 (.slice A n c) b) l2 K) (ae:Dat.Pa l2) (af:∀ d ∈ l2,d.size=size) {B:Option Addr} {m I:Nat} (L:m=l2.length) (Z:a.eval x=.slice B m I) (ar:0<m->∃ ad,B=some ad/\∀ j u,K[j]?=some u->w0.cell? (ad.add j)=some u)
 (ax:n+m<=17592186044416) (au:(n+m)*bytes<=140737488355328)
 (h:∀ A' cap w',Mk w' base S0 e size (.slice A' (n+m) cap) (l++l2)->Below base w0 w'->M (a.put o.dst (.slice A' (n+m) cap)) w'):o.wp prog a w0 M Q:=by
 rcases qF m with F | F
 .subst F;have ai:l2=[]:=qN L.symm;subst ai;have ao:=ZcB (P:=prog) (w:=w0) t o.type N W A n c z.cap B I;unfold Oper.wp execOp;simp only [R,resolve,invoke,builtin,Sem.run_bind,Sem.run_pure,Result.andThen_ok,List.map_toArray,qL,Qn,U,Z,ao];exact h A c w0 (by rw [Qq];exact z) (qa _ _)
 obtain⟨ad,rfl,an⟩:=ar F;obtain⟨vals,O,ac,ay⟩:=z.own;have ap:=z.len;rw [<-ap] at O;refine wp_append_lies _ s x t R base e i H size bytes N W ak ab am aq aj (.slice A n c) n vals U O ad m I K Z (by rw [hd.len,Zbo af,L]) an (Dat.Va.one _ _ ae hd) F yh au z.hi w0.heap.size rfl ?_;intro g cap w' aa E ah av;refine h _ cap w' (z.pushs ac hd L aa E ah) ⟨E.os,E.tape,E.output,E.size,fun b aw=>E.block b (yl z.hi) (fun e=>?_)⟩;have:=(z.base_le e.symm).1;omega
end
def Zes (c:Nat):Bool:=(decide (97<=c)&&decide (c<=122))||(decide (48<=c)&&decide (c<=57))||decide (c=95)
theorem nameC_r (h:Zau n k=true):Zes k=true:=by
 simp only [Zau,Zes,Bool.or_eq_true,qE,qT] at h ⊢;omega
theorem nameC_of_r (z:n≠0) (h:Zes k=true):Zau n k=true:=by
 simp only [Zau,Zes,Bool.or_eq_true,qE,qT] at h ⊢;omega
theorem get_byteAt (s:ByteArray) (i:Nat) (h:i<s.size):(s[i]'h).toNat=Zaf s i:=by
 have:s.get! i=s[i]:=by
  unfold ByteArray.get!;show s.data[i]! = _;rw [getElem!_pos s.data i h];rfl
 unfold Zaf;rw [this]
theorem ZhM (aC:h.size<=9223372036854775807):Calls prog 225 #[.string h] w (ZH (Zat h) w):=by
 have K:∀ (j:Nat) (F:World),j<h.size->(Instr.index 9 (.string h) (.int .i64 (j:Int))).run prog F=.ok (.int .u8 (Zaf h j)) F:=fun j F aw=>by
  rw [run_index_string F 9 h .i64 j underlying9,dif_pos ⟨ya,ya⟩];simp only [qu,get_byteAt h j aw]
 have ah:=hI K;clear K
 by_cases af:h.size=0
 .have E:=hI (show Zat h=false by unfold Zat;rw [show decide (1<=h.size)=false from qe ya];simp);have aj:((h.size:Int) == 0)=true:=(by simp [af]);clear af;go_enter func225,ntmps225
  go_wp2
  go_ret;exact⟨by rw [E];rfl,qa _ _⟩
 have aj:((h.size:Int) == 0)=false:=beq_false_of_ne ya
 by_cases ay:32<h.size
 .have E:=hI (show Zat h=false by unfold Zat;rw [show decide (h.size<=32)=false from qe ya];simp);have Z:decide ((32:Int)<h.size)=true:=qt ya;go_enter func225,ntmps225
  go_wp2
  go_ret;exact⟨by rw [E];rfl,qa _ _⟩
 have Z:decide ((32:Int)<h.size)=false:=qe ya;have ao:∀ F:World,(Instr.index 9 (.string h) (.int .i64 0)).run prog F=.ok (.int .u8 (Zaf h 0)) F:=(fun F=>by simpa using ah.out 0 F ya);have R:=hI (show Zau 0 (Zaf h 0)=false->Zat h=false from fun s=>ZdA ya s);have aa:=hI (show ∀ j,j=0->Zaf h j=Zaf h 0 from fun j s=>by rw [s]);obtain⟨c0,ab⟩:∃ c,Zaf h 0=c:=⟨_,rfl⟩;rw [ab] at ao R aa;clear ab
 by_cases aB:c0<97
 .have ae:decide ((c0:Int)<97)=true:=qt ya;have E:=hI (R (by simp [Zau];omega));go_enter func225,ntmps225
  go_wp2
  go_ret;exact⟨by rw [E];rfl,qa _ _⟩
 have ae:decide ((c0:Int)<97)=false:=qe ya
 by_cases az:122<c0
 .have an:decide ((122:Int)<c0)=true:=qt ya;have E:=hI (R (by simp [Zau];omega));go_enter func225,ntmps225
  go_wp2
  go_ret;exact⟨by rw [E];rfl,qa _ _⟩
 have an:decide ((122:Int)<c0)=false:=qe ya;have av:=hI (show Zau 0 c0=true by simp [Zau];omega);go_enter func225,ntmps225
 go_wp2_with fail
 clear ao aj Z ae an
 go_loopw [3] (fun i wr=>∃ z:Nat,z<=h.size/\i=.int .i64 z/\(∀ i,i<z->Zes (Zaf h i)=true)/\Below w w wr) (fun i _=>h.size - (intOf i).toNat)
 case atStart=>exact⟨0,qk _,rfl,fun i W=>absurd W ya,qa _ _⟩
 obtain⟨z,aD,rfl,N,H⟩:=hrel;replace N:=hI N;replace H:=hI H
 by_cases ai:z<h.size
 .have K:=fun F=>ah z F ai
  have M:=hI (show Zes (Zaf h z)=true->∀ i,i<z+1->Zes (Zaf h i)=true from fun L i W=>by
   rcases qv i z with s | s
   .exact N i s
   have:i=z:=ya;subst this;exact L)
  have O:=hI (show Zes (Zaf h z)=false->Zat h=false from fun L=>ZdA ai (by
   cases au:Zau z (Zaf h z) with
   | false=>rfl
   | true=>rw [nameC_r au] at L;cases L))
  generalize Zaf h z=c at K M O;have ap:(z:Int)<h.size:=by omega
  by_cases aE:c<97
  .have ax:decide ((c:Int)<97)=true:=qt ya
   by_cases aq:c<48
   .have U:decide ((c:Int)<48)=true:=qt ya;have ak:((c:Int) != 95)=true:=yd;have E:=hI (O (by simp [Zes];omega))
    go_wp2
    go_ret;exact⟨by rw [E];rfl,H⟩
   have U:decide ((c:Int)<48)=false:=qe ya
   by_cases aA:57<c
   .have am:decide ((57:Int)<c)=true:=qt ya
    by_cases ar:c=95
    .subst ar;have I:=hI (M rfl)
     go_wp2
     go_roundw
     case rel=>exact⟨z+1,ya,by go_num,I,H⟩
     simp [intOf];omega
    have ak:((c:Int) != 95)=true:=yd;have E:=hI (O (by simp [Zes];omega))
    go_wp2
    go_ret;exact⟨by rw [E];rfl,H⟩
   have am:decide ((57:Int)<c)=false:=qe ya;have I:=hI (M (by simp [Zes];omega))
   go_wp2
   go_roundw
   case rel=>exact⟨z+1,ya,by go_num,I,H⟩
   simp [intOf];omega
  have ax:decide ((c:Int)<97)=false:=qe ya
  by_cases aq:122<c
  .have U:decide ((122:Int)<c)=true:=qt ya;have ak:decide ((c:Int)<48)=false:=qe ya;have am:decide ((57:Int)<c)=true:=qt ya;have:((c:Int) != 95)=true:=yd;have E:=hI (O (by simp [Zes];omega))
   go_wp2
   go_ret;exact⟨by rw [E];rfl,H⟩
  have U:decide ((122:Int)<c)=false:=qe ya;have I:=hI (M (by simp [Zes];omega))
  go_wp2
  go_roundw
  case rel=>exact⟨z+1,ya,by go_num,I,H⟩
  simp [intOf];omega
 have ap:¬ (z:Int)<h.size:=ya
 have E:=hI (show Zat h=true from ZgF ya ya (fun i W=>by
  by_cases ac:i=0
  .rw [ac,aa 0 rfl];exact av
  exact nameC_of_r ac (N i ya)))
 go_wp2
 go_ret;exact⟨by rw [E];rfl,H⟩
theorem rrefs_any (ay:Nat) (s:Sch) (an:TabS w S A s.tt) (ah:∀ b,S b->b<w) (aT:n<s.tt) (am:∀ t ∈ s.tt,t.key<=t.cols) :
 Calls prog 179 #[sAgg s.vv A s.tt ay,.int .i64 (n:Int)] w (ZH (Zac s.tt (s.tt.getD n t0).cols (s.tt.getD n t0).refs) w):=by
 obtain⟨bz,E⟩:=s;simp only at an aT am ⊢;have bC:=hI an;replace am:=hI am;obtain⟨ak,aV,rfl,bD,aO,bS,bp,c1,c2,bw,aA⟩:=an.at_ aT;obtain⟨aK,aw,aF,aJ,aG,af,ae,bF,-,-,-,bW⟩:=aA;have bj:=af.len;have aW:=ae.len;replace af:=hI af;replace ae:=hI ae;have:ak<w:=ah ak bD;clear an bF;generalize E.getD n t0=bu at aK aw aF aJ aG af ae bj aW ⊢;obtain⟨bK,z,bl,I,bB⟩:=bu;simp only at aK aw aF aJ aG af ae bj aW ⊢;have:(n:Int)<E:=ya;have bG:=hI (((qa w w).alloc nR (.cells #[.int .i64 bz,.slice (some ⟨ak,aV,none⟩) E.length ay] 25)).alloc yb (.cells #[.string bK,.slice aO z c1,.int .i64 bl,.slice bS I c2,.slice bp bB bw] 104));go_enter func179,ntmps179
 go_wp2
 go_loopw [18] (fun i wr=>∃ j:Nat,j<=I/\i=.int .i64 j/\Zac E z I=Zac E z (I.drop j)/\Below w w wr/\wr.cell? ⟨w,1,none⟩=some (.slice (some ⟨ak,aV,none⟩) E.length ay)/\wr.cell? ⟨w+1,1,none⟩=some (.slice aO z c1)/\w.heap.size+1<wr) (fun i _=>I.length - (intOf i).toNat)
 case atStart=>exact⟨0,qk _,rfl,yb,bG,yb,yb,yb⟩
 obtain⟨W,rfl⟩:∃ W:World,W=wr:=⟨_,rfl⟩;obtain⟨j,b2,rfl,N,Z,aI,aC,cj⟩:=hrel;have:w.heap.size<W:=ya;replace N:=hI N;replace Z:=hI Z;clear aK aw aF aJ aG
 by_cases aQ:j<I
 .have bH:(j:Int)<I:=ya;obtain⟨bV,bZ,rfl,b8,⟨bP,bL,f1,aU,aN⟩,av⟩:=(ae.keep (qS Z ah)).at_ aQ;have U:=hI (ZdP E z I j aQ);have ax:=hI aN;have bh:=aN.len;clear aN;generalize I.getD j r0=bO at f1 aU av ax U bh;obtain⟨F,R⟩:=bO;simp only at f1 aU av ax U bh;have aq:=hI (Z.alloc ya (.cells #[.slice bP F bL,.int .i64 R] 106))
  by_cases aL:R<0
  .have M:=hI (show Zdk E z ⟨F,R⟩=false by unfold Zdk;rw [show hasN E (⟨F,R⟩:Rfr).tx=false by unfold hasN;simp;omega];rfl)
   go_wp2
   go_quiet (fail)
   go_wp2
   go_ret;exact⟨by rw [N,U,M];rfl,below_drewN aq _⟩
  have bJ:decide (R<0)=false:=qe aL
  by_cases bg:(E:Int)<=R
  .have M:=hI (show Zdk E z ⟨F,R⟩=false by unfold Zdk;rw [show hasN E (⟨F,R⟩:Rfr).tx=false by unfold hasN;simp;omega];rfl)
   go_wp2
   go_quiet (fail)
   go_wp2
   go_ret;exact⟨by rw [N,U,M];rfl,below_drewN aq _⟩
  obtain⟨K,rfl⟩:=qn (show 0<=R by omega);have:decide (E.length<=K)=false:=qe ya;have bc:K<E:=ya;have:(K:Int)<E:=ya;obtain⟨ck,cm,ar,co,b0,ch,cf,b6,bU,b3,aA⟩:=(bC.keep (qS Z ah)).at_ bc;obtain⟨bT,l2,au,bm,bt,uS,_,_,-,-,-,-⟩:=aA;injection ar with ar;injection ar with bq bI;subst bq bI;have:ak<W:=ya;have aH:=hI uS;have aZ:(E.getD K t0).key<=(E.getD K t0).cols.length:=am _ (by simp [List.getD,bc])
  have ai:=hI (show Zdk E z ⟨F,K⟩=(decide ((F:Int)=(E.getD K t0).key)&&ZM z (E.getD K t0).cols F) by
   unfold Zdk;rw [show hasN E (⟨F,K⟩:Rfr).tx=true by unfold hasN;simp;omega];simp only [qu,Bool.true_and])
  have be:=uS.len;clear uS bT bm bt;generalize E.getD K t0=bo at l2 au aH aZ ai be;obtain⟨ce,L,uk,b7,b1⟩:=bo;simp only at l2 au aH aZ ai be
  by_cases az:(F:Int)=uk
  .have ao:=hI (show Zdk E z ⟨F,K⟩=ZM z L F by rw [ai,qt az];rfl);clear ai
   go_wp2
   go_quiet (fail)
   go_wp2
   go_loopw [49] (fun i aD=>∃ H:Nat,H<=F/\i=.int .i64 H/\ZM z L F=ZM z (L.drop H) (F.drop H)/\Below W W aD/\aD.cell? ⟨W,1,none⟩=some (.int .i64 K)/\W.heap.size<aD) (fun i _=>F.length - (intOf i).toNat)
   case atStart=>exact⟨0,qk _,rfl,yb,below_drewN ((qa _ _).alloc nR _) _,yb,yb⟩
   obtain⟨H,cp,rfl,aa,ab,br,bn⟩:=hrel;replace aa:=hI aa;have aE:=hI ab;have aj:=hI (Z.trans (ab.mono ya));have aI:=c9J ab aI;have aC:=c9J ab aC;have l2:=c9J ab l2;clear ab f1 av au
   by_cases aY:H<F
   .obtain⟨b4,bX,rfl,ci,bQ⟩:=(ax.keep (fun b ap=>aE.block b (yl (ah b ap)))).at_ aY;have O:=hI (Zdq z L F H aY ya);obtain⟨cd,cc,rfl,cn,bf,ba⟩:=(aH.keep (fun b ap=>aE.block b (yl (ah b ap)))).at_ (show H<L.length by omega);have:(H:Int)<L:=ya;generalize F.getD H 0=c at bQ O;generalize L.getD H c0=bk at bf ba O;obtain⟨cg,aX⟩:=bk;simp only at bf ba O
    by_cases aL:c<0
    .have M:=hI (show decide (0<=c)=false from qe ya)
     go_wp2
     go_quiet (fail)
     go_wp2
     go_ret;exact⟨by rw [N,U,ao,aa,O,M];rfl,below_drewN aj _⟩
    have bJ:decide (c<0)=false:=qe aL;obtain⟨ac,rfl⟩:=qn (show 0<=c by omega);rw [qu] at O
    by_cases bg:ac<z
    .have aP:decide (z.length<=ac)=false:=qe ya;have bM:(ac:Int)<z:=ya;obtain⟨b5,b9,rfl,ca,bb,bi⟩:=(af.keep (qS aj ah)).at_ bg;generalize z.getD ac c0=bE at bb bi O;obtain⟨bY,aR⟩:=bE;simp only at bb bi O;have bR:decide ((ac:Int)<(z:Int))=true:=qt bM
     by_cases aM:aR=aX
     .have bN:=hI (show ZM z L F=ZM z (L.drop (H+1)) (F.drop (H+1)) by rw [aa,O,bR];simp [aM])
      go_wp2
      go_quiet (fail)
      go_wp2
      go_roundw
      case rel=>exact⟨H+1,ya,by go_num,bN,below_drewN aE _,br,bn⟩
      simp [intOf];omega
     have:(aR != aX)=true:=(by simp [aM]);have M:=hI (show ZM z L F=false by rw [aa,O];simp [aM])
     go_wp2
     go_quiet (fail)
     go_wp2
     go_ret;exact⟨by rw [N,U,ao,M];rfl,below_drewN aj _⟩
    have aP:decide (z.length<=ac)=true:=qt ya;have M:=hI (show ZM z L F=false by rw [aa,O];simp;omega)
    go_wp2
    go_quiet (fail)
    go_wp2
    go_ret;exact⟨by rw [N,U,ao,M];rfl,below_drewN aj _⟩
   have aB:=hI (show Zac E z I=Zac E z (I.drop (j+1)) by
    rw [N,U,ao,aa,show H=F.length by omega,qQ];cases (L.drop F)<;>rfl)
   go_wp2
   go_roundw
   case rel=>exact⟨j+1,ya,by go_num,aB,aj,aI,aC,ya⟩
   simp [intOf];omega
  have aP:((F:Int) != uk)=true:=(by simp [az]);have M:=hI (show Zdk E z ⟨F,K⟩=false by rw [ai,qe az];rfl)
  go_wp2
  go_quiet (fail)
  go_wp2
  go_ret;exact⟨by rw [N,U,M];rfl,below_drewN aq _⟩
 have bH:¬ (j:Int)<I:=ya;have aB:=hI (show Zac E z I=true by rw [N,show j=I.length by omega,qQ];rfl)
 go_wp2
 go_ret;exact⟨by rw [aB];rfl,Z⟩
end Go.Proofs.YtjadnfodboepeaaGreat
