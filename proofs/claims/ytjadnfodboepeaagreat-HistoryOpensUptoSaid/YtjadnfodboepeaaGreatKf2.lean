import Derived.Test.YtjadnfodboepeaaGreatKej
import Derived.OrdersHeld
set_option linter.all false
set_option maxRecDepth 100000
set_option maxHeartbeats 8000000
namespace Go.Proofs.YtjadnfodboepeaaGreat
open Go Go.RowKit
variable {w:World} {n k m i:Nat} {x:Value} {P:Program} {K:Array Bool} {Q:Act}
section
variable {P:Program} {ops:Array Oper} {Q:Exit->Act->World->Prop} {md:Region.Mode} {S:World->Prop} {d:Nat}
def Waits (E:Region.Mode) (z:Array Oper) (d i:Nat):Prop:=∀ od,z[d]?=some od->∃ e ∈ od.after,Region.binds E e=true/\e.on=i
theorem ready_waits {i j:Nat} {F:Array Bool} (U:i ∈ Region.ready md ops F) (M:j ∈ Region.ready md ops F):∀ oj,ops[j]?=some oj->∀ e ∈ oj.after,Region.binds md e=true->e.on≠i:=by
 intro oj K e N O R;obtain⟨_,W,E,L⟩:=mem_ready.1 M;rw [K] at E;injection E with E;subst E;have z:=L e N O;have I:=(mem_ready.1 U).1;rw [R] at z;rcases qv i F.size with H | H
 .simp [H] at I z;rw [I] at z;cases z
 simp [Array.getElem?_eq_none H] at z
def AnyL (P:Program) (F:Region.Mode) (E:Array Oper) (Q:Exit->Act->World->Prop) (S:World->Prop) (d:Nat):Nat->Array Bool->Act->World->Prop
 | 0,z,a,w=>Region.ready F E z=[]/\Q .normal a w
 | n+1,z,a,w=>(Region.ready F E z=[]->Q .normal a w) /\
  ∀ i ∈ Region.ready F E z,wpOp P E Q i (fun H w'=>(i<d->S w')/\AnyL P F E Q S d n (z.setIfInBounds i true) H w') a w
theorem anyL_any:∀ (n:Nat) (z:Array Bool) (a:Act) (w:World),AnyL P md ops Q S d n z a w->wpAny P md ops Q n z a w
 | 0,_,_,_,h=>h
 | n+1,_,_,_,h=>⟨h.1,fun i E=>wpOp_mono (fun H w' F=>anyL_any n _ H w' F.2) (h.2 i E)⟩
theorem anyL_first {i:Nat} {oi:Oper} {v:Value} (N:ops[i]?=some oi) (Z:∀ (j:Nat) (o:Oper) cs b,ops[j]?=some o->o.op≠.select cs b) (hd:∀ j,d<=j->j<ops.size->Waits md ops j i)
 (ak:∀ c a w,Q (.panic c) (a.put oi.dst v) w->Q (.panic c) a w) :
 ∀ (n:Nat) (z:Array Bool) (a:Act) (w:World),
  (∀ j oj,ops[j]?=some oj->j≠i->z.getD j true=false->(∀ e ∈ oj.after,Region.binds md e=true->e.on≠i)->oi.apart ops oj=true) ->
  i ∈ Region.ready md ops z->YieldsIf P ops S oi v a->S w ->
  AnyL P md ops Q S d n (z.setIfInBounds i true) (a.put oi.dst v) w->AnyL P md ops Q S d (n+1) z a w:=by
 intro n;induction n with
 | zero =>
  intro z a w _ E L K H;refine⟨fun h=>(by rw [h] at E;cases E),fun j I=>?_⟩
  by_cases e:j=i
  .subst e;exact L.wpOp N K ⟨fun _=>K,H⟩
  have ab:=ready_mono I e;rw [H.1] at ab;cases ab
 | succ n ar =>
  intro z a w O E L K H;refine⟨fun h=>(by rw [h] at E;cases E),fun j I=>?_⟩
  by_cases e:j=i
  .subst e;exact L.wpOp N K ⟨fun _=>K,H⟩
  have ap:=H.2 j (ready_mono I e);obtain⟨aa,oj,F,_⟩:=mem_ready.1 I;have U:=ready_waits E I oj F
  have W:j<d:=Nat.lt_of_not_le fun ae=>by
   obtain⟨x,aq,aj,am⟩:=hd j ae (Array.getElem?_eq_some_iff.1 F).1 oj F;exact U x aq aj am
  have ai:=wpOp_putIf F (O j oj F e aa U) (fun cs b=>Z i oi cs b N) (fun cs b=>Z j oj cs b F) ak L ap;refine wpOp_mono (fun ao w' M=>⟨fun _=>M.2.1 W,ar (z.setIfInBounds j true) ao w' (fun k ok an ah R af=>?_) (ready_mono E (Ne.symm e)) M.1 (M.2.1 W) ?_⟩) ai
  .refine O k ok an ah ?_ af
   by_cases ac:j=k
   .subst ac;exact aa
   rw [getD_set_ne true ac] at R;exact R
  rw [Array.setIfInBounds_comm _ _ e];exact M.2.2
def waitsB (E:Region.Mode) (z:Array Oper) (d i:Nat):Bool:=match z[d]? with
 | some od=>od.after.any fun e=>Region.binds E e&&e.on == i
 | none=>true
theorem waits_of {i:Nat} (h:waitsB md ops d i=true):Waits md ops d i:=by
 intro od F;unfold waitsB at h;rw [F] at h;obtain⟨e,E,z⟩:=Array.any_eq_true'.1 h;simp only [qE,beq_iff_eq] at z;exact⟨e,E,z.1,z.2⟩
def waitsL (E:Region.Mode) (z:Array Oper) (d i:Nat):Bool:=(List.range z.size).all fun j=>decide (j<d)||waitsB E z j i
theorem waitsL_of {i:Nat} (h:waitsL md ops d i=true):∀ j,d<=j->j<ops.size->Waits md ops j i:=fun j F E=>by
 have z:=List.all_eq_true.1 h j (List.mem_range.2 E);simp only [Bool.or_eq_true,qT] at z;exact waits_of (z.resolve_left ya)
theorem anyL_done {z:Array Bool} {a:Act} {w:World} (E:Region.ready md ops z=[]) (h:Q .normal a w):AnyL P md ops Q S d 0 z a w:=⟨E,h⟩
end
theorem anyL_take {z:Array Oper} {d:Exit->Act->World->Prop} {F:Region.Mode} {S:World->Prop} {oi:Oper} {L':Array Bool} {t:Tmp} (H:z[k]?=some oi) (N:oi.dst=some t) (U:K.setIfInBounds k true=L') (O:Region.noSelect z=true) (I:Region.free F z K k=true)
 (M:(Region.ready F z K).contains k=true) (hd:waitsL F z n k=true) (R:∀ c Q n x w,d (.panic c) (Act.put Q n x) w->d (.panic c) Q w) (E:YieldsIf P z S oi x Q) (L:S w)
 (h:AnyL P F z d S n m L' ⟨Q.tmps.setIfInBounds t x,Q.defers⟩ w):AnyL P F z d S n (m+1) K Q w :=
 anyL_first H (Region.noSelect_spec O) (waitsL_of hd) (fun c Q w h=>R c Q _ _ w h) m K Q w (Region.free_spec H I) (by simpa using M) E L (by rw [U,N];exact h)
theorem anyL_one {E:Array Oper} {a:Exit->Act->World->Prop} {I:Region.Mode} {S:World->Prop} {o:Oper} {L':Array Bool} (Z:E[k]?=some o) (W:K.setIfInBounds k true=L') (L:Region.ready I E K=[k])
 (h:∀ z:Act->World->Prop,(∀ F w',(k<n->S w')->AnyL P I E a S n m L' F w'->z F w')->if Region.wanted o (yielded E Q.tmps)=true then Oper.wp P o Q w z a else z (Q.put o.dst undef) w) :
 AnyL P I E a S n (m+1) K Q w:=by
 subst W;refine⟨(fun M=>by rw [L] at M;cases M),fun j d=>?_⟩;rw [L] at d;have N:=qy.1 d;subst N;exact wpOp_step Z (fun z R=>h z fun F w' U O=>R F w' ⟨U,O⟩)
theorem regionL_until {z:Array Oper} {d:Exit->Act->World->Prop} {S:World->Prop} (F:P.follows .mixedOrders=true) (I:z.size=m) (H:Array.replicate z.size false=K)
 (h:AnyL P .any z d S k m K Q w.drew):(Code.region n z true).wp P d Q w:=by
 subst I H;exact wp_region_any F (anyL_any _ _ _ _ h)
theorem hideQ {c:Code} {a:Exit->Act->World->Prop} (z:∀ c Q d v w,a (.panic c) (Act.put Q d v) w->a (.panic c) Q w) (h:∀ Q',Hid (Q'=a)->Hid (∀ c Q d v w,Q' (.panic c) (Act.put Q d v) w->Q' (.panic c) Q w)->c.wp P Q' Q w):c.wp P a Q w:=h a (hI rfl) (hI z)
theorem anyL_two {F:Array Oper} {d:Exit->Act->World->Prop} {I:Region.Mode} {S:World->Prop} {oi oj:Oper} {Li Lj:Array Bool} (ac:F[k]?=some oi) (W:F[m]?=some oj) (ab:K.setIfInBounds k true=Li) (U:K.setIfInBounds m true=Lj) (O:Region.ready I F K=[k,m])
 (aa:∀ z:Act->World->Prop,(∀ E w',(k<n->S w')->AnyL P I F d S n i Li E w'->z E w')->if Region.wanted oi (yielded F Q.tmps)=true then Oper.wp P oi Q w z d else z (Q.put oi.dst undef) w)
 (Z:∀ z:Act->World->Prop,(∀ E w',(m<n->S w')->AnyL P I F d S n i Lj E w'->z E w')->if Region.wanted oj (yielded F Q.tmps)=true then Oper.wp P oj Q w z d else z (Q.put oj.dst undef) w) :
 AnyL P I F d S n (i+1) K Q w:=by
 refine⟨(fun R=>by rw [O] at R;cases R),fun j N=>?_⟩;rw [O] at N;rcases Qs.1 N with e | e
 .subst e;rw [ab];exact wpOp_step ac (fun z M=>aa z fun E w' L a=>M E w' ⟨L,a⟩)
 have e:=qy.1 e;subst e;rw [U];exact wpOp_step W (fun z M=>Z z fun E w' L a=>M E w' ⟨L,a⟩)
def bA (n k:Nat):Array Bool:=((List.range n).map fun i=>k.testBit i).toArray
theorem psA {α:Type} {l:List α} {a:α}:l.toArray.setIfInBounds n a=(l.set n a).toArray:=List.setIfInBounds_toArray ..
theorem psB {α:Type} {x a:α} {l:List α}:(x :: l).set 0 a=a :: l:=List.set_cons_zero
theorem psC {α:Type} {x a:α} {l:List α} :(x :: l).set (n+1) a=x :: l.set n a:=List.set_cons_succ
def cB (E:Region.Mode) (z:Array Oper) (d:Nat) (F:Array Bool) (i:Nat):Bool:=Region.noSelect z&&Region.free E z F i&&(Region.ready E z F).contains i&&waitsL E z d i
inductive Rn (P:Program) (md:Region.Mode) (ops:Array Oper) (S:World->Prop) (d N:Nat) (D:List Deferred):List Nat->Nat->Nat->Array Value->Nat->Nat->Array Value->Prop
 | nil {n k T}:Rn P md ops S d N D [] n k T n k T
 | skip {i l n k T m j T'}:Rn P md ops S d N D l n k T m j T'->Rn P md ops S d N D (i :: 0 :: l) n k T m j T'
 | cons {i t o1 o2 o3 o4 o5 v T U k j x l n m q T'}:ops[i]?=some ⟨some t,o1,o2,o3,o4,o5⟩->cB md ops d (bA N k) i=true->YieldsIf P ops S ⟨some t,o1,o2,o3,o4,o5⟩ v ⟨T,D⟩->T.setIfInBounds t v=U->k+2 ^ i=j->(bA N k).setIfInBounds i true=bA N j->Rn P md ops S d N D ((i+1) :: x :: l) n j U m q T'->Rn P md ops S d N D (i :: (x+1) :: l) (n+1) k T m q T'
section
variable {P:Program} {ops:Array Oper} {Q:Exit->Act->World->Prop} {md:Region.Mode} {S:World->Prop} {d n N k j i m x:Nat} {w:World} {T T' U:Array Value} {D:List Deferred} {o1 o2 o3 o4 o5} {t:Tmp} {v:Value} {l:List Nat}
theorem uk (i:Nat) (t:Tmp) (L':Array Bool) (v:Value) {E:Array Bool} {a:Act} (L:ops[i]?=some ⟨some t,o1,o2,o3,o4,o5⟩) (K:E.setIfInBounds i true=L') (z:cB md ops d E i=true) (I:∀ c a d v w,Q (.panic c) (Act.put a d v) w->Q (.panic c) a w)
 (F:YieldsIf P ops S ⟨some t,o1,o2,o3,o4,o5⟩ v a) (H:S w) (h:AnyL P md ops Q S d n L' ⟨a.tmps.setIfInBounds t v,a.defers⟩ w):AnyL P md ops Q S d (n+1) E a w:=by
 simp only [cB,qE] at z;exact anyL_take L rfl K z.1.1.1 z.1.1.2 z.1.2 z.2 I F H h
theorem Rn.go (L:∀ c a d v w,Q (.panic c) (Act.put a d v) w->Q (.panic c) a w) (H:S w) (h:Rn P md ops S d N D l n k T m j T'):AnyL P md ops Q S d m (bA N j) ⟨T',D⟩ w->AnyL P md ops Q S d n (bA N k) ⟨T,D⟩ w:=by
 induction h with
 | nil=>exact id
 | skip _ z=>exact z
 | cons O M F I _ E _ z=>exact fun K=>uk _ _ _ _ O E M L F H (by rw [I];exact z K)
theorem uR (l:List Nat) (E:∀ c a d v w,Q (.panic c) (Act.put a d v) w->Q (.panic c) a w) (F:S w) (h:AnyL P md ops Q S d m (bA N j) ⟨T',D⟩ w)
 (H:Rn P md ops S d N D l n k T m j T':=by
  repeat (first | exact Rn.nil | apply Rn.skip | apply Rn.cons yg ye (Or.inl ⟨yg,by intro w' z;(try dsimp only at z);go_simp;(try with_reducible rfl)⟩) (by (simp only [psA,psB,psC])<;>rfl) (by (try simp only [Nat.reducePow,Nat.reduceAdd])<;>rfl) ye | apply Rn.cons yg ye (Or.inr ⟨yg,rfl⟩) (by (simp only [psA,psB,psC])<;>rfl) (by (try simp only [Nat.reducePow,Nat.reduceAdd])<;>rfl) ye)):AnyL P md ops Q S d n (bA N k) ⟨T,D⟩ w:=H.go E F h
theorem uV (i:Nat) (v) {a:Act} (I:∀ c a d v w,Q (.panic c) (Act.put a d v) w->Q (.panic c) a w) (E:∀ w,S w->(execOp a.eval ⟨some t,o1,o2,o3,o4,o5⟩).run P w=.ok (.value v) w) (F:S w) (h:AnyL P md ops Q S d n (bA N j) ⟨a.tmps.setIfInBounds t v,a.defers⟩ w) (L:ops[i]?=some ⟨some t,o1,o2,o3,o4,o5⟩:=by rfl) (_:k+2 ^ i=j:=by (try simp only [Nat.reducePow,Nat.reduceAdd])<;>rfl) (K:(bA N k).setIfInBounds i true=bA N j:=by kernel_rfl) (H:cB md ops d (bA N k) i=true:=by kernel_rfl) (z:Region.wanted ⟨some t,o1,o2,o3,o4,o5⟩ (yielded ops a.tmps)=true:=by rfl):AnyL P md ops Q S d (n+1) (bA N k) a w:=uk i t _ v L K H I (Or.inl ⟨z,E⟩) F h
theorem uQ (i:Nat) {t:Option Tmp} {a:Act} (h:∀ z:Act->World->Prop,Hid (∀ E w',(i<d->S w')->AnyL P md ops Q S d n (bA N j) E w'->z E w')->if Region.wanted ⟨t,o1,o2,o3,o4,o5⟩ (yielded ops a.tmps)=true then Oper.wp P ⟨t,o1,o2,o3,o4,o5⟩ a w z Q else z (a.put t undef) w) (I:ops[i]?=some ⟨t,o1,o2,o3,o4,o5⟩:=by rfl) (_:k+2 ^ i=j:=by (try simp only [Nat.reducePow,Nat.reduceAdd])<;>rfl) (H:(bA N k).setIfInBounds i true=bA N j:=by kernel_rfl) (F:Region.ready md ops (bA N k)=[i]:=by kernel_rfl):AnyL P md ops Q S d (n+1) (bA N k) a w:=anyL_one I H F h
theorem uS {id:Nat} {a:Act} (S:World->Prop) (d n:Nat) (h:∀ Q',Hid (Q'=Q)->Hid (∀ c a d v w,Q' (.panic c) (Act.put a d v) w->Q' (.panic c) a w)->AnyL P .any ops Q' S d n (bA n 0) a w.drew) (z:∀ c a d v w,Q (.panic c) (Act.put a d v) w->Q (.panic c) a w:=by (intro c a d v w h;cases d<;>exact h)) (E:P.follows .mixedOrders=true:=by kernel_rfl) (K:ops.size=n:=by kernel_rfl) (H:Array.replicate ops.size false=bA n 0:=by kernel_rfl):(Code.region id ops true).wp P Q a w:=hideQ z (fun Q' F I=>regionL_until E K H (h Q' F I))
theorem uE {z:Array Bool} {a:Act} {Q'} (E:Hid (Q'=Q)) (h:Q .normal a w) (F:Region.ready md ops z=[]:=by kernel_rfl):AnyL P md ops Q' S d 0 z a w:=anyL_done F (by rw [E];exact h)
theorem uP {id:Nat} {a:Act} (S:World->Prop) (d n:Nat) (l:List Nat) (H:S w.drew) (h:Q .normal ⟨T',a.defers⟩ w.drew)
 (K:Rn P .any ops S d n a.defers l n 0 a.tmps 0 j T':=by
  repeat (first | exact Rn.nil | apply Rn.skip | apply Rn.cons yg ye (Or.inl ⟨yg,by intro w' L;(try dsimp only at L);go_simp;(try with_reducible rfl)⟩) (by (simp only [psA,psB,psC])<;>rfl) (by (try simp only [Nat.reducePow,Nat.reduceAdd])<;>rfl) ye | apply Rn.cons yg ye (Or.inr ⟨yg,rfl⟩) (by (simp only [psA,psB,psC])<;>rfl) (by (try simp only [Nat.reducePow,Nat.reduceAdd])<;>rfl) ye)) (F:Region.ready .any ops (bA n j)=[]:=by kernel_rfl) (z:∀ c a d v w,Q (.panic c) (Act.put a d v) w->Q (.panic c) a w:=by (intro c a d v w h;cases d<;>exact h)) (E:P.follows .mixedOrders=true:=by kernel_rfl) (O:ops.size=n:=by kernel_rfl) (M:Array.replicate ops.size false=bA n 0:=by kernel_rfl):(Code.region id ops true).wp P Q a w:=uS S d n (fun Q' N I=>K.go I H (uE N h F)) z E O M
theorem nD {p:Prop} (h:d<d):p:=absurd h (Nat.lt_irrefl d)
end
end Go.Proofs.YtjadnfodboepeaaGreat
