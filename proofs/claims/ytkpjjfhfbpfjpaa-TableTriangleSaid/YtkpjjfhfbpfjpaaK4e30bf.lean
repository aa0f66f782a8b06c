import Derived.Test.YtkpjjfhfbpfjpaaK5fea28
import Derived.OrdersHeld
import Derived.RegionTactic
import Derived.Lib.Hide
import Derived.WalkKit
import Derived.Test.YtkpjjfhfbpfjpaaK0d04bf
set_option linter.unusedVariables false
set_option linter.unusedSimpArgs false
set_option maxRecDepth 100000
set_option maxHeartbeats 8000000
namespace Go.Proofs.Ytkpjjfhfbpfjpaa
open Go Go.RowKit
section
variable {P:Program} {ops:Array Oper} {Q:Exit→Act→World→Prop} {md:Region.Mode} {S:World→Prop} {d:Nat}
def AnyU (P:Program) (md:Region.Mode) (ops:Array Oper) (Q:Exit→Act→World→Prop) (S:World→Prop) (d:Nat):Nat→Array Bool→Act→World→Prop
 | 0,listed,a,w=>Region.ready md ops listed=[]∧Q .normal a w
 | n+1,listed,a,w=>(Region.ready md ops listed=[]→Q .normal a w) ∧
  ∀ i ∈ Region.ready md ops listed,wpOp P ops Q i (fun a' w'=>(i≠d→S w')∧AnyU P md ops Q S d n (listed.setIfInBounds i true) a' w') a w
theorem Zgm:∀ (n:Nat) (listed:Array Bool) (a:Act) (w:World),AnyU P md ops Q S d n listed a w→wpAny P md ops Q n listed a w
 | 0,_,_,_,h=>h
 | n+1,_,_,_,h=>⟨h.1,fun i hi=>wpOp_mono (fun a' w' h'=>Zgm n _ a' w' h'.2) (h.2 i hi)⟩
def Waits (md:Region.Mode) (ops:Array Oper) (d i:Nat):Prop:=∀ od,ops[d]?=some od→∃ e ∈ od.after,Region.binds md e=true∧e.on=i
theorem ready_waits {i j:Nat} {listed:Array Bool} (hi:i ∈ Region.ready md ops listed) (hj:j ∈ Region.ready md ops listed):∀ oj,ops[j]?=some oj→∀ e ∈ oj.after,Region.binds md e=true→e.on≠i:=by
 intro oj hoj e he hb heq;obtain⟨_,oj',hoj',hall⟩:=mem_ready.1 hj;rw [hoj] at hoj';injection hoj' with hoj';subst hoj';have h1:=hall e he hb;have h0:=(mem_ready.1 hi).1;rw [heq] at h1;rcases Nat.lt_or_ge i listed.size with h' | h'
 · simp [h'] at h0 h1;rw [h0] at h1;cases h1
 · simp [Array.getElem?_eq_none h'] at h1
theorem anyU_first {i:Nat} {oi:Oper} {v:Value} (hi:ops[i]?=some oi) (hsel:∀ (j:Nat) (o:Oper) cs b,ops[j]?=some o→o.op≠.select cs b) (hd:Waits md ops d i)
  (hQ:∀ c a w,Q (.panic c) (a.put oi.dst v) w→Q (.panic c) a w) :
  ∀ (n:Nat) (listed:Array Bool) (a:Act) (w:World),
   (∀ j oj,ops[j]?=some oj→j≠i→listed.getD j true=false→(∀ e ∈ oj.after,Region.binds md e=true→e.on≠i)→oi.apart ops oj=true) →
   i ∈ Region.ready md ops listed→YieldsIf P ops S oi v a→S w →
   AnyU P md ops Q S d n (listed.setIfInBounds i true) (a.put oi.dst v) w→AnyU P md ops Q S d (n+1) listed a w:=by
 intro n;induction n with
 | zero =>
  intro listed a w _ hr hy hS H;refine⟨fun h=>(by rw [h] at hr;cases hr),fun j hj=>?_⟩
  by_cases e:j=i
  · subst e;exact hy.wpOp hi hS ⟨fun _=>hS,H⟩
  · have hm:=ready_mono hj e;rw [H.1] at hm;cases hm
 | succ n ih =>
  intro listed a w hfree hr hy hS H;refine⟨fun h=>(by rw [h] at hr;cases hr),fun j hj=>?_⟩
  by_cases e:j=i
  · subst e;exact hy.wpOp hi hS ⟨fun _=>hS,H⟩
  · have h1:=H.2 j (ready_mono hj e);obtain⟨hun,oj,hoj,_⟩:=mem_ready.1 hj;have hnot:=ready_waits hr hj oj hoj
    have hjd:j≠d:=fun ejd=>by
     subst ejd;obtain⟨x,hx,hb,hon⟩:=hd oj hoj;exact hnot x hx hb hon
    have h2:=wpOp_putIf hoj (hfree j oj hoj e hun hnot) (fun cs b=>hsel i oi cs b hi) (fun cs b=>hsel j oj cs b hoj) hQ hy h1;refine wpOp_mono (fun a' w' h3=>⟨fun _=>h3.2.1 hjd,ih (listed.setIfInBounds j true) a' w' (fun k ok hk hki hku hno=>?_) (ready_mono hr (Ne.symm e)) h3.1 (h3.2.1 hjd) ?_⟩) h2
    · refine hfree k ok hk hki ?_ hno
      by_cases ejk:j=k
      · subst ejk;exact hun
      · rw [getD_set_ne true ejk] at hku;exact hku
    · rw [Array.setIfInBounds_comm _ _ e];exact h3.2.2
def Zcw (md:Region.Mode) (ops:Array Oper) (d i:Nat):Bool:=match ops[d]? with
 | some od=>od.after.any fun e=>Region.binds md e&&e.on == i
 | none=>true
theorem waits_of {i:Nat} (h:Zcw md ops d i=true):Waits md ops d i:=by
 intro od hod;unfold Zcw at h;rw [hod] at h;obtain⟨e,he,hb⟩:=Array.any_eq_true'.1 h;simp only [Bool.and_eq_true,beq_iff_eq] at hb;exact⟨e,he,hb.1,hb.2⟩
theorem anyU_take {i:Nat} {oi:Oper} {v:Value} {n:Nat} {listed:Array Bool} {a:Act} {w:World} (hi:ops[i]?=some oi) (hs:Region.noSelect ops=true) (hf:Region.free md ops listed i=true)
  (hr:(Region.ready md ops listed).contains i=true) (hd:Zcw md ops d i=true) (hQ:∀ c a w,Q (.panic c) (a.put oi.dst v) w→Q (.panic c) a w) (hy:YieldsIf P ops S oi v a) (hS:S w)
  (h:AnyU P md ops Q S d n (listed.setIfInBounds i true) (a.put oi.dst v) w):AnyU P md ops Q S d (n+1) listed a w :=
 anyU_first hi (Region.noSelect_spec hs) (waits_of hd) hQ n listed a w (Region.free_spec hi hf) (by simpa using hr) hy hS h
theorem anyU_one {i:Nat} {o:Oper} {n:Nat} {listed:Array Bool} {a:Act} {w:World} (hi:ops[i]?=some o) (hr:Region.ready md ops listed=[i])
  (h:∀ K:Act→World→Prop,(∀ a' w',(i≠d→S w')→AnyU P md ops Q S d n (listed.setIfInBounds i true) a' w'→K a' w')→if Region.wanted o (yielded ops a.tmps)=true then Oper.wp P o a w K Q else K (a.put o.dst undef) w) :
  AnyU P md ops Q S d (n+1) listed a w:=by
 refine⟨(fun h0=>by rw [hr] at h0;cases h0),fun j hj=>?_⟩;rw [hr] at hj;have ej:=List.mem_singleton.1 hj;subst ej;exact wpOp_step hi (fun K hK=>h K fun a' w' h1 h2=>hK a' w' ⟨h1,h2⟩)
theorem anyU_done {listed:Array Bool} {a:Act} {w:World} (hr:Region.ready md ops listed=[]) (h:Q .normal a w):AnyU P md ops Q S d 0 listed a w:=⟨hr,h⟩
theorem region_until {id:Nat} {a:Act} {w:World} (S:World→Prop) (d:Nat) (hm:P.follows .mixedOrders=true)
  (h:AnyU P .any ops Q S d ops.size (Array.replicate ops.size false) a w.drew):(Code.region id ops true).wp P Q a w :=
 wp_region_any hm (Zgm _ _ _ _ h)
end
theorem hideQ {P:Program} {c:Code} {Q:Exit→Act→World→Prop} {a:Act} {w:World} (hp:∀ c a d v w,Q (.panic c) (Act.put a d v) w→Q (.panic c) a w) (h:∀ Q',Hid (Q'=Q)→Hid (∀ c a d v w,Q' (.panic c) (Act.put a d v) w→Q' (.panic c) a w)→c.wp P Q' a w):c.wp P Q a w:=h Q (hI rfl) (hI hp)
theorem anyT_take {P:Program} {ops:Array Oper} {Q:Exit→Act→World→Prop} {md:Region.Mode} {S:World→Prop} {d i:Nat} {oi:Oper} {v:Value} {n:Nat} {listed L':Array Bool} {a:Act} {w:World} {t:Tmp} (hi:ops[i]?=some oi) (ht:oi.dst=some t) (hL:listed.setIfInBounds i true=L') (hs:Region.noSelect ops=true) (hf:Region.free md ops listed i=true)
  (hr:(Region.ready md ops listed).contains i=true) (hd:Zcw md ops d i=true) (hQ:∀ c a d v w,Q (.panic c) (Act.put a d v) w→Q (.panic c) a w) (hy:YieldsIf P ops S oi v a) (hS:S w)
  (h:AnyU P md ops Q S d n L' ⟨a.tmps.setIfInBounds t v,a.defers⟩ w):AnyU P md ops Q S d (n+1) listed a w :=
 anyU_take hi hs hf hr hd (fun c a w h=>hQ c a _ _ w h) hy hS (by rw [hL,ht];exact h)
theorem anyT_one {P:Program} {ops:Array Oper} {Q:Exit→Act→World→Prop} {md:Region.Mode} {S:World→Prop} {d i:Nat} {o:Oper} {n:Nat} {listed L':Array Bool} {a:Act} {w:World} (hi:ops[i]?=some o) (hL:listed.setIfInBounds i true=L') (hr:Region.ready md ops listed=[i])
  (h:∀ K:Act→World→Prop,(∀ a' w',(i≠d→S w')→AnyU P md ops Q S d n L' a' w'→K a' w')→if Region.wanted o (yielded ops a.tmps)=true then Oper.wp P o a w K Q else K (a.put o.dst undef) w) :
  AnyU P md ops Q S d (n+1) listed a w :=
 anyU_one hi hr (by rw [hL];exact h)
theorem regionT_until {P:Program} {ops:Array Oper} {Q:Exit→Act→World→Prop} {id:Nat} {a:Act} {w:World} (S:World→Prop) (d n:Nat) (L:Array Bool) (hm:P.follows .mixedOrders=true) (hn:ops.size=n) (hL:Array.replicate ops.size false=L)
  (h:AnyU P .any ops Q S d n L a w.drew):(Code.region id ops true).wp P Q a w :=
 region_until S d hm (by rw [hL,hn];exact h)
theorem Zbh {P:Program} {ops:Array Oper} {Q:Exit→Act→World→Prop} {md:Region.Mode} {S:World→Prop} {d i j:Nat} {oi oj:Oper} {n:Nat} {listed Li Lj:Array Bool} {a:Act} {w:World} (hi:ops[i]?=some oi) (hj:ops[j]?=some oj) (hLi:listed.setIfInBounds i true=Li) (hLj:listed.setIfInBounds j true=Lj) (hr:Region.ready md ops listed=[i,j])
  (h1:∀ K:Act→World→Prop,(∀ a' w',(i≠d→S w')→AnyU P md ops Q S d n Li a' w'→K a' w')→if Region.wanted oi (yielded ops a.tmps)=true then Oper.wp P oi a w K Q else K (a.put oi.dst undef) w)
  (h2:∀ K:Act→World→Prop,(∀ a' w',(j≠d→S w')→AnyU P md ops Q S d n Lj a' w'→K a' w')→if Region.wanted oj (yielded ops a.tmps)=true then Oper.wp P oj a w K Q else K (a.put oj.dst undef) w) :
  AnyU P md ops Q S d (n+1) listed a w:=by
 refine⟨(fun h0=>by rw [hr] at h0;cases h0),fun k hk=>?_⟩;rw [hr] at hk;rcases List.mem_cons.1 hk with e | e
 · subst e;rw [hLi];exact wpOp_step hi (fun K hK=>h1 K fun a' w' g1 g2=>hK a' w' ⟨g1,g2⟩)
 · have e:=List.mem_singleton.1 e;subst e;rw [hLj];exact wpOp_step hj (fun K hK=>h2 K fun a' w' g1 g2=>hK a' w' ⟨g1,g2⟩)
def bA (n k:Nat):Array Bool:=((List.range n).map fun i=>k.testBit i).toArray
theorem psA {α:Type} {l:List α} {i:Nat} {a:α}:l.toArray.setIfInBounds i a=(l.set i a).toArray:=List.setIfInBounds_toArray ..
theorem psB {α:Type} {x a:α} {l:List α}:(x :: l).set 0 a=a :: l:=List.set_cons_zero
theorem psC {α:Type} {x a:α} {l:List α} {i:Nat}:(x :: l).set (i+1) a=x :: l.set i a:=List.set_cons_succ
theorem tk {P:Program} {ops:Array Oper} {Q:Exit→Act→World→Prop} {md:Region.Mode} {S:World→Prop} {d n:Nat} {listed:Array Bool} {a:Act} {w:World} (i:Nat) (t:Tmp) (L':Array Bool) (v:Value) {o1 o2 o3 o4 o5} (hi:ops[i]?=some ⟨some t,o1,o2,o3,o4,o5⟩) (hL:listed.setIfInBounds i true=L')
  (hc:(Region.noSelect ops&&Region.free md ops listed i&&(Region.ready md ops listed).contains i&&Zcw md ops d i)=true) (hQ:∀ c a d v w,Q (.panic c) (Act.put a d v) w→Q (.panic c) a w)
  (hw:Region.wanted ⟨some t,o1,o2,o3,o4,o5⟩ (yielded ops a.tmps)=true) (hy:∀ w,S w→(execOp a.eval ⟨some t,o1,o2,o3,o4,o5⟩).run P w=.ok (.value v) w) (hS:S w) (h:AnyU P md ops Q S d n L' ⟨a.tmps.setIfInBounds t v,a.defers⟩ w):AnyU P md ops Q S d (n+1) listed a w:=by
 simp only [Bool.and_eq_true] at hc;exact anyT_take hi rfl hL hc.1.1.1 hc.1.1.2 hc.1.2 hc.2 hQ (Or.inl ⟨hw,hy⟩) hS h
theorem tJ {P:Program} {ops:Array Oper} {Q:Exit→Act→World→Prop} {md:Region.Mode} {S:World→Prop} {d n:Nat} {listed:Array Bool} {a:Act} {w:World} (i:Nat) (t:Tmp) (L':Array Bool) {v:Value} {T':Array Value} {o1 o2 o3 o4 o5} (hQ:∀ c a d v w,Q (.panic c) (Act.put a d v) w→Q (.panic c) a w) (hS:S w) (h:AnyU P md ops Q S d n L' ⟨T',a.defers⟩ w) (hi:ops[i]?=some ⟨some t,o1,o2,o3,o4,o5⟩:=by rfl) (hL:listed.setIfInBounds i true=L':=by kernel_rfl) (hc:(Region.noSelect ops&&Region.free md ops listed i&&(Region.ready md ops listed).contains i&&Zcw md ops d i)=true:=by kernel_rfl) (hw:Region.wanted ⟨some t,o1,o2,o3,o4,o5⟩ (yielded ops a.tmps)=true:=by rfl) (hy:∀ w,S w→(execOp a.eval ⟨some t,o1,o2,o3,o4,o5⟩).run P w=.ok (.value v) w:=by intro w' hSw;(try dsimp only at hSw);go_simp;(try with_reducible rfl)) (hT:a.tmps.setIfInBounds t v=T':=by (simp only [psA,psB,psC])<;>rfl):AnyU P md ops Q S d (n+1) listed a w:=tk i t L' v hi hL hc hQ hw hy hS (by rw [hT];exact h)
theorem tK {P:Program} {ops:Array Oper} {Q:Exit→Act→World→Prop} {md:Region.Mode} {S:World→Prop} {d n:Nat} {listed:Array Bool} {a:Act} {w:World} (i:Nat) (t:Tmp) (L':Array Bool) {T':Array Value} {o1 o2 o3 o4 o5} (hQ:∀ c a d v w,Q (.panic c) (Act.put a d v) w→Q (.panic c) a w) (hS:S w) (h:AnyU P md ops Q S d n L' ⟨T',a.defers⟩ w) (hi:ops[i]?=some ⟨some t,o1,o2,o3,o4,o5⟩:=by rfl) (hL:listed.setIfInBounds i true=L':=by kernel_rfl) (hc:(Region.noSelect ops&&Region.free md ops listed i&&(Region.ready md ops listed).contains i&&Zcw md ops d i)=true:=by kernel_rfl) (hw:Region.wanted ⟨some t,o1,o2,o3,o4,o5⟩ (yielded ops a.tmps)=false:=by rfl) (hT:a.tmps.setIfInBounds t undef=T':=by (simp only [psA,psB,psC])<;>rfl):AnyU P md ops Q S d (n+1) listed a w:=by
 simp only [Bool.and_eq_true] at hc
 exact anyT_take hi rfl hL hc.1.1.1 hc.1.1.2 hc.1.2 hc.2 hQ (Or.inr ⟨hw,rfl⟩) hS (by rw [hT];exact h)
theorem tQ {P:Program} {ops:Array Oper} {Q:Exit→Act→World→Prop} {md:Region.Mode} {S:World→Prop} {d n:Nat} {listed:Array Bool} {a:Act} {w:World} (i:Nat) (t:Option Tmp) (L':Array Bool) {o1 o2 o3 o4 o5} (h:∀ K:Act→World→Prop,RowKit.Hid (∀ a' w',(i≠d→S w')→AnyU P md ops Q S d n L' a' w'→K a' w')→if Region.wanted ⟨t,o1,o2,o3,o4,o5⟩ (yielded ops a.tmps)=true then Oper.wp P ⟨t,o1,o2,o3,o4,o5⟩ a w K Q else K (a.put t undef) w) (hi:ops[i]?=some ⟨t,o1,o2,o3,o4,o5⟩:=by rfl) (hL:listed.setIfInBounds i true=L':=by kernel_rfl) (hr:Region.ready md ops listed=[i]:=by kernel_rfl):AnyU P md ops Q S d (n+1) listed a w:=anyT_one hi hL hr (fun K hK=>h K hK)
theorem tW {P:Program} {ops:Array Oper} {Q:Exit→Act→World→Prop} {md:Region.Mode} {S:World→Prop} {d n:Nat} {listed:Array Bool} {a:Act} {w:World} (i0 t0:Nat) (i1 t1:Nat) (L':Array Bool) {v0 v1:Value} {T1 T2:Array Value} {o01 o02 o03 o04 o05} {o11 o12 o13 o14 o15} (hQ:∀ c a d v w,Q (.panic c) (Act.put a d v) w→Q (.panic c) a w) (hS:S w) (h:AnyU P md ops Q S d n L' ⟨T2,a.defers⟩ w) (hi0:ops[i0]?=some ⟨some t0,o01,o02,o03,o04,o05⟩:=by rfl) (hc0:(Region.noSelect ops&&Region.free md ops listed i0&&(Region.ready md ops listed).contains i0&&Zcw md ops d i0)=true:=by kernel_rfl) (hw0:Region.wanted ⟨some t0,o01,o02,o03,o04,o05⟩ (yielded ops a.tmps)=true:=by rfl) (hy0:∀ w,S w→(execOp a.eval ⟨some t0,o01,o02,o03,o04,o05⟩).run P w=.ok (.value v0) w:=by intro w' hSw;(try dsimp only at hSw);go_simp;(try with_reducible rfl)) (hT0:a.tmps.setIfInBounds t0 v0=T1:=by (simp only [psA,psB,psC])<;>rfl) (hi1:ops[i1]?=some ⟨some t1,o11,o12,o13,o14,o15⟩:=by rfl) (hL:(listed.setIfInBounds i0 true).setIfInBounds i1 true=L':=by kernel_rfl) (hc1:(Region.noSelect ops&&Region.free md ops (listed.setIfInBounds i0 true) i1&&(Region.ready md ops (listed.setIfInBounds i0 true)).contains i1&&Zcw md ops d i1)=true:=by kernel_rfl) (hw1:Region.wanted ⟨some t1,o11,o12,o13,o14,o15⟩ (yielded ops (⟨T1,a.defers⟩:Act).tmps)=true:=by rfl) (hy1:∀ w,S w→(execOp (⟨T1,a.defers⟩:Act).eval ⟨some t1,o11,o12,o13,o14,o15⟩).run P w=.ok (.value v1) w:=by intro w' hSw;(try dsimp only at hSw);go_simp;(try with_reducible rfl)) (hT1:(⟨T1,a.defers⟩:Act).tmps.setIfInBounds t1 v1=T2:=by (simp only [psA,psB,psC])<;>rfl):AnyU P md ops Q S d (n+2) listed a w:=tk i0 t0 (listed.setIfInBounds i0 true) v0 hi0 rfl hc0 hQ hw0 hy0 hS (by rw [hT0];exact tk i1 t1 L' v1 hi1 hL hc1 hQ hw1 hy1 hS (by rw [hT1];exact h))
theorem tX {P:Program} {ops:Array Oper} {Q:Exit→Act→World→Prop} {md:Region.Mode} {S:World→Prop} {d n:Nat} {listed:Array Bool} {a:Act} {w:World} (i0 t0:Nat) (i1 t1:Nat) (i2 t2:Nat) (i3 t3:Nat) (L':Array Bool) {v0 v1 v2 v3:Value} {T1 T2 T3 T4:Array Value} {o01 o02 o03 o04 o05} {o11 o12 o13 o14 o15} {o21 o22 o23 o24 o25} {o31 o32 o33 o34 o35} (hQ:∀ c a d v w,Q (.panic c) (Act.put a d v) w→Q (.panic c) a w) (hS:S w) (h:AnyU P md ops Q S d n L' ⟨T4,a.defers⟩ w) (hi0:ops[i0]?=some ⟨some t0,o01,o02,o03,o04,o05⟩:=by rfl) (hc0:(Region.noSelect ops&&Region.free md ops listed i0&&(Region.ready md ops listed).contains i0&&Zcw md ops d i0)=true:=by kernel_rfl) (hw0:Region.wanted ⟨some t0,o01,o02,o03,o04,o05⟩ (yielded ops a.tmps)=true:=by rfl) (hy0:∀ w,S w→(execOp a.eval ⟨some t0,o01,o02,o03,o04,o05⟩).run P w=.ok (.value v0) w:=by intro w' hSw;(try dsimp only at hSw);go_simp;(try with_reducible rfl)) (hT0:a.tmps.setIfInBounds t0 v0=T1:=by (simp only [psA,psB,psC])<;>rfl) (hi1:ops[i1]?=some ⟨some t1,o11,o12,o13,o14,o15⟩:=by rfl) (hc1:(Region.noSelect ops&&Region.free md ops (listed.setIfInBounds i0 true) i1&&(Region.ready md ops (listed.setIfInBounds i0 true)).contains i1&&Zcw md ops d i1)=true:=by kernel_rfl) (hw1:Region.wanted ⟨some t1,o11,o12,o13,o14,o15⟩ (yielded ops (⟨T1,a.defers⟩:Act).tmps)=true:=by rfl) (hy1:∀ w,S w→(execOp (⟨T1,a.defers⟩:Act).eval ⟨some t1,o11,o12,o13,o14,o15⟩).run P w=.ok (.value v1) w:=by intro w' hSw;(try dsimp only at hSw);go_simp;(try with_reducible rfl)) (hT1:(⟨T1,a.defers⟩:Act).tmps.setIfInBounds t1 v1=T2:=by (simp only [psA,psB,psC])<;>rfl) (hi2:ops[i2]?=some ⟨some t2,o21,o22,o23,o24,o25⟩:=by rfl) (hc2:(Region.noSelect ops&&Region.free md ops ((listed.setIfInBounds i0 true).setIfInBounds i1 true) i2&&(Region.ready md ops ((listed.setIfInBounds i0 true).setIfInBounds i1 true)).contains i2&&Zcw md ops d i2)=true:=by kernel_rfl) (hw2:Region.wanted ⟨some t2,o21,o22,o23,o24,o25⟩ (yielded ops (⟨T2,a.defers⟩:Act).tmps)=true:=by rfl) (hy2:∀ w,S w→(execOp (⟨T2,a.defers⟩:Act).eval ⟨some t2,o21,o22,o23,o24,o25⟩).run P w=.ok (.value v2) w:=by intro w' hSw;(try dsimp only at hSw);go_simp;(try with_reducible rfl)) (hT2:(⟨T2,a.defers⟩:Act).tmps.setIfInBounds t2 v2=T3:=by (simp only [psA,psB,psC])<;>rfl) (hi3:ops[i3]?=some ⟨some t3,o31,o32,o33,o34,o35⟩:=by rfl) (hL:(((listed.setIfInBounds i0 true).setIfInBounds i1 true).setIfInBounds i2 true).setIfInBounds i3 true=L':=by kernel_rfl) (hc3:(Region.noSelect ops&&Region.free md ops (((listed.setIfInBounds i0 true).setIfInBounds i1 true).setIfInBounds i2 true) i3&&(Region.ready md ops (((listed.setIfInBounds i0 true).setIfInBounds i1 true).setIfInBounds i2 true)).contains i3&&Zcw md ops d i3)=true:=by kernel_rfl) (hw3:Region.wanted ⟨some t3,o31,o32,o33,o34,o35⟩ (yielded ops (⟨T3,a.defers⟩:Act).tmps)=true:=by rfl) (hy3:∀ w,S w→(execOp (⟨T3,a.defers⟩:Act).eval ⟨some t3,o31,o32,o33,o34,o35⟩).run P w=.ok (.value v3) w:=by intro w' hSw;(try dsimp only at hSw);go_simp;(try with_reducible rfl)) (hT3:(⟨T3,a.defers⟩:Act).tmps.setIfInBounds t3 v3=T4:=by (simp only [psA,psB,psC])<;>rfl):AnyU P md ops Q S d (n+4) listed a w:=tk i0 t0 (listed.setIfInBounds i0 true) v0 hi0 rfl hc0 hQ hw0 hy0 hS (by rw [hT0];exact tk i1 t1 ((listed.setIfInBounds i0 true).setIfInBounds i1 true) v1 hi1 rfl hc1 hQ hw1 hy1 hS (by rw [hT1];exact tk i2 t2 (((listed.setIfInBounds i0 true).setIfInBounds i1 true).setIfInBounds i2 true) v2 hi2 rfl hc2 hQ hw2 hy2 hS (by rw [hT2];exact tk i3 t3 L' v3 hi3 hL hc3 hQ hw3 hy3 hS (by rw [hT3];exact h))))
theorem tS {P:Program} {ops:Array Oper} {Q:Exit→Act→World→Prop} {id:Nat} {a:Act} {w:World} (S:World→Prop) (d n:Nat) (h:∀ Q',Hid (Q'=Q)→Hid (∀ c a d v w,Q' (.panic c) (Act.put a d v) w→Q' (.panic c) a w)→AnyU P .any ops Q' S d n (bA n 0) a w.drew) (hp:∀ c a d v w,Q (.panic c) (Act.put a d v) w→Q (.panic c) a w:=by (intro c a d v w h;cases d<;>exact h)) (hm:P.follows .mixedOrders=true:=by kernel_rfl) (hn:ops.size=n:=by kernel_rfl) (hL:Array.replicate ops.size false=bA n 0:=by kernel_rfl):(Code.region id ops true).wp P Q a w:=hideQ hp (fun Q' HQ HP=>regionT_until S d n _ hm hn hL (h Q' HQ HP))
theorem tE {P:Program} {ops:Array Oper} {Q Q':Exit→Act→World→Prop} {md:Region.Mode} {S:World→Prop} {d:Nat} {listed:Array Bool} {a:Act} {w:World} (HQ:Hid (Q'=Q)) (h:Q .normal a w) (hr:Region.ready md ops listed=[]:=by kernel_rfl):AnyU P md ops Q' S d 0 listed a w:=anyU_done hr (by rw [HQ.out];exact h)
theorem infoRs:(Try.prog.info? 49).map (fun i=>(i.zero,i.size,i.bytes))=some (some (.slice none 0 0),1,24):=by kernel_rfl
def ZaI (n:Nat):List Value:=List.replicate n (Value.slice none 0 0)
theorem ZdJ (n:Nat) (hn:n≤5864062014805) (w:World) :
  (Instr.makeSlice 54 (.int .i64 (n:Int)) (.int .i64 (n:Int))).run Try.prog w=.ok (.slice (some ⟨w.heap.size,0,none⟩) n n) (w.alloc (.cells (ZaI n).toArray 49)):=by
 obtain⟨i0,hi,hz0,hz1,hz2⟩:=info_parts infoRs;have hr:=run_make (P:=Try.prog) w 54 49 i0 _ Try.underlying54 hi hz0 .i64 .i64 n n (by omega) (by omega) (by rw [hz2];omega) (by omega);rw [hr,hz1];simp only [Int.toNat_natCast]
 congr 3
 apply Array.ext
 · simp [size_madeCells,ZaI]
 · intro i h1 h2;simp [madeCells,ZaI,Value.cells,Nat.mod_one]
def StB (w:World) (S:Nat→Prop) (gt:Nat) (st:St):Prop :=
 ∃ vs:List Value,w.heap[gt]?=some (.cells vs.toArray 49 (0,0))∧Dat.ValsAll w S (st.map ZbA) vs∧∀ b,S b→b<w.heap.size∧b≠gt
section
variable {w w':World} {S S':Nat→Prop} {gt:Nat} {st:St}
theorem valsAll_len {l:St} {vs:List Value} (h:Dat.ValsAll w S (l.map ZbA) vs):vs.length=l.length:=by
 rw [Dat.ValsAll.len _ _ h,ZaZ (n:=1) (fun _=>rfl)];omega
theorem StB.keep (h:StB w S gt st) (hs:w.heap.size≤w'.heap.size) (hk:Same S w w') (hg:w'.heap[gt]?=w.heap[gt]?):StB w' S gt st:=by
 obtain⟨vs,h1,h2,h3⟩:=h;exact⟨vs,hg.trans h1,Dat.ValsAll.keep hk _ _ h2,fun b hb=>⟨Nat.lt_of_lt_of_le (h3 b hb).1 hs,(h3 b hb).2⟩⟩
theorem StB.lt (h:StB w S gt st):gt<w.heap.size:=by
 obtain⟨vs,h1,_⟩:=h;exact Zad h1
theorem StB.below (h:StB w S gt st) (hb:Below w.heap.size w w'):StB w' S gt st:=by
 have h':=h;obtain⟨vs,h1,h2,h3⟩:=h';exact h.keep hb.size (fun b hb'=>hb.block b (h3 b hb').1) (hb.block gt h.lt)
theorem StB.more (h:StB w S gt st) (hS:∀ b,S b→S' b) (hS':∀ b,S' b→b<w.heap.size∧b≠gt):StB w S' gt st:=by
 obtain⟨vs,h1,h2,h3⟩:=h;exact⟨vs,h1,Dat.ValsAll.more hS _ _ h2,hS'⟩
theorem ZgZ:∀ {l:St} {vs:List Value} {k:Nat},Dat.ValsAll w S (l.map ZbA) vs→k<l.length→∃ A c,vs[k]?=some (.slice A (l.getD k []).length c)∧(l.getD k []).length≤c∧RowsS w S A (l.getD k [])
 | [],_,k,_,hk=>by simp at hk
 | a :: l,vs,k,h,hk=>by
  rw [List.map_cons] at h;unfold Dat.ValsAll at h;obtain⟨x,y,e,h1,h2⟩:=h;unfold ZbA Dat.Vals at h1;obtain⟨A,c,e1,h3,h4⟩:=h1;rw [List.length_map] at e1 h3;subst e1;subst e;cases k with
  | zero=>exact⟨A,c,rfl,h3,h4⟩
  | succ k =>
   obtain⟨A',c',h5,h6⟩:=ZgZ (k:=k) h2 (by simpa using hk);exact⟨A',c',by simpa using h5,h6⟩
theorem ZfU:∀ {l:St} {vs:List Value} {k:Nat} {A:Option Addr} {c:Nat} {r:List Row},Dat.ValsAll w S (l.map ZbA) vs→r.length≤c→RowsS w S A r→Dat.ValsAll w S ((l.set k r).map ZbA) (vs.set k (.slice A r.length c))
 | [],vs,k,A,c,r,h,_,_=>by
  simp only [List.map_nil] at h;unfold Dat.ValsAll at h;subst h;simp only [List.set_nil,List.map_nil];unfold Dat.ValsAll;rfl
 | a :: l,vs,k,A,c,r,h,h3,h4=>by
  rw [List.map_cons] at h;unfold Dat.ValsAll at h;obtain⟨x,y,e,h1,h2⟩:=h;have h1':=h1;unfold ZbA Dat.Vals at h1;obtain⟨A',c',e1,_⟩:=h1;rw [List.length_map] at e1;subst e1;subst e;cases k with
  | zero =>
   simp only [List.set_cons_zero,List.map_cons,List.singleton_append];unfold Dat.ValsAll;refine⟨[.slice A r.length c],y,rfl,?_,h2⟩;unfold ZbA Dat.Vals;exact⟨A,c,by simp,by simpa using h3,h4⟩
  | succ k =>
   simp only [List.set_cons_succ,List.map_cons,List.singleton_append];unfold Dat.ValsAll;exact⟨[.slice A' a.length c'],y.set k (.slice A r.length c),rfl,h1',ZfU h2 h3 h4⟩
theorem StB.at_ (h:StB w S gt st) {k:Nat} (hk:k<st.length):w.frozen? ⟨gt,k,none⟩=false∧∃ A c,w.cell? ⟨gt,k,none⟩=some (.slice A (st.getD k []).length c)∧(st.getD k []).length≤c∧RowsS w S A (st.getD k []):=by
 obtain⟨vs,h1,h2,h3⟩:=h;obtain⟨A,c,h4,h5⟩:=ZgZ h2 hk;refine⟨by simp [World.frozen?,h1],A,c,?_,h5⟩;simp only [World.cell?,h1];simpa using h4
theorem StB.slice (h:StB w S gt st) (hl:st.length≤5864062014805) (hS:∀ b,S b→S' b) (hg:S' gt):StS w S' (some ⟨gt,0,none⟩) st:=by
 obtain⟨vs,h1,h2,h3⟩:=h;refine Sl.of_vals (by rw [Zag (n:=24) (fun _=>rfl)];omega) (Dat.ValsAll.more hS _ _ h2) (fun h0=>⟨gt,0,rfl,hg,fun j u hu=>?_⟩);simp only [World.cell?,h1,Nat.zero_add];simpa using hu
theorem Zaf {w:World} {g k:Nat} {vs:List Value} {t:TypeId} {v:Value} (h:w.heap[g]?=some (.cells vs.toArray t (0,0))):(w.setCell ⟨g,k,none⟩ v).heap[g]?=some (.cells (vs.set k v).toArray t (0,0)):=by
 simp [World.setCell,Array.getElem?_modify,h]
theorem StB.put (h:StB w S gt st) {k:Nat} {A:Option Addr} {c:Nat} {r:List Row} (hc:r.length≤c) (hr:RowsS w S A r):StB (w.setCell ⟨gt,k,none⟩ (.slice A r.length c)) S gt (st.set k r):=by
 obtain⟨vs,h1,h2,h3⟩:=h;have hk:Same S w (w.setCell ⟨gt,k,none⟩ (.slice A r.length c)):=fun b hb=>Below.heap_setCell w ⟨gt,k,none⟩ _ b (h3 b hb).2;refine⟨_,Zaf h1,Dat.ValsAll.keep hk _ _ (ZfU h2 hc hr),fun b hb=>⟨by simpa using (h3 b hb).1,(h3 b hb).2⟩⟩
end
abbrev Beh (base:Nat) (w:World) (v:Value):Nat→Prop:=fun b=>base≤b∧b<w.heap.size∧some b≠v.ownBlock
abbrev BehF (base:Nat) (w:World) (v:Value):Nat→Prop:=fun b=>base≤b∧b<w.heap.size∧some b≠v.ownBlock∧Fl w b
def CopyO (w:World) (base gt n k:Nat) (st:St):Prop :=
 ∃ vs:List Value,vs.length=k∧w.heap[gt]?=some (.cells (vs++ZaI (n - k)).toArray 49 (0,0))∧Dat.ValsAll w (fun b=>base≤b∧b<w.heap.size∧Fl w b) ((st.take k).map ZbA) vs
structure CopyI (w:World) (base gt n k:Nat) (st:St) (v:Value) (l:List Row):Prop where
 blk:∃ vs:List Value,vs.length=k∧w.heap[gt]?=some (.cells (vs++v :: ZaI (n - (k+1))).toArray 49 (0,0))∧Dat.ValsAll w (BehF base w v) ((st.take k).map ZbA) vs
 own:OwnD w base 27 1 (BehF base w v) v (l.map ZaJ)
section
variable {w w':World} {base gt n k:Nat} {st:St} {v v':Value} {l:List Row}
theorem CopyO.zero (h:w.heap[gt]?=some (.cells (ZaI n).toArray 49 (0,0))):CopyO w base gt n 0 st :=
 ⟨[],rfl,by simpa using h,by simp only [List.take_zero,List.map_nil];unfold Dat.ValsAll;rfl⟩
theorem CopyO.inner (h:CopyO w base gt n k st) (hk:k<n):CopyI w base gt n k st (.slice none 0 0) []:=by
 obtain⟨vs,h1,h2,h3⟩:=h;refine⟨⟨vs,h1,?_,Dat.ValsAll.more (fun b hb=>⟨hb.1,hb.2.1,by simp [Value.ownBlock],hb.2.2⟩) _ _ h3⟩,OwnD.nil_ (fun b hb=>hb.2.1)⟩;rw [show n - k=n - (k+1)+1 by omega] at h2;exact h2
theorem CopyI.cell (h:CopyI w base gt n k st v l):w.cell? ⟨gt,k,none⟩=some v∧w.frozen? ⟨gt,k,none⟩=false:=by
 obtain⟨vs,h1,h2,_⟩:=h.blk;refine⟨?_,by simp [World.frozen?,h2]⟩;simp only [World.cell?,h2];simp [←h1]
theorem CopyI.form (h:CopyI w base gt n k st v l):∃ A c,v=.slice A l.length c:=by
 obtain⟨vals,h1,_⟩:=h.own;rw [List.length_map] at h1;exact ZfC h1
theorem CopyI.push (h:CopyI w base gt n k st v l) (hgb:gt<base) (hbw:base≤w.heap.size) {r:Row} {A:Option Addr} {c:Nat} {wa wb:World} (hb:Below w.heap.size w wa) (hr:r.length≤c∧RowS wa (fun b=>w.heap.size≤b∧b<wa.heap.size∧Fl wa b) A r) {vals:List Value} {g cap m:Nat}
  (hva:Dat.ValsAll w (BehF base w v) (l.map ZaJ) vals) (hgr:wa.grownBy wb v.ownBlock) (hm:m=l.length+1) (hown:wb.ownsRow base 27 1 (.slice (some ⟨g,0,none⟩) m cap) m (vals++[.slice A r.length c])) (hat:v.ownBlock=some g∨wa.heap.size≤g) (hvl:∀ g',v.ownBlock=some g'→base≤g'∧g'<w.heap.size) :
  CopyI (wb.setCell ⟨gt,k,none⟩ (.slice (some ⟨g,0,none⟩) m cap)) base gt n k st (.slice (some ⟨g,0,none⟩) m cap) (l++[r]):=by
 subst hm
 have hn1:∀ b,b<w.heap.size→some b≠v.ownBlock→some b≠(Value.slice (some ⟨g,0,none⟩) (l.length+1) cap).ownBlock:=fun b hb1 hb2 e=>by
  have e':b=g:=(by simpa [Value.ownBlock] using e);rcases hat with hat | hat
  · exact hb2 (by rw [hat,e'])
  · have:=hb.size;omega
 have hgl:g<wb.heap.size:=ZaE hown rfl;have hbs:=hb.size;have hgs:=hgr.size;obtain⟨vs,h1,h2,h3⟩:=h.blk;have hglt:=Zad h2;have hgtv:some gt≠v.ownBlock:=(fun e=>by have:=(hvl gt e.symm).1;omega);have hsz:(wb.setCell ⟨gt,k,none⟩ (.slice (some ⟨g,0,none⟩) (l.length+1) cap)).heap.size=wb.heap.size:=(by simp);have hset:∀ b,b≠gt→(wb.setCell ⟨gt,k,none⟩ (.slice (some ⟨g,0,none⟩) (l.length+1) cap)).heap[b]?=wb.heap[b]?:=fun b hb'=>Below.heap_setCell wb ⟨gt,k,none⟩ _ b hb';have hbel:Same (BehF base w v) w (wb.setCell ⟨gt,k,none⟩ (.slice (some ⟨g,0,none⟩) (l.length+1) cap)):=fun b hb'=>(hset b (by have:=hb'.1;omega)).trans ((hgr.block b (by have:=hb'.2.1;omega) hb'.2.2.1).trans (hb.block b hb'.2.1));have hT:∀ b,BehF base w v b→BehF base (wb.setCell ⟨gt,k,none⟩ (.slice (some ⟨g,0,none⟩) (l.length+1) cap)) (.slice (some ⟨g,0,none⟩) (l.length+1) cap) b:=fun b hb'=>⟨hb'.1,by rw [hsz];have:=hb'.2.1;omega,hn1 b hb'.2.1 hb'.2.2.1,hb'.2.2.2.keep (hbel b hb')⟩;refine⟨⟨vs,h1,?_,Dat.ValsAll.more hT _ _ (Dat.ValsAll.keep hbel _ _ h3)⟩,?_⟩
 · have h4:wb.heap[gt]?=some (.cells (vs++v :: ZaI (n - (k+1))).toArray 49 (0,0)):=(hgr.block gt (by omega) hgtv).trans ((hb.block gt hglt).trans h2);rw [Zaf h4];rw [←h1,List.set_append_right _ _ nR];simp
 · refine⟨vals++[.slice A r.length c],?_,?_,fun b hb'=>⟨hb'.2.1,hb'.2.2.1⟩⟩
   · rw [List.map_append,List.length_append,List.length_map];simp only [List.map_cons,List.map_nil,List.length_cons,List.length_nil,Nat.zero_add];exact ZaU hown (fun g' hg'=>hset g' (by have e':g=g' :=(by simpa [Value.ownBlock] using hg');have:base≤g:=ZaF hown rfl;omega))
   · rw [List.map_append];refine Zav (Dat.ValsAll.more hT _ _ (Dat.ValsAll.keep hbel _ _ hva)) ?_;simp only [List.map_cons,List.map_nil];refine ZaA (ZbL hr.1 ?_);have hk2:Same (fun b=>w.heap.size≤b∧b<wa.heap.size∧Fl wa b) wa (wb.setCell ⟨gt,k,none⟩ (.slice (some ⟨g,0,none⟩) (l.length+1) cap)):=fun b hb'=>(hset b (by omega)).trans (hgr.block b hb'.2.1 (fun e=>by have:=(hvl b e.symm).2;omega));refine(hr.2.keep hk2).more (fun b hb'=>⟨Nat.le_trans hbw hb'.1,by rw [hsz];exact Nat.lt_of_lt_of_le hb'.2.1 hgs,fun e=>?_,hb'.2.2.keep (hk2 b hb')⟩);have e':b=g:=(by simpa [Value.ownBlock] using e);rcases hat with hat | hat
     · have:=(hvl g hat).2;have:=hb'.1;omega
     · have:=hb'.2;omega
theorem CopyI.outer (h:CopyI w base gt n k st v (st.getD k [])) (hk:k<n) (hkl:k<st.length) (hl:(st.getD k []).length≤5864062014805):CopyO w base gt n (k+1) st:=by
 obtain⟨vs,h1,h2,h3⟩:=h.blk;obtain⟨A,c,rfl⟩:=h.form;have h4:=h.own.slice (S':=fun b=>base≤b∧b<w.heap.size∧Fl w b) (by rw [Zag (n:=24) (fun _=>rfl)];omega) (fun b hb=>⟨hb.1,hb.2.1,hb.2.2.2⟩) (fun g hg hg' hgo=>⟨hg,hg',by obtain⟨vals,h9,_⟩:=h.own;exact own_fl h9 hgo⟩);refine⟨vs++[.slice A (st.getD k []).length c],by simp [h1],by rw [List.append_assoc];exact h2,?_⟩;have e:st.take (k+1)=st.take k++[st.getD k []]:=(by rw [List.take_succ_eq_append_getElem hkl];simp [List.getD,hkl]);rw [e,List.map_append];refine Zav (Dat.ValsAll.more (fun b hb=>⟨hb.1,hb.2.1,hb.2.2.2⟩) _ _ h3) ?_;simp only [List.map_cons,List.map_nil];refine ZaA ?_;unfold ZbA Dat.Vals;exact⟨A,c,by simp,by simpa using h4.2.1,h4.2.2⟩
theorem CopyO.done (h:CopyO w base gt n n st) (hn:st.length=n) (hg:gt<base):StB w (fun b=>base≤b∧b<w.heap.size∧Fl w b) gt st:=by
 obtain⟨vs,h1,h2,h3⟩:=h;rw [List.take_of_length_le (by omega)] at h3;refine⟨vs,by simpa [ZaI] using h2,h3,fun b hb=>⟨hb.2.1,by omega⟩⟩
structure ApW (w:World) (H:Nat) (s:Sch) (A0:Option Addr) (c0' n:Nat) (wr:World):Prop where
 bel:Below w.heap.size w wr
 v0:wr.cell? ⟨w.heap.size,0,none⟩=some (.int .i64 s.version)
 v1:wr.cell? ⟨w.heap.size,1,none⟩=some (.slice A0 s.tabs.length c0')
 r0:wr.cell? ⟨w.heap.size+1+1,0,none⟩=some (.slice none 0 0)
 r1:wr.frozen? ⟨w.heap.size+1+1,0,none⟩=false
 a0:wr.cell? ⟨H+1,0,none⟩=some (.slice (some ⟨H,0,none⟩) n n)
 lt:w.heap.size+1+1<H
 sz:H+2≤wr.heap.size
theorem ApW.keep {w wr wr':World} {H:Nat} {s:Sch} {A0:Option Addr} {c0' n:Nat} (h:ApW w H s A0 c0' n wr) (hf:Fr (fun b=>b=H∨H+2≤b) wr wr'):ApW w H s A0 c0' n wr':=by
 have h1:=h.lt;have h2:=h.sz;refine⟨⟨hf.os.trans h.bel.os,hf.tape.trans h.bel.tape,hf.output.trans h.bel.output,Nat.le_trans h.bel.size hf.size,fun b hb=>(hf.block b (by omega) (by omega)).trans (h.bel.block b hb)⟩,?_,?_,?_,?_,?_,h1,Nat.le_trans h2 hf.size⟩
 · exact(hf.cell (by omega) (by omega)).trans h.v0
 · exact(hf.cell (by omega) (by omega)).trans h.v1
 · exact(hf.cell (by omega) (by omega)).trans h.r0
 · exact(World.frozen?_of_block (w:=wr) (a:=⟨w.heap.size+1+1,0,none⟩) (hf.block (w.heap.size+1+1) (by omega) (by omega))).trans h.r1
 · exact(hf.cell (by omega) (by omega)).trans h.a0
theorem ApW.below {w wr wr':World} {H:Nat} {s:Sch} {A0:Option Addr} {c0' n:Nat} (h:ApW w H s A0 c0' n wr) (hb:Below wr.heap.size wr wr'):ApW w H s A0 c0' n wr':=h.keep (Fr.of_below hb)
end
structure Mk (w:World) (base:Nat) (S0:Nat→Prop) (e:TypeId) (size:Nat) (v:Value) (l:List Dat):Prop where
 own:OwnD w base e size (fun b=>S0 b∨Beh base w v b) v l
 lo:∀ b,S0 b→b<base
 hi:base≤w.heap.size
section
variable {w w':World} {base size:Nat} {S0 X:Nat→Prop} {e:TypeId} {v:Value} {l:List Dat}
theorem Mk.start (lo:∀ b,S0 b→b<base) (hi:base≤w.heap.size) (e:TypeId) (size:Nat):Mk w base S0 e size (.slice none 0 0) [] :=
 ⟨OwnD.nil_ (fun b hb=>by rcases hb with hb | hb;{ have:=lo b hb;omega };exact hb.2.1),lo,hi⟩
theorem Mk.base_le (h:Mk w base S0 e size v l) {g:Nat} (hg:v.ownBlock=some g):base≤g∧g<w.heap.size:=by
 obtain⟨vals,h1,_⟩:=h.own;exact⟨ZaF h1 hg,ZaE h1 hg⟩
theorem Mk.keep (h:Mk w base S0 e size v l) (hf:Fr X w w') (hX:∀ b,X b→b<base∧¬ S0 b):Mk w' base S0 e size v l:=by
 have hk:Same (fun b=>S0 b∨Beh base w v b) w w':=fun b hb=>by
  rcases hb with hb | hb
  · exact hf.block b (by have:=h.lo b hb;have:=h.hi;omega) (fun hx=>(hX b hx).2 hb)
  · exact hf.block b hb.2.1 (fun hx=>by have:=(hX b hx).1;have:=hb.1;omega)
 have h1:=h.own.keep hf.size hk (fun g hg=>hf.block g (h.base_le hg).2 (fun hx=>by have:=(hX g hx).1;have:=(h.base_le hg).1;omega))
 exact⟨h1.more (fun b hb=>hb.imp id (fun hb=>⟨hb.1,Nat.lt_of_lt_of_le hb.2.1 hf.size,hb.2.2⟩)) (fun b hb=>by
  rcases hb with hb | hb
  · exact⟨by have:=h.lo b hb;have:=h.hi;have:=hf.size;omega,fun e=>by have:=(h.base_le e.symm).1;have:=h.lo b hb;omega⟩
  · exact hb.2),h.lo,Nat.le_trans h.hi hf.size⟩
theorem Mk.below (h:Mk w base S0 e size v l) (hb:Below w.heap.size w w'):Mk w' base S0 e size v l:=h.keep (X:=fun _=>False) (Fr.of_below hb) (fun _ h=>h.elim)
theorem Mk.len {A:Option Addr} {n c:Nat} (h:Mk w base S0 e size (.slice A n c) l):n=l.length:=by
 obtain⟨vals,h1,_⟩:=h.own;rcases h1.2 with ⟨e1,h0⟩ | ⟨g,cap,cur,e1,_⟩
 · injection e1 with _ e2 _;omega
 · injection e1
theorem Mk.slice {A:Option Addr} {n c:Nat} (h:Mk w base S0 e size (.slice A n c) l) (hl:Dat.bytesAll l≤140737488355328):n=l.length∧n≤c∧Sl w (fun b=>S0 b∨base≤b∧b<w.heap.size) A l :=
 h.own.slice hl (fun b hb=>hb.imp id (fun hb=>⟨hb.1,hb.2.1⟩)) (fun g h1 h2 _=>.inr ⟨h1,h2⟩)
theorem Mk.push {news vals:List Value} {d:Dat} {g cap n c m:Nat} {A:Option Addr} {a:Nat} (h:Mk w base S0 e size (.slice A n c) l) (hv:Dat.ValsAll w (fun b=>S0 b∨Beh base w (.slice A n c) b) l vals) (hd:Dat.Vals w (fun b=>S0 b∨Beh base w (.slice A n c) b) d news)
  (hm:m=n+1) (hown:w'.ownsRow base e size (.slice (some ⟨g,0,none⟩) m cap) m (vals++news)) (hg:w.grownBy w' (Value.slice A n c).ownBlock) (hat:(Value.slice A n c).ownBlock=some g∨g=w.heap.size):Mk w' base S0 e size (.slice (some ⟨g,0,none⟩) m cap) (l++[d]):=by
 obtain⟨vs,h1,h2,h3⟩:=h.own;have hn:=h.len;have hp:=Zhr hv hd h3 (by rw [hm,hn]) hown hg hat
 have hgo:∀ b,b<w.heap.size→some b≠(Value.slice A n c).ownBlock→some b≠(Value.slice (some ⟨g,0,none⟩) m cap).ownBlock:=fun b h1 h2 e=>by
  have e':b=g:=(by simpa [Value.ownBlock] using e);rcases hat with hat | hat
  · exact h2 (by rw [hat,e'])
  · omega
 have hgb:base≤g:=by
  rcases hat with hat | hat
  · exact(h.base_le hat).1
  · rw [hat];exact h.hi
 refine⟨hp.more (fun b hb=>hb.imp id (fun hb=>⟨hb.1,Nat.lt_of_lt_of_le hb.2.1 hg.size,hgo b hb.2.1 hb.2.2⟩)) (fun b hb=>?_),h.lo,Nat.le_trans h.hi hg.size⟩;rcases hb with hb | hb
 · refine⟨by have:=h.lo b hb;have:=h.hi;have:=hg.size;omega,fun e=>?_⟩;have e':b=g:=(by simpa [Value.ownBlock] using e);have:=h.lo b hb;omega
 · exact hb.2
theorem Zap {ops:Array Oper} {rest:List Oper} {o:Oper} {a:Act} {Q:Exit→Act→World→Prop} (hgd:o.guard=none) (s x:Operand) (t:TypeId)
  (ho:o.op=.call { callee:=.builtin .append,args:=#[s,x],argTypes:=#[t,t] })
  (base:Nat) (S0:Nat→Prop) (e:TypeId) (i:TypeInfo) (z:Value) (size bytes:Nat) (ht:Try.prog.underlying t=some (.slice e)) (hi:Try.prog.info? e=some i) (hz:i.zero=some z)
  (hsize:i.size=size) (hby:i.bytes=bytes) (hzs:z.cells.size=size) (hsz:0<size)
  (w0:World) (A:Option Addr) (n c:Nat) (l:List Dat) (hM:Mk w0 base S0 e size (.slice A n c) l) (hs:a.eval s=.slice A n c)
  (d:Dat) (news:Array Value) (hd:Dat.Vals w0 (fun b=>S0 b∨Beh base w0 (.slice A n c) b) d news.toList) (hpl:d.Plain) (hds:d.size=size) (c':Nat) (hx:a.eval x=.slice (some ⟨w0.heap.size,0,none⟩) 1 c')
  (h63:n+1≤17592186044416) (hbytes:(n+1)*bytes≤140737488355328)
  (h:∀ g cap w',Mk w' base S0 e size (.slice (some ⟨g,0,none⟩) (n+1) cap) (l++[d])→Below base w0 w'→w0.heap.size<w'.heap.size→wpList Try.prog ops Q rest (a.put o.dst (.slice (some ⟨g,0,none⟩) (n+1) cap)) w') :
  wpList Try.prog ops Q (o :: rest) a (w0.alloc (.cells news e)):=by
 have hba:Below w0.heap.size w0 (w0.alloc (.cells news e)):=(Below.refl _ _).alloc nR _;have hM':=hM.below hba;obtain⟨vals,h1,h2,h3⟩:=hM'.own;have hn:=hM.len;rw [←hn] at h1
 have hd':Dat.Vals (w0.alloc (.cells news e)) (fun b=>S0 b∨Beh base (w0.alloc (.cells news e)) (.slice A n c) b) d news.toList:=by
  refine Dat.Vals.more (fun b hb=>hb.imp id (fun hb=>⟨hb.1,by have:=hb.2.1;simp;omega,hb.2.2⟩)) d _ (Dat.Vals.keep (fun b hb=>?_) d _ hd);refine Below.heap_alloc _ _ _ ?_;rcases hb with hb | hb
  · have:=hM.lo b hb;have:=hM.hi;omega
  · exact hb.2.1
 refine wpList_append_lies _ hgd s x t ho base e i z size bytes ht hi hz hsize hby hzs hsz (.slice A n c) n vals hs h1 ⟨w0.heap.size,0,none⟩ 1 c' news.toList hx
  (by rw [Dat.Vals.len _ _ hd,hds];omega) (World.news_of_block (heap_alloc_new w0 (.cells news e))) (Dat.Vals.one d _ hpl hd) (by omega) (by unfold maxLen;omega) hbytes (by have:=hM.hi;simp;omega) (w0.heap.size+1) (World.size_alloc _ _) ?_
 intro g cap w' hown hg hat hlt;refine h g cap w' (hM'.push (a:=0) h2 hd' rfl hown hg (hat.imp id (fun e=>by rw [e,World.size_alloc]))) ?_ (by have:=hg.size;simp at this;omega);have hb1:Below base w0 (w0.alloc (.cells news e)):=hba.mono hM.hi;refine hb1.trans ⟨hg.os,hg.tape,hg.output,hg.size,fun b hb=>hg.block b (by have:=hM.hi;simp;omega) (fun e=>?_)⟩;have:=(hM.base_le e.symm).1;omega
end
section
variable {w w':World} {base size:Nat} {S0 X:Nat→Prop} {e:TypeId} {v:Value} {l:List Dat}
theorem step_append_mk {ops:Array Oper} {o:Oper} {a:Act} {K:Act→World→Prop} {Q:Exit→Act→World→Prop} {E:Prop} (hgd:o.guard=none) (s x:Operand) (t:TypeId)
  (ho:o.op=.call { callee:=.builtin .append,args:=#[s,x],argTypes:=#[t,t] })
  (base:Nat) (S0:Nat→Prop) (e:TypeId) (i:TypeInfo) (z:Value) (size bytes:Nat) (ht:Try.prog.underlying t=some (.slice e)) (hi:Try.prog.info? e=some i) (hz:i.zero=some z)
  (hsize:i.size=size) (hby:i.bytes=bytes) (hzs:z.cells.size=size) (hsz:0<size)
  (w0:World) (A:Option Addr) (n c:Nat) (l:List Dat) (hM:Mk w0 base S0 e size (.slice A n c) l) (hs:a.eval s=.slice A n c)
  (d:Dat) (news:Array Value) (hd:Dat.Vals w0 (fun b=>S0 b∨Beh base w0 (.slice A n c) b) d news.toList) (hpl:d.Plain) (hds:d.size=size) (c':Nat) (hx:a.eval x=.slice (some ⟨w0.heap.size,0,none⟩) 1 c')
  (h63:n+1≤17592186044416) (hbytes:(n+1)*bytes≤140737488355328)
  (h:∀ g cap w',Mk w' base S0 e size (.slice (some ⟨g,0,none⟩) (n+1) cap) (l++[d])→Below base w0 w'→w0.heap.size<w'.heap.size→K (a.put o.dst (.slice (some ⟨g,0,none⟩) (n+1) cap)) w') :
  if Region.wanted o (yielded ops a.tmps)=true then Oper.wp Try.prog o a (w0.alloc (.cells news e)) K Q else E:=by
 have hba:Below w0.heap.size w0 (w0.alloc (.cells news e)):=(Below.refl _ _).alloc nR _;have hM':=hM.below hba;obtain⟨vals,h1,h2,h3⟩:=hM'.own;have hn:=hM.len;rw [←hn] at h1
 have hd':Dat.Vals (w0.alloc (.cells news e)) (fun b=>S0 b∨Beh base (w0.alloc (.cells news e)) (.slice A n c) b) d news.toList:=by
  refine Dat.Vals.more (fun b hb=>hb.imp id (fun hb=>⟨hb.1,by have:=hb.2.1;simp;omega,hb.2.2⟩)) d _ (Dat.Vals.keep (fun b hb=>?_) d _ hd);refine Below.heap_alloc _ _ _ ?_;rcases hb with hb | hb
  · have:=hM.lo b hb;have:=hM.hi;omega
  · exact hb.2.1
 refine step_append_lies _ hgd s x t ho base e i z size bytes ht hi hz hsize hby hzs hsz (.slice A n c) n vals hs h1 ⟨w0.heap.size,0,none⟩ 1 c' news.toList hx
  (by rw [Dat.Vals.len _ _ hd,hds];omega) (World.news_of_block (heap_alloc_new w0 (.cells news e))) (Dat.Vals.one d _ hpl hd) (by omega) (by unfold maxLen;omega) hbytes (by have:=hM.hi;simp;omega) (w0.heap.size+1) (World.size_alloc _ _) ?_
 intro g cap w' hown hg hat hlt;refine h g cap w' (hM'.push (a:=0) h2 hd' rfl hown hg (hat.imp id (fun e=>by rw [e,World.size_alloc]))) ?_ (by have:=hg.size;simp at this;omega);have hb1:Below base w0 (w0.alloc (.cells news e)):=hba.mono hM.hi;refine hb1.trans ⟨hg.os,hg.tape,hg.output,hg.size,fun b hb=>hg.block b (by have:=hM.hi;simp;omega) (fun e=>?_)⟩;have:=(hM.base_le e.symm).1;omega
end
section
variable {w w':World} {base size:Nat} {S0 X:Nat→Prop} {e:TypeId} {v:Value} {l:List Dat}
end
end Go.Proofs.Ytkpjjfhfbpfjpaa
