import Derived.Test.YtkpjjfhfbpfjpaaGreatK5fea28
import Derived.OrdersHeld
import Derived.RegionTactic
import Derived.Lib.Hide
import Derived.WalkKit
import Derived.Test.YtkpjjfhfbpfjpaaGreatK0d04bf
import Derived.Test.YtkpjjfhfbpfjpaaGreatKf89ebb
set_option linter.unusedVariables false
set_option linter.unusedSimpArgs false
set_option maxRecDepth 100000
set_option maxHeartbeats 8000000
namespace Go.Proofs.YtkpjjfhfbpfjpaaGreat
open Go Go.RowKit
section
variable {P:Program} {ops:Array Oper} {Q:Exit→Act→World→Prop} {md:Region.Mode} {S:World→Prop} {d:Nat}
def AnyU (P:Program) (md:Region.Mode) (ops:Array Oper) (Q:Exit→Act→World→Prop) (S:World→Prop) (d:Nat):Nat→Array Bool→Act→World→Prop
 | 0,listed,a,w=>Region.ready md ops listed=[]∧Q .normal a w
 | n+1,listed,a,w=>(Region.ready md ops listed=[]→Q .normal a w) ∧
  ∀ i ∈ Region.ready md ops listed,wpOp P ops Q i (fun a' w'=>(i≠d→S w')∧AnyU P md ops Q S d n (listed.setIfInBounds i true) a' w') a w
theorem Zgd:∀ (n:Nat) (listed:Array Bool) (a:Act) (w:World),AnyU P md ops Q S d n listed a w→wpAny P md ops Q n listed a w
 | 0,_,_,_,h=>h
 | n+1,_,_,_,h=>⟨h.1,fun i hi=>wpOp_mono (fun a' w' h'=>Zgd n _ a' w' h'.2) (h.2 i hi)⟩
def Waits (md:Region.Mode) (ops:Array Oper) (d i:Nat):Prop:=∀ od,ops[d]?=some od→∃ e ∈ od.after,Region.binds md e=true∧e.on=i
theorem ZeV {i j:Nat} {listed:Array Bool} (hi:i ∈ Region.ready md ops listed) (hj:j ∈ Region.ready md ops listed):∀ oj,ops[j]?=some oj→∀ e ∈ oj.after,Region.binds md e=true→e.on≠i:=by
 intro oj hoj e he hb heq;obtain⟨_,oj',hoj',hall⟩:=mem_ready.1 hj;rw [hoj] at hoj';injection hoj' with hoj';subst hoj';have h1:=hall e he hb;have h0:=(mem_ready.1 hi).1;rw [heq] at h1;rcases Nat.lt_or_ge i listed.size with h' | h'
 · simp [h'] at h0 h1;rw [h0] at h1;cases h1
 · simp [Array.getElem?_eq_none h'] at h1
theorem anyU_first {i:Nat} {oi:Oper} {v:Value} (hi:ops[i]?=some oi) (hsel:∀ (j:Nat) (o:Oper) cs b,ops[j]?=some o→o.op≠.select cs b) (hd:Waits md ops d i)
  (hQ:∀ c a w,Q (.panic c) (a.put oi.dst v) w→Q (.panic c) a w) :
  ∀ (n:Nat) (listed:Array Bool) (a:Act) (w:World),
   (∀ j oj,ops[j]?=some oj→j≠i→listed.getD j true=false→(∀ e ∈ oj.after,Region.binds md e=true→e.on≠i)→oi.apart ops oj=true) →
   i ∈ Region.ready md ops listed→YieldsIf P ops S oi v a→S w →
   AnyU P md ops Q S d n (listed.setIfInBounds i true) (a.put oi.dst v) w→AnyU P md ops Q S d (n+1) listed a w:=by
 intro n;induction n with
 | zero =>
  intro listed a w _ hr hy hS H;refine⟨fun h=>(by rw [h] at hr;cases hr),fun j hj=>?_⟩
  by_cases e:j=i
  · subst e;exact hy.wpOp hi hS ⟨fun _=>hS,H⟩
  · have hm:=ready_mono hj e;rw [H.1] at hm;cases hm
 | succ n ih =>
  intro listed a w hfree hr hy hS H;refine⟨fun h=>(by rw [h] at hr;cases hr),fun j hj=>?_⟩
  by_cases e:j=i
  · subst e;exact hy.wpOp hi hS ⟨fun _=>hS,H⟩
  · have h1:=H.2 j (ready_mono hj e);obtain⟨hun,oj,hoj,_⟩:=mem_ready.1 hj;have hnot:=ZeV hr hj oj hoj
    have hjd:j≠d:=fun ejd=>by
     subst ejd;obtain⟨x,hx,hb,hon⟩:=hd oj hoj;exact hnot x hx hb hon
    have h2:=wpOp_putIf hoj (hfree j oj hoj e hun hnot) (fun cs b=>hsel i oi cs b hi) (fun cs b=>hsel j oj cs b hoj) hQ hy h1;refine wpOp_mono (fun a' w' h3=>⟨fun _=>h3.2.1 hjd,ih (listed.setIfInBounds j true) a' w' (fun k ok hk hki hku hno=>?_) (ready_mono hr (Ne.symm e)) h3.1 (h3.2.1 hjd) ?_⟩) h2
    · refine hfree k ok hk hki ?_ hno
      by_cases ejk:j=k
      · subst ejk;exact hun
      · rw [getD_set_ne true ejk] at hku;exact hku
    · rw [Array.setIfInBounds_comm _ _ e];exact h3.2.2
def Zcx (md:Region.Mode) (ops:Array Oper) (d i:Nat):Bool:=match ops[d]? with
 | some od=>od.after.any fun e=>Region.binds md e&&e.on == i
 | none=>true
theorem ZgK {i:Nat} (h:Zcx md ops d i=true):Waits md ops d i:=by
 intro od hod;unfold Zcx at h;rw [hod] at h;obtain⟨e,he,hb⟩:=Array.any_eq_true'.1 h;simp only [Bool.and_eq_true,beq_iff_eq] at hb;exact⟨e,he,hb.1,hb.2⟩
theorem anyU_take {i:Nat} {oi:Oper} {v:Value} {n:Nat} {listed:Array Bool} {a:Act} {w:World} (hi:ops[i]?=some oi) (hs:Region.noSelect ops=true) (hf:Region.free md ops listed i=true)
  (hr:(Region.ready md ops listed).contains i=true) (hd:Zcx md ops d i=true) (hQ:∀ c a w,Q (.panic c) (a.put oi.dst v) w→Q (.panic c) a w) (hy:YieldsIf P ops S oi v a) (hS:S w)
  (h:AnyU P md ops Q S d n (listed.setIfInBounds i true) (a.put oi.dst v) w):AnyU P md ops Q S d (n+1) listed a w :=
 anyU_first hi (Region.noSelect_spec hs) (ZgK hd) hQ n listed a w (Region.free_spec hi hf) (by simpa using hr) hy hS h
theorem anyU_one {i:Nat} {o:Oper} {n:Nat} {listed:Array Bool} {a:Act} {w:World} (hi:ops[i]?=some o) (hr:Region.ready md ops listed=[i])
  (h:∀ K:Act→World→Prop,(∀ a' w',(i≠d→S w')→AnyU P md ops Q S d n (listed.setIfInBounds i true) a' w'→K a' w')→if Region.wanted o (yielded ops a.tmps)=true then Oper.wp P o a w K Q else K (a.put o.dst undef) w) :
  AnyU P md ops Q S d (n+1) listed a w:=by
 refine⟨(fun h0=>by rw [hr] at h0;cases h0),fun j hj=>?_⟩;rw [hr] at hj;have ej:=List.mem_singleton.1 hj;subst ej;exact wpOp_step hi (fun K hK=>h K fun a' w' h1 h2=>hK a' w' ⟨h1,h2⟩)
theorem anyU_done {listed:Array Bool} {a:Act} {w:World} (hr:Region.ready md ops listed=[]) (h:Q .normal a w):AnyU P md ops Q S d 0 listed a w:=⟨hr,h⟩
theorem region_until {id:Nat} {a:Act} {w:World} (S:World→Prop) (d:Nat) (hm:P.follows .mixedOrders=true)
  (h:AnyU P .any ops Q S d ops.size (Array.replicate ops.size false) a w.drew):(Code.region id ops true).wp P Q a w :=
 wp_region_any hm (Zgd _ _ _ _ h)
end
theorem hideQ {P:Program} {c:Code} {Q:Exit→Act→World→Prop} {a:Act} {w:World} (hp:∀ c a d v w,Q (.panic c) (Act.put a d v) w→Q (.panic c) a w) (h:∀ Q',Hid (Q'=Q)→Hid (∀ c a d v w,Q' (.panic c) (Act.put a d v) w→Q' (.panic c) a w)→c.wp P Q' a w):c.wp P Q a w:=h Q (hI rfl) (hI hp)
theorem anyT_take {P:Program} {ops:Array Oper} {Q:Exit→Act→World→Prop} {md:Region.Mode} {S:World→Prop} {d i:Nat} {oi:Oper} {v:Value} {n:Nat} {listed L':Array Bool} {a:Act} {w:World} {t:Tmp} (hi:ops[i]?=some oi) (ht:oi.dst=some t) (hL:listed.setIfInBounds i true=L') (hs:Region.noSelect ops=true) (hf:Region.free md ops listed i=true)
  (hr:(Region.ready md ops listed).contains i=true) (hd:Zcx md ops d i=true) (hQ:∀ c a d v w,Q (.panic c) (Act.put a d v) w→Q (.panic c) a w) (hy:YieldsIf P ops S oi v a) (hS:S w)
  (h:AnyU P md ops Q S d n L' ⟨a.tmps.setIfInBounds t v,a.defers⟩ w):AnyU P md ops Q S d (n+1) listed a w :=
 anyU_take hi hs hf hr hd (fun c a w h=>hQ c a _ _ w h) hy hS (by rw [hL,ht];exact h)
theorem anyT_one {P:Program} {ops:Array Oper} {Q:Exit→Act→World→Prop} {md:Region.Mode} {S:World→Prop} {d i:Nat} {o:Oper} {n:Nat} {listed L':Array Bool} {a:Act} {w:World} (hi:ops[i]?=some o) (hL:listed.setIfInBounds i true=L') (hr:Region.ready md ops listed=[i])
  (h:∀ K:Act→World→Prop,(∀ a' w',(i≠d→S w')→AnyU P md ops Q S d n L' a' w'→K a' w')→if Region.wanted o (yielded ops a.tmps)=true then Oper.wp P o a w K Q else K (a.put o.dst undef) w) :
  AnyU P md ops Q S d (n+1) listed a w :=
 anyU_one hi hr (by rw [hL];exact h)
theorem regionT_until {P:Program} {ops:Array Oper} {Q:Exit→Act→World→Prop} {id:Nat} {a:Act} {w:World} (S:World→Prop) (d n:Nat) (L:Array Bool) (hm:P.follows .mixedOrders=true) (hn:ops.size=n) (hL:Array.replicate ops.size false=L)
  (h:AnyU P .any ops Q S d n L a w.drew):(Code.region id ops true).wp P Q a w :=
 region_until S d hm (by rw [hL,hn];exact h)
theorem Zdi {P:Program} {ops:Array Oper} {Q:Exit→Act→World→Prop} {md:Region.Mode} {S:World→Prop} {d i j:Nat} {oi oj:Oper} {n:Nat} {listed Li Lj:Array Bool} {a:Act} {w:World} (hi:ops[i]?=some oi) (hj:ops[j]?=some oj) (hLi:listed.setIfInBounds i true=Li) (hLj:listed.setIfInBounds j true=Lj) (hr:Region.ready md ops listed=[i,j])
  (h1:∀ K:Act→World→Prop,(∀ a' w',(i≠d→S w')→AnyU P md ops Q S d n Li a' w'→K a' w')→if Region.wanted oi (yielded ops a.tmps)=true then Oper.wp P oi a w K Q else K (a.put oi.dst undef) w)
  (h2:∀ K:Act→World→Prop,(∀ a' w',(j≠d→S w')→AnyU P md ops Q S d n Lj a' w'→K a' w')→if Region.wanted oj (yielded ops a.tmps)=true then Oper.wp P oj a w K Q else K (a.put oj.dst undef) w) :
  AnyU P md ops Q S d (n+1) listed a w:=by
 refine⟨(fun h0=>by rw [hr] at h0;cases h0),fun k hk=>?_⟩;rw [hr] at hk;rcases List.mem_cons.1 hk with e | e
 · subst e;rw [hLi];exact wpOp_step hi (fun K hK=>h1 K fun a' w' g1 g2=>hK a' w' ⟨g1,g2⟩)
 · have e:=List.mem_singleton.1 e;subst e;rw [hLj];exact wpOp_step hj (fun K hK=>h2 K fun a' w' g1 g2=>hK a' w' ⟨g1,g2⟩)
def bA (n k:Nat):Array Bool:=((List.range n).map fun i=>k.testBit i).toArray
theorem psA {α:Type} {l:List α} {i:Nat} {a:α}:l.toArray.setIfInBounds i a=(l.set i a).toArray:=List.setIfInBounds_toArray ..
theorem psB {α:Type} {x a:α} {l:List α}:(x :: l).set 0 a=a :: l:=List.set_cons_zero
theorem psC {α:Type} {x a:α} {l:List α} {i:Nat}:(x :: l).set (i+1) a=x :: l.set i a:=List.set_cons_succ
theorem tk {P:Program} {ops:Array Oper} {Q:Exit→Act→World→Prop} {md:Region.Mode} {S:World→Prop} {d n:Nat} {listed:Array Bool} {a:Act} {w:World} (i:Nat) (t:Tmp) (L':Array Bool) (v:Value) {o1 o2 o3 o4 o5} (hi:ops[i]?=some ⟨some t,o1,o2,o3,o4,o5⟩) (hL:listed.setIfInBounds i true=L')
  (hc:(Region.noSelect ops&&Region.free md ops listed i&&(Region.ready md ops listed).contains i&&Zcx md ops d i)=true) (hQ:∀ c a d v w,Q (.panic c) (Act.put a d v) w→Q (.panic c) a w)
  (hw:Region.wanted ⟨some t,o1,o2,o3,o4,o5⟩ (yielded ops a.tmps)=true) (hy:∀ w,S w→(execOp a.eval ⟨some t,o1,o2,o3,o4,o5⟩).run P w=.ok (.value v) w) (hS:S w) (h:AnyU P md ops Q S d n L' ⟨a.tmps.setIfInBounds t v,a.defers⟩ w):AnyU P md ops Q S d (n+1) listed a w:=by
 simp only [Bool.and_eq_true] at hc;exact anyT_take hi rfl hL hc.1.1.1 hc.1.1.2 hc.1.2 hc.2 hQ (Or.inl ⟨hw,hy⟩) hS h
theorem tJ {P:Program} {ops:Array Oper} {Q:Exit→Act→World→Prop} {md:Region.Mode} {S:World→Prop} {d n:Nat} {listed:Array Bool} {a:Act} {w:World} (i:Nat) (t:Tmp) (L':Array Bool) {v:Value} {T':Array Value} {o1 o2 o3 o4 o5} (hQ:∀ c a d v w,Q (.panic c) (Act.put a d v) w→Q (.panic c) a w) (hS:S w) (h:AnyU P md ops Q S d n L' ⟨T',a.defers⟩ w) (hi:ops[i]?=some ⟨some t,o1,o2,o3,o4,o5⟩:=by rfl) (hL:listed.setIfInBounds i true=L':=by kernel_rfl) (hc:(Region.noSelect ops&&Region.free md ops listed i&&(Region.ready md ops listed).contains i&&Zcx md ops d i)=true:=by kernel_rfl) (hw:Region.wanted ⟨some t,o1,o2,o3,o4,o5⟩ (yielded ops a.tmps)=true:=by rfl) (hy:∀ w,S w→(execOp a.eval ⟨some t,o1,o2,o3,o4,o5⟩).run P w=.ok (.value v) w:=by intro w' hSw;(try dsimp only at hSw);go_simp;(try with_reducible rfl)) (hT:a.tmps.setIfInBounds t v=T':=by (simp only [psA,psB,psC])<;>rfl):AnyU P md ops Q S d (n+1) listed a w:=tk i t L' v hi hL hc hQ hw hy hS (by rw [hT];exact h)
theorem tK {P:Program} {ops:Array Oper} {Q:Exit→Act→World→Prop} {md:Region.Mode} {S:World→Prop} {d n:Nat} {listed:Array Bool} {a:Act} {w:World} (i:Nat) (t:Tmp) (L':Array Bool) {T':Array Value} {o1 o2 o3 o4 o5} (hQ:∀ c a d v w,Q (.panic c) (Act.put a d v) w→Q (.panic c) a w) (hS:S w) (h:AnyU P md ops Q S d n L' ⟨T',a.defers⟩ w) (hi:ops[i]?=some ⟨some t,o1,o2,o3,o4,o5⟩:=by rfl) (hL:listed.setIfInBounds i true=L':=by kernel_rfl) (hc:(Region.noSelect ops&&Region.free md ops listed i&&(Region.ready md ops listed).contains i&&Zcx md ops d i)=true:=by kernel_rfl) (hw:Region.wanted ⟨some t,o1,o2,o3,o4,o5⟩ (yielded ops a.tmps)=false:=by rfl) (hT:a.tmps.setIfInBounds t undef=T':=by (simp only [psA,psB,psC])<;>rfl):AnyU P md ops Q S d (n+1) listed a w:=by
 simp only [Bool.and_eq_true] at hc
 exact anyT_take hi rfl hL hc.1.1.1 hc.1.1.2 hc.1.2 hc.2 hQ (Or.inr ⟨hw,rfl⟩) hS (by rw [hT];exact h)
theorem tQ {P:Program} {ops:Array Oper} {Q:Exit→Act→World→Prop} {md:Region.Mode} {S:World→Prop} {d n:Nat} {listed:Array Bool} {a:Act} {w:World} (i:Nat) (t:Option Tmp) (L':Array Bool) {o1 o2 o3 o4 o5} (h:∀ K:Act→World→Prop,RowKit.Hid (∀ a' w',(i≠d→S w')→AnyU P md ops Q S d n L' a' w'→K a' w')→if Region.wanted ⟨t,o1,o2,o3,o4,o5⟩ (yielded ops a.tmps)=true then Oper.wp P ⟨t,o1,o2,o3,o4,o5⟩ a w K Q else K (a.put t undef) w) (hi:ops[i]?=some ⟨t,o1,o2,o3,o4,o5⟩:=by rfl) (hL:listed.setIfInBounds i true=L':=by kernel_rfl) (hr:Region.ready md ops listed=[i]:=by kernel_rfl):AnyU P md ops Q S d (n+1) listed a w:=anyT_one hi hL hr (fun K hK=>h K hK)
theorem tW {P:Program} {ops:Array Oper} {Q:Exit→Act→World→Prop} {md:Region.Mode} {S:World→Prop} {d n:Nat} {listed:Array Bool} {a:Act} {w:World} (i0 t0:Nat) (i1 t1:Nat) (L':Array Bool) {v0 v1:Value} {T1 T2:Array Value} {o01 o02 o03 o04 o05} {o11 o12 o13 o14 o15} (hQ:∀ c a d v w,Q (.panic c) (Act.put a d v) w→Q (.panic c) a w) (hS:S w) (h:AnyU P md ops Q S d n L' ⟨T2,a.defers⟩ w) (hi0:ops[i0]?=some ⟨some t0,o01,o02,o03,o04,o05⟩:=by rfl) (hc0:(Region.noSelect ops&&Region.free md ops listed i0&&(Region.ready md ops listed).contains i0&&Zcx md ops d i0)=true:=by kernel_rfl) (hw0:Region.wanted ⟨some t0,o01,o02,o03,o04,o05⟩ (yielded ops a.tmps)=true:=by rfl) (hy0:∀ w,S w→(execOp a.eval ⟨some t0,o01,o02,o03,o04,o05⟩).run P w=.ok (.value v0) w:=by intro w' hSw;(try dsimp only at hSw);go_simp;(try with_reducible rfl)) (hT0:a.tmps.setIfInBounds t0 v0=T1:=by (simp only [psA,psB,psC])<;>rfl) (hi1:ops[i1]?=some ⟨some t1,o11,o12,o13,o14,o15⟩:=by rfl) (hL:(listed.setIfInBounds i0 true).setIfInBounds i1 true=L':=by kernel_rfl) (hc1:(Region.noSelect ops&&Region.free md ops (listed.setIfInBounds i0 true) i1&&(Region.ready md ops (listed.setIfInBounds i0 true)).contains i1&&Zcx md ops d i1)=true:=by kernel_rfl) (hw1:Region.wanted ⟨some t1,o11,o12,o13,o14,o15⟩ (yielded ops (⟨T1,a.defers⟩:Act).tmps)=true:=by rfl) (hy1:∀ w,S w→(execOp (⟨T1,a.defers⟩:Act).eval ⟨some t1,o11,o12,o13,o14,o15⟩).run P w=.ok (.value v1) w:=by intro w' hSw;(try dsimp only at hSw);go_simp;(try with_reducible rfl)) (hT1:(⟨T1,a.defers⟩:Act).tmps.setIfInBounds t1 v1=T2:=by (simp only [psA,psB,psC])<;>rfl):AnyU P md ops Q S d (n+2) listed a w:=tk i0 t0 (listed.setIfInBounds i0 true) v0 hi0 rfl hc0 hQ hw0 hy0 hS (by rw [hT0];exact tk i1 t1 L' v1 hi1 hL hc1 hQ hw1 hy1 hS (by rw [hT1];exact h))
theorem tX {P:Program} {ops:Array Oper} {Q:Exit→Act→World→Prop} {md:Region.Mode} {S:World→Prop} {d n:Nat} {listed:Array Bool} {a:Act} {w:World} (i0 t0:Nat) (i1 t1:Nat) (i2 t2:Nat) (i3 t3:Nat) (L':Array Bool) {v0 v1 v2 v3:Value} {T1 T2 T3 T4:Array Value} {o01 o02 o03 o04 o05} {o11 o12 o13 o14 o15} {o21 o22 o23 o24 o25} {o31 o32 o33 o34 o35} (hQ:∀ c a d v w,Q (.panic c) (Act.put a d v) w→Q (.panic c) a w) (hS:S w) (h:AnyU P md ops Q S d n L' ⟨T4,a.defers⟩ w) (hi0:ops[i0]?=some ⟨some t0,o01,o02,o03,o04,o05⟩:=by rfl) (hc0:(Region.noSelect ops&&Region.free md ops listed i0&&(Region.ready md ops listed).contains i0&&Zcx md ops d i0)=true:=by kernel_rfl) (hw0:Region.wanted ⟨some t0,o01,o02,o03,o04,o05⟩ (yielded ops a.tmps)=true:=by rfl) (hy0:∀ w,S w→(execOp a.eval ⟨some t0,o01,o02,o03,o04,o05⟩).run P w=.ok (.value v0) w:=by intro w' hSw;(try dsimp only at hSw);go_simp;(try with_reducible rfl)) (hT0:a.tmps.setIfInBounds t0 v0=T1:=by (simp only [psA,psB,psC])<;>rfl) (hi1:ops[i1]?=some ⟨some t1,o11,o12,o13,o14,o15⟩:=by rfl) (hc1:(Region.noSelect ops&&Region.free md ops (listed.setIfInBounds i0 true) i1&&(Region.ready md ops (listed.setIfInBounds i0 true)).contains i1&&Zcx md ops d i1)=true:=by kernel_rfl) (hw1:Region.wanted ⟨some t1,o11,o12,o13,o14,o15⟩ (yielded ops (⟨T1,a.defers⟩:Act).tmps)=true:=by rfl) (hy1:∀ w,S w→(execOp (⟨T1,a.defers⟩:Act).eval ⟨some t1,o11,o12,o13,o14,o15⟩).run P w=.ok (.value v1) w:=by intro w' hSw;(try dsimp only at hSw);go_simp;(try with_reducible rfl)) (hT1:(⟨T1,a.defers⟩:Act).tmps.setIfInBounds t1 v1=T2:=by (simp only [psA,psB,psC])<;>rfl) (hi2:ops[i2]?=some ⟨some t2,o21,o22,o23,o24,o25⟩:=by rfl) (hc2:(Region.noSelect ops&&Region.free md ops ((listed.setIfInBounds i0 true).setIfInBounds i1 true) i2&&(Region.ready md ops ((listed.setIfInBounds i0 true).setIfInBounds i1 true)).contains i2&&Zcx md ops d i2)=true:=by kernel_rfl) (hw2:Region.wanted ⟨some t2,o21,o22,o23,o24,o25⟩ (yielded ops (⟨T2,a.defers⟩:Act).tmps)=true:=by rfl) (hy2:∀ w,S w→(execOp (⟨T2,a.defers⟩:Act).eval ⟨some t2,o21,o22,o23,o24,o25⟩).run P w=.ok (.value v2) w:=by intro w' hSw;(try dsimp only at hSw);go_simp;(try with_reducible rfl)) (hT2:(⟨T2,a.defers⟩:Act).tmps.setIfInBounds t2 v2=T3:=by (simp only [psA,psB,psC])<;>rfl) (hi3:ops[i3]?=some ⟨some t3,o31,o32,o33,o34,o35⟩:=by rfl) (hL:(((listed.setIfInBounds i0 true).setIfInBounds i1 true).setIfInBounds i2 true).setIfInBounds i3 true=L':=by kernel_rfl) (hc3:(Region.noSelect ops&&Region.free md ops (((listed.setIfInBounds i0 true).setIfInBounds i1 true).setIfInBounds i2 true) i3&&(Region.ready md ops (((listed.setIfInBounds i0 true).setIfInBounds i1 true).setIfInBounds i2 true)).contains i3&&Zcx md ops d i3)=true:=by kernel_rfl) (hw3:Region.wanted ⟨some t3,o31,o32,o33,o34,o35⟩ (yielded ops (⟨T3,a.defers⟩:Act).tmps)=true:=by rfl) (hy3:∀ w,S w→(execOp (⟨T3,a.defers⟩:Act).eval ⟨some t3,o31,o32,o33,o34,o35⟩).run P w=.ok (.value v3) w:=by intro w' hSw;(try dsimp only at hSw);go_simp;(try with_reducible rfl)) (hT3:(⟨T3,a.defers⟩:Act).tmps.setIfInBounds t3 v3=T4:=by (simp only [psA,psB,psC])<;>rfl):AnyU P md ops Q S d (n+4) listed a w:=tk i0 t0 (listed.setIfInBounds i0 true) v0 hi0 rfl hc0 hQ hw0 hy0 hS (by rw [hT0];exact tk i1 t1 ((listed.setIfInBounds i0 true).setIfInBounds i1 true) v1 hi1 rfl hc1 hQ hw1 hy1 hS (by rw [hT1];exact tk i2 t2 (((listed.setIfInBounds i0 true).setIfInBounds i1 true).setIfInBounds i2 true) v2 hi2 rfl hc2 hQ hw2 hy2 hS (by rw [hT2];exact tk i3 t3 L' v3 hi3 hL hc3 hQ hw3 hy3 hS (by rw [hT3];exact h))))
theorem tS {P:Program} {ops:Array Oper} {Q:Exit→Act→World→Prop} {id:Nat} {a:Act} {w:World} (S:World→Prop) (d n:Nat) (h:∀ Q',Hid (Q'=Q)→Hid (∀ c a d v w,Q' (.panic c) (Act.put a d v) w→Q' (.panic c) a w)→AnyU P .any ops Q' S d n (bA n 0) a w.drew) (hp:∀ c a d v w,Q (.panic c) (Act.put a d v) w→Q (.panic c) a w:=by (intro c a d v w h;cases d<;>exact h)) (hm:P.follows .mixedOrders=true:=by kernel_rfl) (hn:ops.size=n:=by kernel_rfl) (hL:Array.replicate ops.size false=bA n 0:=by kernel_rfl):(Code.region id ops true).wp P Q a w:=hideQ hp (fun Q' HQ HP=>regionT_until S d n _ hm hn hL (h Q' HQ HP))
theorem tE {P:Program} {ops:Array Oper} {Q Q':Exit→Act→World→Prop} {md:Region.Mode} {S:World→Prop} {d:Nat} {listed:Array Bool} {a:Act} {w:World} (HQ:Hid (Q'=Q)) (h:Q .normal a w) (hr:Region.ready md ops listed=[]:=by kernel_rfl):AnyU P md ops Q' S d 0 listed a w:=anyU_done hr (by rw [HQ.out];exact h)
theorem infoRs:(Tryz.prog.info? 73).map (fun i=>(i.zero,i.size,i.bytes))=some (some (.slice none 0 0),1,24):=by kernel_rfl
def Zas (n:Nat):List Value:=List.replicate n (Value.slice none 0 0)
theorem Zcf (n:Nat) (hn:n≤5864062014805) (w:World) :
  (Instr.makeSlice 31 (.int .i64 (n:Int)) (.int .i64 (n:Int))).run Tryz.prog w=.ok (.slice (some ⟨w.heap.size,0,none⟩) n n) (w.alloc (.cells (Zas n).toArray 73)):=by
 obtain⟨i0,hi,hz0,hz1,hz2⟩:=info_parts infoRs;have hr:=run_make (P:=Tryz.prog) w 31 73 i0 _ Tryz.underlying31 hi hz0 .i64 .i64 n n (by omega) (by omega) (by rw [hz2];omega) (by omega);rw [hr,hz1];simp only [Int.toNat_natCast]
 congr 3
 apply Array.ext
 · simp [size_madeCells,Zas]
 · intro i h1 h2;simp [madeCells,Zas,Value.cells,Nat.mod_one]
def StB (w:World) (S:Nat→Prop) (gt:Nat) (st:St):Prop :=
 ∃ vs:List Value,w.heap[gt]?=some (.cells vs.toArray 73 (0,0))∧Dat.ValsAll w S (st.map Zbe) vs∧∀ b,S b→b<w.heap.size∧b≠gt
section
variable {w w':World} {S S':Nat→Prop} {gt:Nat} {st:St}
theorem valsAll_len {l:St} {vs:List Value} (h:Dat.ValsAll w S (l.map Zbe) vs):vs.length=l.length:=by
 rw [Dat.ValsAll.len _ _ h,Zbl (n:=1) (fun _=>rfl)];omega
theorem StB.keep (h:StB w S gt st) (hs:w.heap.size≤w'.heap.size) (hk:Same S w w') (hg:w'.heap[gt]?=w.heap[gt]?):StB w' S gt st:=by
 obtain⟨vs,h1,h2,h3⟩:=h;exact⟨vs,hg.trans h1,Dat.ValsAll.keep hk _ _ h2,fun b hb=>⟨Nat.lt_of_lt_of_le (h3 b hb).1 hs,(h3 b hb).2⟩⟩
theorem StB.lt (h:StB w S gt st):gt<w.heap.size:=by
 obtain⟨vs,h1,_⟩:=h;exact Zac h1
theorem StB.below (h:StB w S gt st) (hb:Below w.heap.size w w'):StB w' S gt st:=by
 have h':=h;obtain⟨vs,h1,h2,h3⟩:=h';exact h.keep hb.size (fun b hb'=>hb.block b (h3 b hb').1) (hb.block gt h.lt)
theorem StB.more (h:StB w S gt st) (hS:∀ b,S b→S' b) (hS':∀ b,S' b→b<w.heap.size∧b≠gt):StB w S' gt st:=by
 obtain⟨vs,h1,h2,h3⟩:=h;exact⟨vs,h1,Dat.ValsAll.more hS _ _ h2,hS'⟩
theorem ZgF:∀ {l:St} {vs:List Value} {k:Nat},Dat.ValsAll w S (l.map Zbe) vs→k<l.length→∃ A c,vs[k]?=some (.slice A (l.getD k []).length c)∧(l.getD k []).length≤c∧RowsS w S A (l.getD k [])
 | [],_,k,_,hk=>by simp at hk
 | a :: l,vs,k,h,hk=>by
  rw [List.map_cons] at h;unfold Dat.ValsAll at h;obtain⟨x,y,e,h1,h2⟩:=h;unfold Zbe Dat.Vals at h1;obtain⟨A,c,e1,h3,h4⟩:=h1;rw [List.length_map] at e1 h3;subst e1;subst e;cases k with
  | zero=>exact⟨A,c,rfl,h3,h4⟩
  | succ k =>
   obtain⟨A',c',h5,h6⟩:=ZgF (k:=k) h2 (by simpa using hk);exact⟨A',c',by simpa using h5,h6⟩
theorem ZfP:∀ {l:St} {vs:List Value} {k:Nat} {A:Option Addr} {c:Nat} {r:List Row},Dat.ValsAll w S (l.map Zbe) vs→r.length≤c→RowsS w S A r→Dat.ValsAll w S ((l.set k r).map Zbe) (vs.set k (.slice A r.length c))
 | [],vs,k,A,c,r,h,_,_=>by
  simp only [List.map_nil] at h;unfold Dat.ValsAll at h;subst h;simp only [List.set_nil,List.map_nil];unfold Dat.ValsAll;rfl
 | a :: l,vs,k,A,c,r,h,h3,h4=>by
  rw [List.map_cons] at h;unfold Dat.ValsAll at h;obtain⟨x,y,e,h1,h2⟩:=h;have h1':=h1;unfold Zbe Dat.Vals at h1;obtain⟨A',c',e1,_⟩:=h1;rw [List.length_map] at e1;subst e1;subst e;cases k with
  | zero =>
   simp only [List.set_cons_zero,List.map_cons,List.singleton_append];unfold Dat.ValsAll;refine⟨[.slice A r.length c],y,rfl,?_,h2⟩;unfold Zbe Dat.Vals;exact⟨A,c,by simp,by simpa using h3,h4⟩
  | succ k =>
   simp only [List.set_cons_succ,List.map_cons,List.singleton_append];unfold Dat.ValsAll;exact⟨[.slice A' a.length c'],y.set k (.slice A r.length c),rfl,h1',ZfP h2 h3 h4⟩
theorem StB.at_ (h:StB w S gt st) {k:Nat} (hk:k<st.length):w.frozen? ⟨gt,k,none⟩=false∧∃ A c,w.cell? ⟨gt,k,none⟩=some (.slice A (st.getD k []).length c)∧(st.getD k []).length≤c∧RowsS w S A (st.getD k []):=by
 obtain⟨vs,h1,h2,h3⟩:=h;obtain⟨A,c,h4,h5⟩:=ZgF h2 hk;refine⟨by simp [World.frozen?,h1],A,c,?_,h5⟩;simp only [World.cell?,h1];simpa using h4
theorem StB.slice (h:StB w S gt st) (hl:st.length≤5864062014805) (hS:∀ b,S b→S' b) (hg:S' gt):StS w S' (some ⟨gt,0,none⟩) st:=by
 obtain⟨vs,h1,h2,h3⟩:=h;refine Sl.of_vals (by rw [Zaf (n:=24) (fun _=>rfl)];omega) (Dat.ValsAll.more hS _ _ h2) (fun h0=>⟨gt,0,rfl,hg,fun j u hu=>?_⟩);simp only [World.cell?,h1,Nat.zero_add];simpa using hu
theorem Zae {w:World} {g k:Nat} {vs:List Value} {t:TypeId} {v:Value} (h:w.heap[g]?=some (.cells vs.toArray t (0,0))):(w.setCell ⟨g,k,none⟩ v).heap[g]?=some (.cells (vs.set k v).toArray t (0,0)):=by
 simp [World.setCell,Array.getElem?_modify,h]
theorem StB.put (h:StB w S gt st) {k:Nat} {A:Option Addr} {c:Nat} {r:List Row} (hc:r.length≤c) (hr:RowsS w S A r):StB (w.setCell ⟨gt,k,none⟩ (.slice A r.length c)) S gt (st.set k r):=by
 obtain⟨vs,h1,h2,h3⟩:=h;have hk:Same S w (w.setCell ⟨gt,k,none⟩ (.slice A r.length c)):=fun b hb=>Below.heap_setCell w ⟨gt,k,none⟩ _ b (h3 b hb).2;refine⟨_,Zae h1,Dat.ValsAll.keep hk _ _ (ZfP h2 hc hr),fun b hb=>⟨by simpa using (h3 b hb).1,(h3 b hb).2⟩⟩
end
abbrev Beh (base:Nat) (w:World) (v:Value):Nat→Prop:=fun b=>base≤b∧b<w.heap.size∧some b≠v.ownBlock
def CopyO (w:World) (base gt n k:Nat) (st:St):Prop :=
 ∃ vs:List Value,vs.length=k∧w.heap[gt]?=some (.cells (vs++Zas (n - k)).toArray 73 (0,0))∧Dat.ValsAll w (fun b=>base≤b∧b<w.heap.size) ((st.take k).map Zbe) vs
structure CopyI (w:World) (base gt n k:Nat) (st:St) (v:Value) (l:List Row):Prop where
 blk:∃ vs:List Value,vs.length=k∧w.heap[gt]?=some (.cells (vs++v :: Zas (n - (k+1))).toArray 73 (0,0))∧Dat.ValsAll w (Beh base w v) ((st.take k).map Zbe) vs
 own:OwnD w base 42 1 (Beh base w v) v (l.map ZaT)
section
variable {w w':World} {base gt n k:Nat} {st:St} {v v':Value} {l:List Row}
theorem CopyO.zero (h:w.heap[gt]?=some (.cells (Zas n).toArray 73 (0,0))):CopyO w base gt n 0 st :=
 ⟨[],rfl,by simpa using h,by simp only [List.take_zero,List.map_nil];unfold Dat.ValsAll;rfl⟩
theorem CopyO.inner (h:CopyO w base gt n k st) (hk:k<n):CopyI w base gt n k st (.slice none 0 0) []:=by
 obtain⟨vs,h1,h2,h3⟩:=h;refine⟨⟨vs,h1,?_,Dat.ValsAll.more (fun b hb=>⟨hb.1,hb.2,by simp [Value.ownBlock]⟩) _ _ h3⟩,OwnD.nil_ (fun b hb=>hb.2.1)⟩;rw [show n - k=n - (k+1)+1 by omega] at h2;exact h2
theorem CopyI.cell (h:CopyI w base gt n k st v l):w.cell? ⟨gt,k,none⟩=some v∧w.frozen? ⟨gt,k,none⟩=false:=by
 obtain⟨vs,h1,h2,_⟩:=h.blk;refine⟨?_,by simp [World.frozen?,h2]⟩;simp only [World.cell?,h2];simp [←h1]
theorem CopyI.form (h:CopyI w base gt n k st v l):∃ A c,v=.slice A l.length c:=by
 obtain⟨vals,h1,_⟩:=h.own;rw [List.length_map] at h1;exact ZfE h1
theorem CopyI.push (h:CopyI w base gt n k st v l) (hgb:gt<base) (hbw:base≤w.heap.size) {r:Row} {A:Option Addr} {c:Nat} {wa wb:World} (hb:Below w.heap.size w wa) (hr:r.length≤c∧RowS wa (fun b=>w.heap.size≤b∧b<wa.heap.size) A r) {vals:List Value} {g cap m:Nat}
  (hva:Dat.ValsAll w (Beh base w v) (l.map ZaT) vals) (hgr:wa.grownBy wb v.ownBlock) (hm:m=l.length+1) (hown:wb.ownsRow base 42 1 (.slice (some ⟨g,0,none⟩) m cap) m (vals++[.slice A r.length c])) (hat:v.ownBlock=some g∨wa.heap.size≤g) (hvl:∀ g',v.ownBlock=some g'→base≤g'∧g'<w.heap.size) :
  CopyI (wb.setCell ⟨gt,k,none⟩ (.slice (some ⟨g,0,none⟩) m cap)) base gt n k st (.slice (some ⟨g,0,none⟩) m cap) (l++[r]):=by
 subst hm
 have hn1:∀ b,b<w.heap.size→some b≠v.ownBlock→some b≠(Value.slice (some ⟨g,0,none⟩) (l.length+1) cap).ownBlock:=fun b hb1 hb2 e=>by
  have e':b=g:=(by simpa [Value.ownBlock] using e);rcases hat with hat | hat
  · exact hb2 (by rw [hat,e'])
  · have:=hb.size;omega
 have hgl:g<wb.heap.size:=ZaP hown rfl;have hbs:=hb.size;have hgs:=hgr.size;obtain⟨vs,h1,h2,h3⟩:=h.blk;have hglt:=Zac h2;have hgtv:some gt≠v.ownBlock:=(fun e=>by have:=(hvl gt e.symm).1;omega);have hsz:(wb.setCell ⟨gt,k,none⟩ (.slice (some ⟨g,0,none⟩) (l.length+1) cap)).heap.size=wb.heap.size:=(by simp);have hset:∀ b,b≠gt→(wb.setCell ⟨gt,k,none⟩ (.slice (some ⟨g,0,none⟩) (l.length+1) cap)).heap[b]?=wb.heap[b]?:=fun b hb'=>Below.heap_setCell wb ⟨gt,k,none⟩ _ b hb';have hT:∀ b,Beh base w v b→Beh base (wb.setCell ⟨gt,k,none⟩ (.slice (some ⟨g,0,none⟩) (l.length+1) cap)) (.slice (some ⟨g,0,none⟩) (l.length+1) cap) b:=fun b hb'=>⟨hb'.1,by rw [hsz];have:=hb'.2.1;omega,hn1 b hb'.2.1 hb'.2.2⟩;have hbel:Same (Beh base w v) w (wb.setCell ⟨gt,k,none⟩ (.slice (some ⟨g,0,none⟩) (l.length+1) cap)):=fun b hb'=>(hset b (by have:=hb'.1;omega)).trans ((hgr.block b (by have:=hb'.2.1;omega) hb'.2.2).trans (hb.block b hb'.2.1));refine⟨⟨vs,h1,?_,Dat.ValsAll.more hT _ _ (Dat.ValsAll.keep hbel _ _ h3)⟩,?_⟩
 · have h4:wb.heap[gt]?=some (.cells (vs++v :: Zas (n - (k+1))).toArray 73 (0,0)):=(hgr.block gt (by omega) hgtv).trans ((hb.block gt hglt).trans h2);rw [Zae h4];rw [←h1,List.set_append_right _ _ nR];simp
 · refine⟨vals++[.slice A r.length c],?_,?_,fun b hb'=>⟨hb'.2.1,hb'.2.2⟩⟩
   · rw [List.map_append,List.length_append,List.length_map];simp only [List.map_cons,List.map_nil,List.length_cons,List.length_nil,Nat.zero_add];exact ZaY hown (fun g' hg'=>hset g' (by have e':g=g' :=(by simpa [Value.ownBlock] using hg');have:base≤g:=ZaK hown rfl;omega))
   · rw [List.map_append];refine Zan (Dat.ValsAll.more hT _ _ (Dat.ValsAll.keep hbel _ _ hva)) ?_;simp only [List.map_cons,List.map_nil];refine Zat (ZbA hr.1 ?_);have hk2:Same (fun b=>w.heap.size≤b∧b<wa.heap.size) wa (wb.setCell ⟨gt,k,none⟩ (.slice (some ⟨g,0,none⟩) (l.length+1) cap)):=fun b hb'=>(hset b (by omega)).trans (hgr.block b hb'.2 (fun e=>by have:=(hvl b e.symm).2;omega));refine(hr.2.keep hk2).more (fun b hb'=>⟨Nat.le_trans hbw hb'.1,by rw [hsz];exact Nat.lt_of_lt_of_le hb'.2 hgs,fun e=>?_⟩);have e':b=g:=(by simpa [Value.ownBlock] using e);rcases hat with hat | hat
     · have:=(hvl g hat).2;have:=hb'.1;omega
     · have:=hb'.2;omega
theorem CopyI.outer (h:CopyI w base gt n k st v (st.getD k [])) (hk:k<n) (hkl:k<st.length) (hl:(st.getD k []).length≤5864062014805):CopyO w base gt n (k+1) st:=by
 obtain⟨vs,h1,h2,h3⟩:=h.blk;obtain⟨A,c,rfl⟩:=h.form;have h4:=h.own.slice (S':=fun b=>base≤b∧b<w.heap.size) (by rw [Zaf (n:=24) (fun _=>rfl)];omega) (fun b hb=>⟨hb.1,hb.2.1⟩) (fun g hg hg' _=>⟨hg,hg'⟩);refine⟨vs++[.slice A (st.getD k []).length c],by simp [h1],by rw [List.append_assoc];exact h2,?_⟩;have e:st.take (k+1)=st.take k++[st.getD k []]:=(by rw [List.take_succ_eq_append_getElem hkl];simp [List.getD,hkl]);rw [e,List.map_append];refine Zan (Dat.ValsAll.more (fun b hb=>⟨hb.1,hb.2.1⟩) _ _ h3) ?_;simp only [List.map_cons,List.map_nil];refine Zat ?_;unfold Zbe Dat.Vals;exact⟨A,c,by simp,by simpa using h4.2.1,h4.2.2⟩
theorem CopyO.done (h:CopyO w base gt n n st) (hn:st.length=n) (hg:gt<base):StB w (fun b=>base≤b∧b<w.heap.size) gt st:=by
 obtain⟨vs,h1,h2,h3⟩:=h;rw [List.take_of_length_le (by omega)] at h3;refine⟨vs,by simpa [Zas] using h2,h3,fun b hb=>⟨hb.2,by omega⟩⟩
structure ApW (w:World) (H:Nat) (s:Sch) (A0:Option Addr) (c0' n:Nat) (wr:World):Prop where
 bel:Below w.heap.size w wr
 v0:wr.cell? ⟨w.heap.size,0,none⟩=some (.int .i64 s.version)
 v1:wr.cell? ⟨w.heap.size,1,none⟩=some (.slice A0 s.tabs.length c0')
 r0:wr.cell? ⟨w.heap.size+1+1,0,none⟩=some (.slice none 0 0)
 r1:wr.frozen? ⟨w.heap.size+1+1,0,none⟩=false
 a0:wr.cell? ⟨H+1,0,none⟩=some (.slice (some ⟨H,0,none⟩) n n)
 lt:w.heap.size+1+1<H
 sz:H+2≤wr.heap.size
theorem ApW.keep {w wr wr':World} {H:Nat} {s:Sch} {A0:Option Addr} {c0' n:Nat} (h:ApW w H s A0 c0' n wr) (hf:Fr (fun b=>b=H∨H+2≤b) wr wr'):ApW w H s A0 c0' n wr':=by
 have h1:=h.lt;have h2:=h.sz;refine⟨⟨hf.os.trans h.bel.os,hf.tape.trans h.bel.tape,hf.output.trans h.bel.output,Nat.le_trans h.bel.size hf.size,fun b hb=>(hf.block b (by omega) (by omega)).trans (h.bel.block b hb)⟩,?_,?_,?_,?_,?_,h1,Nat.le_trans h2 hf.size⟩
 · exact(hf.cell (by omega) (by omega)).trans h.v0
 · exact(hf.cell (by omega) (by omega)).trans h.v1
 · exact(hf.cell (by omega) (by omega)).trans h.r0
 · exact(World.frozen?_of_block (w:=wr) (a:=⟨w.heap.size+1+1,0,none⟩) (hf.block (w.heap.size+1+1) (by omega) (by omega))).trans h.r1
 · exact(hf.cell (by omega) (by omega)).trans h.a0
theorem ApW.below {w wr wr':World} {H:Nat} {s:Sch} {A0:Option Addr} {c0' n:Nat} (h:ApW w H s A0 c0' n wr) (hb:Below wr.heap.size wr wr'):ApW w H s A0 c0' n wr':=h.keep (Fr.of_below hb)
end
def ApPost (r:Int × St) (w:World) (e:Ending) (w':World):Prop:=∃ A c,e=.returned (.tuple #[.agg #[.slice A r.2.length c],.int .i64 r.1])∧r.2.length≤c∧StS w' (New w w') A r.2∧Below w.heap.size w w'
theorem ApPost.err {w w':World} {n:Int} {r:Int × St} (h:r=(n,[])) (hb:Below w.heap.size w w'):ApPost r w (.returned (.tuple #[.agg #[.slice none 0 0],.int .i64 n])) w':=by
 subst h;exact⟨none,0,rfl,Nat.le_refl _,StS.nil_,hb⟩
theorem Zai {w:World} {o:Obj} {b k:Nat} (h:b<w.heap.size):(w.alloc o).cell? ⟨b,k,none⟩=w.cell? ⟨b,k,none⟩:=World.cell?_of_block (Below.heap_alloc w o b h)
theorem Zbh {w:World} {o:Obj} {b k:Nat} (h:b<w.heap.size):(w.alloc o).frozen? ⟨b,k,none⟩=w.frozen? ⟨b,k,none⟩:=World.frozen?_of_block (Below.heap_alloc w o b h)
theorem Zah {w:World} {cs:Array Value} {t:TypeId} {n k:Nat} {v:Value} (hn:n=w.heap.size) (h:cs[k]?=some v):(w.alloc (.cells cs t)).cell? ⟨n,k,none⟩=some v:=by
 subst hn;rw [cell_of_row _ _ _ _ _ _ (heap_alloc_new w (.cells cs t))];exact h
theorem ZaS {w:World} {cs:Array Value} {t:TypeId} {n k:Nat} (hn:n=w.heap.size):(w.alloc (.cells cs t)).frozen? ⟨n,k,none⟩=false:=by
 subst hn;have h:=heap_alloc_new w (.cells cs t);unfold World.frozen?;rw [h];simp
theorem Zhb {l:List Chg} {k:Nat} (h:k<l.length):l.drop k=l.getD k chg0 :: l.drop (k+1):=by
 rw [List.drop_eq_getElem_cons h];simp [List.getD,h]
theorem ZeP {s:Sch} {m:Int} {c:Chg} (h:ZaR s m c=true):∃ tt:Nat,c.table=tt∧tt<s.tabs.length:=by
 unfold ZaR at h;simp only [Bool.and_eq_true,hasN,decide_eq_true_eq] at h;obtain⟨tt,htt⟩:=Int.eq_ofNat_of_zero_le h.1.1.1.1.1;exact⟨tt,htt,by have:=h.1.1.1.1.2;omega⟩
theorem valid_some {s:Sch} {m:Int} {c:Chg} (h:ZaR s m c=true):0<c.old.length∨0<c.new.length:=by
 unfold ZaR at h;simp only [Bool.and_eq_true,Bool.not_eq_true',Bool.and_eq_false_iff,decide_eq_false_iff_not] at h;have:=h.1.1.1.2;omega
theorem getD_set_same {st:St} {t:Nat} {r:List Row} (h:t<st.length):(st.set t r).getD t []=r:=by simp [List.getD,h]
theorem getD_set_other {st:St} {t u:Nat} {r:List Row} (h:u≠t):(st.set t r).getD u []=st.getD u []:=by simp [List.getD,List.getElem?_set_ne (Ne.symm h)]
theorem take_snoc {l:List Row} {k:Nat} (h:k<l.length):l.take (k+1)=l.take k++[l.getD k []]:=by
 rw [List.take_succ_eq_append_getElem h];simp [List.getD,h]
theorem Zda (pc:List Int→Pred→Int) (A0:Option Addr) (c0':Nat) (s:Sch) (m:Int) (A:Option Addr) (ca:Nat) (st:St) (AC:Option Addr) (cc:Nat) (l:List Chg) (S:Nat→Prop) (w:World) (hs:TabS w S A0 s.tabs) (hst:StS w S A st) (hch:ChgS w S AC l) (hS:∀ b,S b→b<w.heap.size) (hpc:Zdj pc s) (hc:Zak st≤4611686018427387904) :
  Calls Tryz.prog 14 #[sAgg s.version A0 s.tabs.length c0',.int .i64 m,ZbE A st.length ca,.slice AC l.length cc] w (ApPost (Zdb (schF pc s) s m st l) w):=by
 have hsl:=hs.len;have hstl:=hst.len;have hcl:=hch.len;have HS:=hI hs;have HST:=hI hst;have HCH:=hI hch;obtain⟨er,her⟩:∃ er,ZaE (schF pc s) s m st=er:=⟨_,rfl⟩;have HCF:=hI her;have HAP:=hI (show Zdb (schF pc s) s m st l=if er≠0 then (er,[]) else Zcv s m (Zak st) st l by unfold Zdb;rw [her]);have HMK:=hI (Zcf st.length hstl);obtain⟨i0,hi,hz0,hz1,hz2⟩:=info_parts ZfY;clear hs hst hch her;have HB0:=hI ((((Below.refl w.heap.size w).alloc nR (.cells #[.int .i64 s.version,.slice A0 s.tabs.length c0'] 28)).alloc (by simp) (.cells #[.slice A st.length ca] 33)).alloc (by simp;omega) (.cells #[.slice none 0 0] 33));go_enter Tryz.func14,Tryz.ntmps14
 go_wp2_with fail
 refine(ZbS pc A0 c0' s m A ca st S _ (HS.out.keep (Same.of_below HB0.out hS)) (HST.out.keep (Same.of_below HB0.out hS)) (fun b hb=>by have:=hS b hb;simp;omega) hpc hc).mono ?_;rintro e w1 ⟨rfl,hb1⟩;rw [HCF.out];have HB1:=hI (HB0.out.trans (hb1.mono (by simp;omega)));have x0:w1.cell? ⟨w.heap.size,0,none⟩=some (.int .i64 s.version):=cK hb1 ((Zai (by simp;omega)).trans ((Zai (by simp)).trans (Zah rfl rfl)));have x1:w1.cell? ⟨w.heap.size,1,none⟩=some (.slice A0 s.tabs.length c0'):=cK hb1 ((Zai (by simp;omega)).trans ((Zai (by simp)).trans (Zah rfl rfl)));have x2:w1.cell? ⟨w.heap.size+1,0,none⟩=some (.slice A st.length ca):=cQ hb1 (by simp) ((Zai (by simp)).trans (Zah (by simp) rfl));have x3:w1.cell? ⟨w.heap.size+1+1,0,none⟩=some (.slice none 0 0):=cQ hb1 (by simp) (Zah (by simp) rfl);have x4:w1.frozen? ⟨w.heap.size+1+1,0,none⟩=false:=(hb1.frozen (p:=⟨w.heap.size+1+1,0,none⟩) (by simp)).trans (ZaS (by simp));have hw1:w.heap.size+1+1<w1.heap.size:=(by have:=hb1.size;simp at this;omega);have hw1a:w.heap.size+1<w1.heap.size:=(by omega);have hw1b:w.heap.size<w1.heap.size:=(by omega);clear hb1 HB0
 by_cases he:er=0
 · subst he;have HOK:=hI (check_ok HCF.out);have HAP2:=hI (show Zdb (schF pc s) s m st l=Zcv s m (Zak st) st l by rw [HAP.out,if_neg (by simp)]);clear HAP;have hmk:=HMK.out
   go_wp2_with fail
   clear hmk
   have HI:=hI (show ApW w w1.heap.size s A0 c0' st.length ((w1.alloc (.cells (Zas st.length).toArray 73)).alloc (.cells #[.slice (some ⟨w1.heap.size,0,none⟩) st.length st.length] 33)) from
    ⟨(HB1.out.alloc (by omega) _).alloc (by simp;omega) _,(Zai (by simp;omega)).trans ((Zai hw1b).trans x0),(Zai (by simp;omega)).trans ((Zai hw1b).trans x1),(Zai (by simp;omega)).trans ((Zai hw1).trans x3),(Zbh (by simp;omega)).trans ((Zbh hw1).trans x4),Zah (by simp) rfl,hw1,by simp⟩)
   have HI2:=hI (show CopyO ((w1.alloc (.cells (Zas st.length).toArray 73)).alloc (.cells #[.slice (some ⟨w1.heap.size,0,none⟩) st.length st.length] 33)) (w1.heap.size+2) w1.heap.size st.length 0 st from CopyO.zero ((Below.heap_alloc _ _ _ (by simp)).trans (heap_alloc_new w1 _)));clear x0 x1 x2 x3 x4
   go_loopw [37] (fun i wr=>∃ k:Nat,k≤st.length∧i=.int .i64 k∧ApW w w1.heap.size s A0 c0' st.length wr∧CopyO wr (w1.heap.size+2) w1.heap.size st.length k st) (fun i _=>st.length - (intOf i).toNat)
   case atStart=>exact⟨0,Nat.zero_le _,rfl,HI.out,HI2.out⟩
   case round =>
    clear HI HI2;obtain⟨k,hk,rfl,haw,hco⟩:=hrel;have HAW:=hI haw;have HCO:=hI hco;have hsz:=haw.sz;clear haw hco
    by_cases hkl:k<st.length
    · obtain⟨b2,o2,rfl,hb2,A',c',d1,d2,d3⟩:=(HST.out.keep (Same.of_below HAW.out.bel hS)).at_ hkl;have hl2:b2<wr.heap.size:=(by have:=hS b2 hb2;omega);have HRS:=hI d3;have hrl:=d3.len;have HCI:=hI (HCO.out.inner hkl);have HGE:=hI (Nat.le_trans (ZdO st k) HOK.out.1);clear d2 d3 HCO;obtain⟨rows,hrows⟩:∃ rows,st.getD k []=rows:=⟨_,rfl⟩;rw [hrows] at d1 HRS hrl HGE;have HROWS:=hI hrows;clear hrows;have hge:=HGE.out
      go_wp2_with fail
      clear d1
      go_loopw [44] (fun i wr=>∃ j:Nat,j≤rows.length∧i=.int .i64 j∧∃ v,ApW w w1.heap.size s A0 c0' st.length wr∧CopyI wr (w1.heap.size+2) w1.heap.size st.length k st v (rows.take j)) (fun i _=>rows.length - (intOf i).toNat)
      case atStart=>exact⟨0,Nat.zero_le _,rfl,_,HAW.out,by rw [List.take_zero];exact HCI.out⟩
      case round =>
       rename_i wo
       have HRO:=hI (HRS.out.keep (w':=w) (fun b hb=>(HAW.out.bel.block b (hS b hb)).symm));clear HAW HCI HRS hsz hl2;obtain⟨j,hj,rfl,v,haw,hci⟩:=hrel;have HAW:=hI haw;have HCI:=hI hci;have hsz:=haw.sz;clear haw hci
       by_cases hjl:j<rows.length
       · obtain⟨AV,cv,hform⟩:=HCI.out.form;rw [List.length_take,Nat.min_eq_left hj] at hform;subst hform;obtain⟨g2,g3⟩:=HCI.out.cell;have g1:=HAW.out.a0;obtain⟨vals,hown,hvals,hvS⟩:=HCI.out.own;rw [List.length_map,List.length_take,Nat.min_eq_left hj] at hown;have HOWN:=hI hown;have HVALS:=hI hvals;have HNV1:=hI (show some (w1.heap.size+1)≠(Value.slice AV j cv).ownBlock from fun e=>by have:=ZaK hown e.symm;omega);have HNV2:=hI (show some w1.heap.size≠(Value.slice AV j cv).ownBlock from fun e=>by have:=ZaK hown e.symm;omega);have HOWN6:=hI (show ∀ w5,Below wr.heap.size wr w5→∀ AR n c,(w5.alloc (.cells #[.slice AR n c] 42)).ownsRow (w1.heap.size+2) 42 1 (.slice AV j cv) j vals from fun w5 hb5 AR n c=>ZaY hown (fun g hg=>(Below.heap_alloc w5 _ g (by have:=ZaP hown hg;have:=hb5.size;omega)).trans (hb5.block g (ZaP hown hg))));clear hown hvals hvS;obtain⟨b5,o5,rfl,hb5,A5,c5,f1,f2,f3⟩:=(HRO.out.keep (Same.of_below HAW.out.bel hS)).at_ hjl;have HROW:=hI f3;have hl5:b5<wr.heap.size:=(by have:=hS b5 hb5;have:=HAW.out.lt;omega);have HTK:=hI (take_snoc hjl);have hrw:=f3.len;clear f2 f3;generalize rows.getD j []=row at f1 HROW hrw HTK;have hki:(k:Int)<st.length:=(by omega);have hk0:(0:Int)≤k:=by omega
         go_wp2_with fail
         clear f1;refine tS (fun w'=>w'.cell? ⟨w1.heap.size+1,0,none⟩=some (.slice (some ⟨w1.heap.size,0,none⟩) st.length st.length)∧w'.cell? ⟨w1.heap.size,k,none⟩=some (.slice AV j cv)∧w'.frozen? ⟨w1.heap.size,k,none⟩=false) 13 14 fun Q' HQ HP=>?_;refine tX 0 48 1 49 2 50 3 51 (bA 14 15) HP.out ⟨g1,g2,g3⟩ ?_;refine tX 4 52 5 53 6 54 7 55 (bA 14 255) HP.out ⟨g1,g2,g3⟩ ?_;refine tJ 8 56 (bA 14 511) HP.out ⟨g1,g2,g3⟩ ?_;refine tQ 9 (some 57) (bA 14 1023) fun K HK=>?_;go_simp;refine(Zbi A5 c5 row S _ (by exact HROW.out.keep (fun _ _=>rfl))).mono ?_;rintro e w5 ⟨AR,cr,rfl,hown5,hb5⟩;have hb5':Below wr.heap.size wr w5:=(Below.refl wr.heap.size wr).drew.trans hb5;have HNR:=hI (Zbo (n:=wr.heap.size) hown5 HROW.out.ok nR);have HB5:=hI hb5';have k1:=cK hb5' g1;have k2:=cK hb5' g2;have k3:=(hb5'.frozen (p:=⟨w1.heap.size,k,none⟩) (by simp;omega)).trans g3;have hz5:wr.heap.size≤w5.heap.size:=hb5'.size;clear hb5 hb5' hown5;refine HK.out _ _ (fun _=>⟨k1,k2,k3⟩) ?_;clear HK K
         try simp only [Act.put,psA,psB,psC]
         refine tQ 10 (some 58) (bA 14 2047) fun K HK=>?_;go_simp;have l1:(w5.alloc (.cells #[.slice AR row.length cr] 42)).cell? ⟨w1.heap.size+1,0,none⟩=_:=(Zai (by omega)).trans k1;have l2:(w5.alloc (.cells #[.slice AR row.length cr] 42)).cell? ⟨w1.heap.size,k,none⟩=_:=(Zai (by omega)).trans k2;have l3:(w5.alloc (.cells #[.slice AR row.length cr] 42)).frozen? ⟨w1.heap.size,k,none⟩=_:=(Zbh (by omega)).trans k3;refine HK.out _ _ (fun _=>⟨l1,l2,l3⟩) ?_;clear HK K
         try simp only [Act.put,psA,psB,psC]
         refine anyT_one (i:=11) (o:=⟨some 59,_,_,_,_,_⟩) (L':=(bA 14 4095)) rfl (by kernel_rfl) (by kernel_rfl) (fun K hK=>?_);refine step_append_lies _ (by rfl) (.tmp 55) (.tmp 58) _ (by rfl) (w1.heap.size+2) 42 i0 _ 1 24 Tryz.underlying73 hi hz0 hz1 hz2 rfl (by decide) (.slice AV j cv) j vals (by rfl) (by exact HOWN6.out w5 HB5.out AR row.length cr) ⟨w5.heap.size,0,none⟩ 1 1 [.slice AR row.length cr] (by rfl) (by rfl) (World.news_of_block (cs:=#[.slice AR row.length cr]) (t:=42) (fr:=(0,0)) (heap_alloc_new w5 _)) (by simp [Value.oneCell']) (by omega) (by unfold maxLen;omega) (by omega) (by simp;omega) (w5.heap.size+1) (by simp) ?_;intro g7 c7 w7 hown7 hgr7 hat7 hlt7;have m1:=(hgr7.cell_far ⟨w1.heap.size+1,0,none⟩ (by simp;omega) HNV1.out).trans l1;have m2:=(hgr7.cell_far ⟨w1.heap.size,k,none⟩ (by simp;omega) HNV2.out).trans l2;have m3:=(hgr7.frozen_far ⟨w1.heap.size,k,none⟩ (by simp;omega) HNV2.out).trans l3;have hz7:w5.heap.size+1≤w7.heap.size:=(by have:=hgr7.size;simp at this;exact this);have HO7:=hI hown7;have HG7:=hI hgr7;have HAT7:=hI hat7;clear hown7 hgr7 hat7;refine hK _ _ (fun _=>⟨m1,m2,m3⟩) ?_;clear hK K
         try simp only [Act.put,psA,psB,psC]
         refine tJ 12 60 (bA 14 8191) HP.out ⟨m1,m2,m3⟩ ?_;refine tQ 13 none (bA 14 16383) fun K HK=>?_;go_simp;refine HK.out _ _ (fun h=>absurd rfl h) ?_;clear HK K;refine tE HQ ?_;clear HQ HP Q';have HFIN:=hI (HCI.out.push (by omega) (by omega) (HB5.out.alloc (Nat.le_trans nR HB5.out.size) (.cells #[.slice AR row.length cr] 42)) ⟨HNR.out.1,(HNR.out.2.keep (fun b hb=>Below.heap_alloc w5 _ b hb.2)).more (fun b hb=>⟨hb.1,by simp;omega⟩)⟩ HVALS.out HG7.out (by rw [List.length_take,Nat.min_eq_left hj]) HO7.out (HAT7.out.imp id (fun h=>by simp;omega)) (fun g' hg'=>⟨ZaK HOWN.out hg',ZaP HOWN.out hg'⟩));rw [←HTK.out] at HFIN;have HFR:=hI (show Fr (fun b=>b=w1.heap.size∨w1.heap.size+2≤b) wr (w7.setCell ⟨w1.heap.size,k,none⟩ (.slice (some ⟨g7,0,none⟩) (j+1) c7)) from (((Fr.of_below HB5.out).alloc _).trans (Y:=fun b=>some b=(Value.slice AV j cv).ownBlock) (Fr.of_grown HG7.out (fun b _ h=>h)) (fun b _ h=>.inr (ZaK HOWN.out h.symm))).setCell _ (fun _=>.inl rfl));clear HROW HNR HB5 HO7 HG7 HAT7 HOWN HOWN6 HVALS m1 m2 m3 l1 l2 l3 k1 k2 k3
         go_wp2_with fail
         go_roundw
         case rel=>exact⟨j+1,by omega,by go_num,_,HAW.out.keep HFR.out,HFIN.out⟩
         case measure=>simp [intOf];omega
       · have HEND:=hI (HCI.out);rw [List.take_of_length_le (by omega),←HROWS.out] at HEND
         go_wp2_with fail
         go_roundw
         case rel=>exact⟨k+1,by omega,by go_num,HAW.out,HEND.out.outer hkl hkl (by rw [HROWS.out];omega)⟩
         case measure=>simp [intOf];omega
    · obtain rfl:k=st.length:=(by omega);have HSB:=hI (HCO.out.done rfl (by omega));have a0:=HAW.out.a0;clear HCO
      go_wp2_with fail
      refine(ZcJ (some ⟨w1.heap.size,0,none⟩) st.length st (fun b=>w1.heap.size≤b∧b<wr.heap.size) _ (HSB.out.slice hstl (fun b hb=>⟨by omega,hb.2⟩) ⟨Nat.le_refl _,by omega⟩) (fun b hb=>hb.2) hc).mono ?_;rintro e w2 ⟨rfl,hb2⟩;have HAW2:=hI (HAW.out.below hb2);have HSB2:=hI ((HSB.out.below hb2).more (S':=fun b=>w1.heap.size+2≤b∧b<w2.heap.size) (fun b hb=>⟨hb.1,Nat.lt_of_lt_of_le hb.2 hb2.size⟩) (fun b hb=>⟨hb.2,by omega⟩));clear hb2 HAW HSB a0 hsz;have HASC:=hI (fun t ht=>stOk_asc HOK.out.2.2 t ht)
      go_wp2_with fail
      have HI:=hI (show ∃ cur:St,Zak st=Zak cur∧Zcv s m (Zak st) st l=Zcv s m (Zak cur) cur l∧StB w2 (fun b=>w1.heap.size+2≤b∧b<w2.heap.size) w1.heap.size cur∧cur.length=st.length∧Zak cur≤512∧∀ t,t<cur.length→Asc s t (cur.getD t []) from ⟨st,rfl,rfl,HSB2.out,rfl,HOK.out.1,HASC.out⟩);have HLEN:=hI HOK.out.2.1;have HOKC:=HOK.out.1;clear HSB2 HASC HOK HST HMK
      go_loopw [16,67] (fun n i wr=>∃ k:Nat,k≤l.length∧i=.int .i64 k∧∃ cur:St,n=.int .i64 (Zak cur)∧Zcv s m (Zak st) st l=Zcv s m (Zak cur) cur (l.drop k)∧ApW w w1.heap.size s A0 c0' st.length wr∧StB wr (fun b=>w1.heap.size+2≤b∧b<wr.heap.size) w1.heap.size cur∧cur.length=st.length∧Zak cur≤512∧∀ t,t<cur.length→Asc s t (cur.getD t [])) (fun _ i _=>l.length - (intOf i).toNat)
      case atStart =>
       obtain⟨cur,h1,h2,h3,h4,h5,h6⟩:=HI.out;exact⟨0,Nat.zero_le _,rfl,cur,by rw [h1],by rw [List.drop_zero];exact h2,HAW2.out,h3,h4,h5,h6⟩
      case round =>
       clear HI HAW2
       rename_i wp
       obtain⟨k,hk,rfl,cur,rfl,hap,haw,hsb,hcl',hcc,hasc⟩:=hrel;have HT:=hI hap;have HAW:=hI haw;have HSB:=hI hsb;have HCL:=hI hcl';have HASC:=hI hasc;have hsz:=haw.sz;have hlt:=haw.lt;have v0:=haw.v0;have v1:=haw.v1;have r0:=haw.r0;have r1:=haw.r1;have a0:=haw.a0;clear hap haw hsb hcl' hasc
       by_cases hkl:k<l.length
       · obtain⟨b2,o2,rfl,hb2,d0,A1,c1,A2,c2,d1,e1,hR1,d2,e2,hR2⟩:=(HCH.out.keep (Same.of_below HAW.out.bel hS)).at_ hkl;have HSTEP:=hI (Zhb hkl);have HR1:=hI hR1;have HR2:=hI hR2;have HE1:=hI e1;have HE2:=hI e2;have hn1:=hR1.len;have hn2:=hR2.len;have hl2:b2<wr.heap.size:=(by have:=hS b2 hb2;omega);clear hR1 hR2 e1 e2;generalize l.getD k chg0=ch at d0 d1 d2 HSTEP HR1 HR2 HE1 HE2 hn1 hn2;obtain⟨t,old,new⟩:=ch;simp only at d0 d1 d2 HR1 HR2 HE1 HE2 hn1 hn2;have hw0:w.heap.size<wr.heap.size:=(by omega);have hw1':w.heap.size+1+1<wr.heap.size:=(by omega);have hw2':w1.heap.size+1<wr.heap.size:=(by omega);have hw3':w1.heap.size<wr.heap.size:=(by omega);have HBA:=hI ((Below.refl wr.heap.size wr).alloc nR (.cells #[.int .i64 t,.slice A1 old.length c1,.slice A2 new.length c2] 44))
         go_wp2_with fail
         refine(Zfw A0 c0' s m ⟨t,old,new⟩ A1 c1 A2 c2 S _ (HS.out.keep (fun b hb=>(HBA.out.block b (by have:=hS b hb;omega)).trans (HAW.out.bel.block b (hS b hb)))) (HR1.out.keep (fun b hb=>HBA.out.block b (by have:=hS b hb;omega))) HE1.out (HR2.out.keep (fun b hb=>HBA.out.block b (by have:=hS b hb;omega))) HE2.out (fun b hb=>by have:=hS b hb;simp;omega)).mono ?_;rintro e w3 ⟨rfl,hb3⟩;have hb3':Below wr.heap.size wr w3:=HBA.out.trans (hb3.mono (by simp));have HAW3:=hI (HAW.out.below hb3');have HB3:=hI hb3';have y0:w3.cell? ⟨wr.heap.size,0,none⟩=some (.int .i64 t):=cQ hb3 (by simp) (Zah rfl rfl);have y1:w3.cell? ⟨wr.heap.size,1,none⟩=some (.slice A1 old.length c1):=cQ hb3 (by simp) (Zah rfl rfl);have y2:w3.cell? ⟨wr.heap.size,2,none⟩=some (.slice A2 new.length c2):=cQ hb3 (by simp) (Zah rfl rfl);have hw3:wr.heap.size<w3.heap.size:=(by have:=hb3.size;simp at this;omega);clear hb3 hb3' v0 v1 r0 r1 a0 d0 d1 d2;have v0:=HAW3.out.v0;have v1:=HAW3.out.v1;have r0:=HAW3.out.r0;have r1:=HAW3.out.r1;have a0:=HAW3.out.a0
         by_cases hval:ZaR s m ⟨t,old,new⟩=true
         · have HVAL:=hI hval;rw [hval];clear hval;obtain⟨tt,htt⟩:=ZeP HVAL.out;obtain⟨htt1,htt2⟩:=htt;simp only at htt1;subst htt1;have HVO:=hI (valid_some HVAL.out);obtain⟨_,A9,c9,z1,z2,z3⟩:=(HSB.out.keep HB3.out.size (fun b hb=>HB3.out.block b hb.2) (HB3.out.block _ (by omega))).at_ (show tt<cur.length by rw [HCL.out,HLEN.out];exact htt2);have hfz:w3.frozen? ⟨w1.heap.size,tt,none⟩=false:=((HSB.out.keep HB3.out.size (fun b hb=>HB3.out.block b hb.2) (HB3.out.block _ (by omega))).at_ (show tt<cur.length by rw [HCL.out,HLEN.out];exact htt2)).1;have HZ3:=hI z3;have HZ2:=hI z2;have HRL:=hI (Nat.le_trans (ZdO cur tt) hcc);have HAS:=hI (HASC.out tt (by rw [HCL.out,HLEN.out];exact htt2));have HSTEP2:=hI (show Zcv s m (Zak cur) cur (l.drop k)=(if Zgy s ⟨tt,old,new⟩ (cur.getD tt [])=false then (81,[]) else if 512<(Zak cur:Int)+((putC s ⟨tt,old,new⟩ (cur.getD tt [])).length - (cur.getD tt []).length:Int) then (2,[]) else Zcv s m ((Zak cur:Int)+((putC s ⟨tt,old,new⟩ (cur.getD tt [])).length - (cur.getD tt []).length:Int)) (cur.set tt (putC s ⟨tt,old,new⟩ (cur.getD tt []))) (l.drop (k+1))) by rw [HSTEP.out,Zcv,if_neg (by rw [HVAL.out];simp)];simp only [Int.toNat_natCast]);have HCS:=hI (fun r=>countF_set cur tt r (by rw [HCL.out,HLEN.out];exact htt2));have HPA:=hI (show ∀ r:List Row,Asc s (tt:Int) r→Asc s (tt:Int) (putC s ⟨tt,old,new⟩ r) from fun r h=>asc_put (m:=m) (c:=⟨tt,old,new⟩) h HVAL.out);have HPL:=hI (Zho s ⟨tt,old,new⟩ (cur.getD tt []));clear HSTEP z2 z3;generalize hrw:cur.getD tt []=rows at z1 HZ2 HZ3 HRL HAS HSTEP2 HCS HPL;have HRW:=hI hrw;clear hrw;have hrl:=HRL.out;have hS3:∀ b,(S b∨(w1.heap.size+2≤b∧b<wr.heap.size))→b<w3.heap.size:=(fun b hb=>by rcases hb with hb | hb;have:=hS b hb;omega;omega);have HSQ:=hI ((HS.out.keep (Same.of_below HAW3.out.bel hS)).more (S':=fun b=>S b∨(w1.heap.size+2≤b∧b<wr.heap.size)) (fun b hb=>.inl hb));have HR1Q:=hI ((HR1.out.keep (w':=w3) (fun b hb=>HB3.out.block b (by have:=hS b hb;omega))).more (S':=fun b=>S b∨(w1.heap.size+2≤b∧b<wr.heap.size)) (fun b hb=>.inl hb));have HR2Q:=hI ((HR2.out.keep (w':=w3) (fun b hb=>HB3.out.block b (by have:=hS b hb;omega))).more (S':=fun b=>S b∨(w1.heap.size+2≤b∧b<wr.heap.size)) (fun b hb=>.inl hb));have q1:(0:Int)≤tt:=(by omega);have q2:(tt:Int)<st.length:=(by rw [HLEN.out];omega);have q3:(tt:Int)≤st.length:=(by omega);have hgl:w1.heap.size<w3.heap.size:=(by omega);have hgl1:w1.heap.size+1<w3.heap.size:=(by omega);have hgl2:w.heap.size<w3.heap.size:=by omega
           by_cases hfit:Zgy s ⟨tt,old,new⟩ rows=true
           · have HFIT:=hI hfit;clear hfit
             go_wp2_with fail
             go_region_held3 (fun w'=>Below w3.heap.size w3 w'∧w'.cell? ⟨w.heap.size,0,none⟩=some (.int .i64 s.version)∧w'.cell? ⟨w.heap.size,1,none⟩=some (.slice A0 s.tabs.length c0')∧w'.cell? ⟨w1.heap.size+1,0,none⟩=some (.slice (some ⟨w1.heap.size,0,none⟩) st.length st.length)∧w'.cell? ⟨w1.heap.size,tt,none⟩=some (.slice A9 rows.length c9)∧w'.cell? ⟨wr.heap.size,0,none⟩=some (.int .i64 tt)∧w'.cell? ⟨wr.heap.size,1,none⟩=some (.slice A1 old.length c1)∧w'.cell? ⟨wr.heap.size,2,none⟩=some (.slice A2 new.length c2))
              (first | exact⟨(Below.refl _ _).drew,v0,v1,a0,z1,y0,y1,y2⟩ | exact⟨hv1,cQ hv1 hgl2 v0,cQ hv1 hgl2 v1,cQ hv1 hgl1 a0,cQ hv1 hgl z1,cQ hv1 hw3 y0,cQ hv1 hw3 y1,cQ hv1 hw3 y2⟩)
              ((go_at_call 51;refine(applied_yes A0 c0' s ⟨tt,old,new⟩ A1 c1 A2 c2 A9 c9 rows (fun b=>S b∨(w1.heap.size+2≤b∧b<wr.heap.size)) (fun b=>w1.heap.size+2≤b∧b<wr.heap.size) w3.drew (HSQ.out.keep (fun _ _=>rfl)) (HZ3.out.keep (fun _ _=>rfl)) (fun b hb=>.inr hb) HZ2.out (HR1Q.out.keep (fun _ _=>rfl)) HE1.out (HR2Q.out.keep (fun _ _=>rfl)) HE2.out hS3 HAS.out HVO.out HFIT.out (by omega)).mono ?_;rintro e w6 ⟨A8,c8,rfl,h8,hR8,hv1'⟩;have hv1:Below w3.heap.size w3 w6:=(Below.refl _ w3).drew.trans hv1'))
             have HAW6:=hI (HAW3.out.below hv1);have HSB6:=hI ((HSB.out.keep (w':=w6) (Nat.le_trans HB3.out.size hv1.size) (fun b hb=>(hv1.block b (by have:=hb.2;omega)).trans (HB3.out.block b hb.2)) ((hv1.block _ (by omega)).trans (HB3.out.block _ (by omega)))).more (S':=fun b=>w1.heap.size+2≤b∧b<w6.heap.size) (fun b hb=>⟨hb.1,by have:=hv1.size;have:=hb.2;omega⟩) (fun b hb=>⟨hb.2,by omega⟩))
             have HR8:=hI (hR8.more (S':=fun b=>w1.heap.size+2≤b∧b<w6.heap.size) (fun b hb=>by
              rcases hb with hb | hb
              · exact⟨hb.1,by have:=hv1.size;have:=hb.2;omega⟩
              · exact⟨by have h0:w3.heap.size≤b:=hb.1;omega,hb.2⟩))
             have H8:=hI h8;have hz6:wr.heap.size<w6.heap.size:=(by have:=hv1.size;omega);have u0:w6.cell? ⟨wr.heap.size,0,none⟩=some (.int .i64 tt):=cQ hv1 hw3 y0;have u1:w6.cell? ⟨w1.heap.size,tt,none⟩=some (.slice A9 rows.length c9):=cQ hv1 hgl z1;have u2:w6.frozen? ⟨w1.heap.size,tt,none⟩=false:=(hv1.frozen (p:=⟨w1.heap.size,tt,none⟩) hgl).trans hfz;clear hv1 hv1' hR8 h8 v0 v1 r0 r1 a0 y0 y1 y2 z1 hfz;have r0:=HAW6.out.r0;have r1:=HAW6.out.r1;have a0:=HAW6.out.a0;have hpl:=HPL.out;generalize hrows2:putC s ⟨tt,old,new⟩ rows=rows2 at HR8 H8 hpl HSTEP2 ⊢;have HR2W:=hI hrows2;clear hrows2;have HCS2:=hI (HCS.out rows2);clear HCS HPL
             by_cases hlim:512<(Zak cur:Int)+((rows2.length:Int) - rows.length)
             · have HF:=hI (show Zdb (schF pc s) s m st l=(2,[]) by rw [HAP2.out,HT.out,HSTEP2.out,if_neg (by rw [HFIT.out];simp),if_pos hlim]);have hd9:decide (512<(Zak cur:Int)+((rows2.length:Int) - rows.length))=true:=decide_eq_true hlim;clear hlim HCS2 HSTEP2;generalize Zak cur=cn at hd9 hcc ⊢
               go_wp2_with fail
               refine bodyPost_ret (v:=.tuple #[.agg #[.slice none 0 0],.int .i64 2]) (by simp [results,Tryz.results14,go_sem,r0]) rfl ?_;exact ApPost.err HF.out (HAW6.out.bel.setCell (p:=⟨w.heap.size+1+1,0,none⟩) (by simp;omega) _)
             · have hd9:decide (512<(Zak cur:Int)+((rows2.length:Int) - rows.length))=false:=decide_eq_false hlim;have HNXT:=hI (show Zcv s m (Zak st) st l=Zcv s m (Zak (cur.set tt rows2)) (cur.set tt rows2) (l.drop (k+1)) by rw [HT.out,HSTEP2.out,if_neg (by rw [HFIT.out];simp),if_neg hlim,HCS2.out]);have HCN:=hI (show Zak (cur.set tt rows2)≤512 by have:=HCS2.out;omega)
               have HASN:=hI (show ∀ t,t<(cur.set tt rows2).length→Asc s t ((cur.set tt rows2).getD t []) from fun t' ht'=>by
                rw [List.length_set] at ht'
                by_cases hte:t'=tt
                · subst hte;rw [getD_set_same ht',←HR2W.out];exact HPA.out _ HAS.out
                · rw [getD_set_other hte];exact HASC.out t' ht')
               have HNEW:=hI (HSB6.out.put (k:=tt) H8.out HR8.out);clear hlim HSTEP2;obtain⟨cn,hcn⟩:∃ cn,Zak cur=cn:=⟨_,rfl⟩;rw [hcn] at hd9 hcc HCS2 ⊢;clear hcn
               go_wp2_with fail
               go_roundw
               case rel=>exact⟨k+1,by omega,by go_num,cur.set tt rows2,by rw [HCS2.out],HNXT.out,HAW6.out.keep ((Fr.refl _ _).setCell _ (fun _=>.inl rfl)),by simpa using HNEW.out,by rw [List.length_set];exact HCL.out,HCN.out,HASN.out⟩
               case measure=>simp [intOf];omega
           · have hfit':Zgy s ⟨tt,old,new⟩ rows=false:=(by simpa using hfit);have HFIT:=hI hfit';have HF:=hI (show Zdb (schF pc s) s m st l=(81,[]) by rw [HAP2.out,HT.out,HSTEP2.out,if_pos hfit']);clear hfit hfit' HSTEP2 HCS
             go_wp2_with fail
             go_region_held3 (fun w'=>Below w3.heap.size w3 w'∧w'.cell? ⟨w.heap.size,0,none⟩=some (.int .i64 s.version)∧w'.cell? ⟨w.heap.size,1,none⟩=some (.slice A0 s.tabs.length c0')∧w'.cell? ⟨w1.heap.size+1,0,none⟩=some (.slice (some ⟨w1.heap.size,0,none⟩) st.length st.length)∧w'.cell? ⟨w1.heap.size,tt,none⟩=some (.slice A9 rows.length c9)∧w'.cell? ⟨wr.heap.size,0,none⟩=some (.int .i64 tt)∧w'.cell? ⟨wr.heap.size,1,none⟩=some (.slice A1 old.length c1)∧w'.cell? ⟨wr.heap.size,2,none⟩=some (.slice A2 new.length c2))
              (first | exact⟨(Below.refl _ _).drew,v0,v1,a0,z1,y0,y1,y2⟩ | exact⟨hv1,cQ hv1 hgl2 v0,cQ hv1 hgl2 v1,cQ hv1 hgl1 a0,cQ hv1 hgl z1,cQ hv1 hw3 y0,cQ hv1 hw3 y1,cQ hv1 hw3 y2⟩)
              ((go_at_call 51;refine(applied_not A0 c0' s ⟨tt,old,new⟩ A1 c1 A2 c2 A9 c9 rows (fun b=>S b∨(w1.heap.size+2≤b∧b<wr.heap.size)) (fun b=>w1.heap.size+2≤b∧b<wr.heap.size) w3.drew (HSQ.out.keep (fun _ _=>rfl)) (HZ3.out.keep (fun _ _=>rfl)) (fun b hb=>.inr hb) HZ2.out (HR1Q.out.keep (fun _ _=>rfl)) HE1.out (HR2Q.out.keep (fun _ _=>rfl)) HE2.out hS3 HAS.out HFIT.out (by omega)).mono ?_;rintro e w6 ⟨rfl,hv1'⟩;have hv1:Below w3.heap.size w3 w6:=(Below.refl _ w3).drew.trans hv1'))
             have HAW6:=hI (HAW3.out.below hv1);clear hv1 hv1' v0 v1 r0 r1 a0 y0 y1 y2 z1 hfz;have r0:=HAW6.out.r0;have r1:=HAW6.out.r1
             go_wp2_with fail
             refine bodyPost_ret (v:=.tuple #[.agg #[.slice none 0 0],.int .i64 81]) (by simp [results,Tryz.results14,go_sem,r0]) rfl ?_;exact ApPost.err HF.out (HAW6.out.bel.setCell (p:=⟨w.heap.size+1+1,0,none⟩) (by simp;omega) _)
         · have hval':ZaR s m ⟨t,old,new⟩=false:=(by simpa using hval);have HF:=hI (show Zdb (schF pc s) s m st l=(71,[]) by rw [HAP2.out,HT.out,HSTEP.out,Zcv,if_pos hval']);rw [hval'];clear hval hval'
           go_wp2_with fail
           refine bodyPost_ret (v:=.tuple #[.agg #[.slice none 0 0],.int .i64 71]) (by simp [results,Tryz.results14,go_sem,r0]) rfl ?_;exact ApPost.err HF.out (HAW3.out.bel.setCell (p:=⟨w.heap.size+1+1,0,none⟩) (by simp;omega) _)
       · have HF:=hI (show Zdb (schF pc s) s m st l=(0,cur) by rw [HAP2.out,HT.out,List.drop_eq_nil_of_le (by omega),Zcv])
         go_wp2_with fail
         refine bodyPost_ret (v:=.tuple #[.agg #[.slice (some ⟨w1.heap.size,0,none⟩) st.length st.length],.int .i64 0]) (by simp [results,Tryz.results14,go_sem,r0]) rfl ?_;rw [HF.out];have hb9:Below w.heap.size w (wr.setCell ⟨w.heap.size+1+1,0,none⟩ (.slice (some ⟨w1.heap.size,0,none⟩) st.length st.length)):=HAW.out.bel.setCell (p:=⟨w.heap.size+1+1,0,none⟩) (by simp;omega) _;have hsb9:StB (wr.setCell ⟨w.heap.size+1+1,0,none⟩ (.slice (some ⟨w1.heap.size,0,none⟩) st.length st.length)) (fun b=>w1.heap.size+2≤b∧b<wr.heap.size) w1.heap.size cur:=HSB.out.keep (by simp) (fun b hb=>Below.heap_setCell wr ⟨w.heap.size+1+1,0,none⟩ _ b (by show b≠w.heap.size+1+1;omega)) (Below.heap_setCell wr ⟨w.heap.size+1+1,0,none⟩ _ _ (by show w1.heap.size≠w.heap.size+1+1;omega));refine⟨some ⟨w1.heap.size,0,none⟩,st.length,?_,by show cur.length≤_;rw [HCL.out];exact Nat.le_refl _,hsb9.slice (by rw [HCL.out];exact hstl) (fun b hb=>⟨by omega,by simp;omega⟩) ⟨by omega,by simp;omega⟩,hb9⟩;show _=Ending.returned (.tuple #[.agg #[.slice (some ⟨w1.heap.size,0,none⟩) cur.length st.length],.int .i64 0]);rw [HCL.out]
 · have hd:(er != 0)=true:=(by simpa using he);have HF:=hI (show Zdb (schF pc s) s m st l=(er,[]) by rw [HAP.out,if_pos he]);clear he HAP HMK
   go_wp2_with fail
   refine bodyPost_ret (v:=.tuple #[.agg #[.slice none 0 0],.int .i64 er]) (by simp [results,Tryz.results14,go_sem,x3]) rfl ?_;exact ApPost.err HF.out (HB1.out.setCell (p:=⟨w.heap.size+1+1,0,none⟩) (by simp;omega) _)
end Go.Proofs.YtkpjjfhfbpfjpaaGreat
