import Derived.Test.YtkpjjfhfbpfjpaaK5fea28
import Derived.OrdersHeld
import Derived.RegionTactic
import Derived.Lib.Hide
import Derived.WalkKit
import Derived.RangeFuncBox
import Derived.RangeFuncNested
import Derived.RangeFuncLeaves
import Derived.RangeFuncCalls
import Derived.RangeFuncBound
import Derived.Shelf.Abstract
import Derived.OwnWalkIn
import Derived.TacticsInMore
import Derived.LoopNIn
import Derived.LoopIn
set_option linter.unusedVariables false
set_option linter.unusedSimpArgs false
set_option maxRecDepth 100000
set_option maxHeartbeats 8000000
namespace Go.Proofs.Ytkpjjfhfbpfjpaa
open Go Go.RowKit
section
variable {P:Program} {ops:Array Oper} {Q:Exit→Act→World→Prop} {md:Region.Mode} {S:World→Prop} {d:Nat}
def AnyU (P:Program) (md:Region.Mode) (ops:Array Oper) (Q:Exit→Act→World→Prop) (S:World→Prop) (d:Nat):Nat→Array Bool→Act→World→Prop
 | 0,listed,a,w=>Region.ready md ops listed=[]∧Q .normal a w
 | n+1,listed,a,w=>(Region.ready md ops listed=[]→Q .normal a w) ∧
  ∀ i ∈ Region.ready md ops listed,wpOp P ops Q i (fun a' w'=>(i≠d→S w')∧AnyU P md ops Q S d n (listed.setIfInBounds i true) a' w') a w
theorem Zfk:∀ (n:Nat) (listed:Array Bool) (a:Act) (w:World),AnyU P md ops Q S d n listed a w→wpAny P md ops Q n listed a w
 | 0,_,_,_,h=>h
 | n+1,_,_,_,h=>⟨h.1,fun i hi=>wpOp_mono (fun a' w' h'=>Zfk n _ a' w' h'.2) (h.2 i hi)⟩
def Waits (md:Region.Mode) (ops:Array Oper) (d i:Nat):Prop:=∀ od,ops[d]?=some od→∃ e ∈ od.after,Region.binds md e=true∧e.on=i
theorem ready_waits {i j:Nat} {listed:Array Bool} (hi:i ∈ Region.ready md ops listed) (hj:j ∈ Region.ready md ops listed):∀ oj,ops[j]?=some oj→∀ e ∈ oj.after,Region.binds md e=true→e.on≠i:=by
 intro oj hoj e he hb heq;obtain⟨_,oj',hoj',hall⟩:=mem_ready.1 hj;rw [hoj] at hoj';injection hoj' with hoj';subst hoj';have h1:=hall e he hb;have h0:=(mem_ready.1 hi).1;rw [heq] at h1;rcases Nat.lt_or_ge i listed.size with h' | h'
 · simp [h'] at h0 h1;rw [h0] at h1;cases h1
 · simp [Array.getElem?_eq_none h'] at h1
theorem anyU_first {i:Nat} {oi:Oper} {v:Value} (hi:ops[i]?=some oi) (hsel:∀ (j:Nat) (o:Oper) cs b,ops[j]?=some o→o.op≠.select cs b) (hd:Waits md ops d i)
  (hQ:∀ c a w,Q (.panic c) (a.put oi.dst v) w→Q (.panic c) a w) :
  ∀ (n:Nat) (listed:Array Bool) (a:Act) (w:World),
   (∀ j oj,ops[j]?=some oj→j≠i→listed.getD j true=false→(∀ e ∈ oj.after,Region.binds md e=true→e.on≠i)→oi.apart ops oj=true) →
   i ∈ Region.ready md ops listed→YieldsIf P ops S oi v a→S w →
   AnyU P md ops Q S d n (listed.setIfInBounds i true) (a.put oi.dst v) w→AnyU P md ops Q S d (n+1) listed a w:=by
 intro n;induction n with
 | zero =>
  intro listed a w _ hr hy hS H;refine⟨fun h=>(by rw [h] at hr;cases hr),fun j hj=>?_⟩
  by_cases e:j=i
  · subst e;exact hy.wpOp hi hS ⟨fun _=>hS,H⟩
  · have hm:=ready_mono hj e;rw [H.1] at hm;cases hm
 | succ n ih =>
  intro listed a w hfree hr hy hS H;refine⟨fun h=>(by rw [h] at hr;cases hr),fun j hj=>?_⟩
  by_cases e:j=i
  · subst e;exact hy.wpOp hi hS ⟨fun _=>hS,H⟩
  · have h1:=H.2 j (ready_mono hj e);obtain⟨hun,oj,hoj,_⟩:=mem_ready.1 hj;have hnot:=ready_waits hr hj oj hoj
    have hjd:j≠d:=fun ejd=>by
     subst ejd;obtain⟨x,hx,hb,hon⟩:=hd oj hoj;exact hnot x hx hb hon
    have h2:=wpOp_putIf hoj (hfree j oj hoj e hun hnot) (fun cs b=>hsel i oi cs b hi) (fun cs b=>hsel j oj cs b hoj) hQ hy h1;refine wpOp_mono (fun a' w' h3=>⟨fun _=>h3.2.1 hjd,ih (listed.setIfInBounds j true) a' w' (fun k ok hk hki hku hno=>?_) (ready_mono hr (Ne.symm e)) h3.1 (h3.2.1 hjd) ?_⟩) h2
    · refine hfree k ok hk hki ?_ hno
      by_cases ejk:j=k
      · subst ejk;exact hun
      · rw [getD_set_ne true ejk] at hku;exact hku
    · rw [Array.setIfInBounds_comm _ _ e];exact h3.2.2
def ZbF (md:Region.Mode) (ops:Array Oper) (d i:Nat):Bool:=match ops[d]? with
 | some od=>od.after.any fun e=>Region.binds md e&&e.on == i
 | none=>true
theorem waits_of {i:Nat} (h:ZbF md ops d i=true):Waits md ops d i:=by
 intro od hod;unfold ZbF at h;rw [hod] at h;obtain⟨e,he,hb⟩:=Array.any_eq_true'.1 h;simp only [Bool.and_eq_true,beq_iff_eq] at hb;exact⟨e,he,hb.1,hb.2⟩
theorem anyU_take {i:Nat} {oi:Oper} {v:Value} {n:Nat} {listed:Array Bool} {a:Act} {w:World} (hi:ops[i]?=some oi) (hs:Region.noSelect ops=true) (hf:Region.free md ops listed i=true)
  (hr:(Region.ready md ops listed).contains i=true) (hd:ZbF md ops d i=true) (hQ:∀ c a w,Q (.panic c) (a.put oi.dst v) w→Q (.panic c) a w) (hy:YieldsIf P ops S oi v a) (hS:S w)
  (h:AnyU P md ops Q S d n (listed.setIfInBounds i true) (a.put oi.dst v) w):AnyU P md ops Q S d (n+1) listed a w :=
 anyU_first hi (Region.noSelect_spec hs) (waits_of hd) hQ n listed a w (Region.free_spec hi hf) (by simpa using hr) hy hS h
theorem anyU_one {i:Nat} {o:Oper} {n:Nat} {listed:Array Bool} {a:Act} {w:World} (hi:ops[i]?=some o) (hr:Region.ready md ops listed=[i])
  (h:∀ K:Act→World→Prop,(∀ a' w',(i≠d→S w')→AnyU P md ops Q S d n (listed.setIfInBounds i true) a' w'→K a' w')→if Region.wanted o (yielded ops a.tmps)=true then Oper.wp P o a w K Q else K (a.put o.dst undef) w) :
  AnyU P md ops Q S d (n+1) listed a w:=by
 refine⟨(fun h0=>by rw [hr] at h0;cases h0),fun j hj=>?_⟩;rw [hr] at hj;have ej:=List.mem_singleton.1 hj;subst ej;exact wpOp_step hi (fun K hK=>h K fun a' w' h1 h2=>hK a' w' ⟨h1,h2⟩)
theorem anyU_done {listed:Array Bool} {a:Act} {w:World} (hr:Region.ready md ops listed=[]) (h:Q .normal a w):AnyU P md ops Q S d 0 listed a w:=⟨hr,h⟩
theorem region_until {id:Nat} {a:Act} {w:World} (S:World→Prop) (d:Nat) (hm:P.follows .mixedOrders=true)
  (h:AnyU P .any ops Q S d ops.size (Array.replicate ops.size false) a w.drew):(Code.region id ops true).wp P Q a w :=
 wp_region_any hm (Zfk _ _ _ _ h)
end
theorem hideQ {P:Program} {c:Code} {Q:Exit→Act→World→Prop} {a:Act} {w:World} (hp:∀ c a d v w,Q (.panic c) (Act.put a d v) w→Q (.panic c) a w) (h:∀ Q',Hid (Q'=Q)→Hid (∀ c a d v w,Q' (.panic c) (Act.put a d v) w→Q' (.panic c) a w)→c.wp P Q' a w):c.wp P Q a w:=h Q (hI rfl) (hI hp)
theorem anyT_take {P:Program} {ops:Array Oper} {Q:Exit→Act→World→Prop} {md:Region.Mode} {S:World→Prop} {d i:Nat} {oi:Oper} {v:Value} {n:Nat} {listed L':Array Bool} {a:Act} {w:World} {t:Tmp} (hi:ops[i]?=some oi) (ht:oi.dst=some t) (hL:listed.setIfInBounds i true=L') (hs:Region.noSelect ops=true) (hf:Region.free md ops listed i=true)
  (hr:(Region.ready md ops listed).contains i=true) (hd:ZbF md ops d i=true) (hQ:∀ c a d v w,Q (.panic c) (Act.put a d v) w→Q (.panic c) a w) (hy:YieldsIf P ops S oi v a) (hS:S w)
  (h:AnyU P md ops Q S d n L' ⟨a.tmps.setIfInBounds t v,a.defers⟩ w):AnyU P md ops Q S d (n+1) listed a w :=
 anyU_take hi hs hf hr hd (fun c a w h=>hQ c a _ _ w h) hy hS (by rw [hL,ht];exact h)
theorem anyT_one {P:Program} {ops:Array Oper} {Q:Exit→Act→World→Prop} {md:Region.Mode} {S:World→Prop} {d i:Nat} {o:Oper} {n:Nat} {listed L':Array Bool} {a:Act} {w:World} (hi:ops[i]?=some o) (hL:listed.setIfInBounds i true=L') (hr:Region.ready md ops listed=[i])
  (h:∀ K:Act→World→Prop,(∀ a' w',(i≠d→S w')→AnyU P md ops Q S d n L' a' w'→K a' w')→if Region.wanted o (yielded ops a.tmps)=true then Oper.wp P o a w K Q else K (a.put o.dst undef) w) :
  AnyU P md ops Q S d (n+1) listed a w :=
 anyU_one hi hr (by rw [hL];exact h)
theorem regionT_until {P:Program} {ops:Array Oper} {Q:Exit→Act→World→Prop} {id:Nat} {a:Act} {w:World} (S:World→Prop) (d n:Nat) (L:Array Bool) (hm:P.follows .mixedOrders=true) (hn:ops.size=n) (hL:Array.replicate ops.size false=L)
  (h:AnyU P .any ops Q S d n L a w.drew):(Code.region id ops true).wp P Q a w :=
 region_until S d hm (by rw [hL,hn];exact h)
def bA (n k:Nat):Array Bool:=((List.range n).map fun i=>k.testBit i).toArray
theorem psA {α:Type} {l:List α} {i:Nat} {a:α}:l.toArray.setIfInBounds i a=(l.set i a).toArray:=List.setIfInBounds_toArray ..
theorem psB {α:Type} {x a:α} {l:List α}:(x :: l).set 0 a=a :: l:=List.set_cons_zero
theorem psC {α:Type} {x a:α} {l:List α} {i:Nat}:(x :: l).set (i+1) a=x :: l.set i a:=List.set_cons_succ
theorem tk {P:Program} {ops:Array Oper} {Q:Exit→Act→World→Prop} {md:Region.Mode} {S:World→Prop} {d n:Nat} {listed:Array Bool} {a:Act} {w:World} (i:Nat) (t:Tmp) (L':Array Bool) (v:Value) {o1 o2 o3 o4 o5} (hi:ops[i]?=some ⟨some t,o1,o2,o3,o4,o5⟩) (hL:listed.setIfInBounds i true=L')
  (hc:(Region.noSelect ops&&Region.free md ops listed i&&(Region.ready md ops listed).contains i&&ZbF md ops d i)=true) (hQ:∀ c a d v w,Q (.panic c) (Act.put a d v) w→Q (.panic c) a w)
  (hw:Region.wanted ⟨some t,o1,o2,o3,o4,o5⟩ (yielded ops a.tmps)=true) (hy:∀ w,S w→(execOp a.eval ⟨some t,o1,o2,o3,o4,o5⟩).run P w=.ok (.value v) w) (hS:S w) (h:AnyU P md ops Q S d n L' ⟨a.tmps.setIfInBounds t v,a.defers⟩ w):AnyU P md ops Q S d (n+1) listed a w:=by
 simp only [Bool.and_eq_true] at hc;exact anyT_take hi rfl hL hc.1.1.1 hc.1.1.2 hc.1.2 hc.2 hQ (Or.inl ⟨hw,hy⟩) hS h
theorem tJ {P:Program} {ops:Array Oper} {Q:Exit→Act→World→Prop} {md:Region.Mode} {S:World→Prop} {d n:Nat} {listed:Array Bool} {a:Act} {w:World} (i:Nat) (t:Tmp) (L':Array Bool) {v:Value} {T':Array Value} {o1 o2 o3 o4 o5} (hQ:∀ c a d v w,Q (.panic c) (Act.put a d v) w→Q (.panic c) a w) (hS:S w) (h:AnyU P md ops Q S d n L' ⟨T',a.defers⟩ w) (hi:ops[i]?=some ⟨some t,o1,o2,o3,o4,o5⟩:=by rfl) (hL:listed.setIfInBounds i true=L':=by kernel_rfl) (hc:(Region.noSelect ops&&Region.free md ops listed i&&(Region.ready md ops listed).contains i&&ZbF md ops d i)=true:=by kernel_rfl) (hw:Region.wanted ⟨some t,o1,o2,o3,o4,o5⟩ (yielded ops a.tmps)=true:=by rfl) (hy:∀ w,S w→(execOp a.eval ⟨some t,o1,o2,o3,o4,o5⟩).run P w=.ok (.value v) w:=by intro w' hSw;(try dsimp only at hSw);go_simp;(try with_reducible rfl)) (hT:a.tmps.setIfInBounds t v=T':=by (simp only [psA,psB,psC])<;>rfl):AnyU P md ops Q S d (n+1) listed a w:=tk i t L' v hi hL hc hQ hw hy hS (by rw [hT];exact h)
theorem tK {P:Program} {ops:Array Oper} {Q:Exit→Act→World→Prop} {md:Region.Mode} {S:World→Prop} {d n:Nat} {listed:Array Bool} {a:Act} {w:World} (i:Nat) (t:Tmp) (L':Array Bool) {T':Array Value} {o1 o2 o3 o4 o5} (hQ:∀ c a d v w,Q (.panic c) (Act.put a d v) w→Q (.panic c) a w) (hS:S w) (h:AnyU P md ops Q S d n L' ⟨T',a.defers⟩ w) (hi:ops[i]?=some ⟨some t,o1,o2,o3,o4,o5⟩:=by rfl) (hL:listed.setIfInBounds i true=L':=by kernel_rfl) (hc:(Region.noSelect ops&&Region.free md ops listed i&&(Region.ready md ops listed).contains i&&ZbF md ops d i)=true:=by kernel_rfl) (hw:Region.wanted ⟨some t,o1,o2,o3,o4,o5⟩ (yielded ops a.tmps)=false:=by rfl) (hT:a.tmps.setIfInBounds t undef=T':=by (simp only [psA,psB,psC])<;>rfl):AnyU P md ops Q S d (n+1) listed a w:=by
 simp only [Bool.and_eq_true] at hc
 exact anyT_take hi rfl hL hc.1.1.1 hc.1.1.2 hc.1.2 hc.2 hQ (Or.inr ⟨hw,rfl⟩) hS (by rw [hT];exact h)
theorem tQ {P:Program} {ops:Array Oper} {Q:Exit→Act→World→Prop} {md:Region.Mode} {S:World→Prop} {d n:Nat} {listed:Array Bool} {a:Act} {w:World} (i:Nat) (t:Option Tmp) (L':Array Bool) {o1 o2 o3 o4 o5} (h:∀ K:Act→World→Prop,RowKit.Hid (∀ a' w',(i≠d→S w')→AnyU P md ops Q S d n L' a' w'→K a' w')→if Region.wanted ⟨t,o1,o2,o3,o4,o5⟩ (yielded ops a.tmps)=true then Oper.wp P ⟨t,o1,o2,o3,o4,o5⟩ a w K Q else K (a.put t undef) w) (hi:ops[i]?=some ⟨t,o1,o2,o3,o4,o5⟩:=by rfl) (hL:listed.setIfInBounds i true=L':=by kernel_rfl) (hr:Region.ready md ops listed=[i]:=by kernel_rfl):AnyU P md ops Q S d (n+1) listed a w:=anyT_one hi hL hr (fun K hK=>h K hK)
theorem tW {P:Program} {ops:Array Oper} {Q:Exit→Act→World→Prop} {md:Region.Mode} {S:World→Prop} {d n:Nat} {listed:Array Bool} {a:Act} {w:World} (i0 t0:Nat) (i1 t1:Nat) (L':Array Bool) {v0 v1:Value} {T1 T2:Array Value} {o01 o02 o03 o04 o05} {o11 o12 o13 o14 o15} (hQ:∀ c a d v w,Q (.panic c) (Act.put a d v) w→Q (.panic c) a w) (hS:S w) (h:AnyU P md ops Q S d n L' ⟨T2,a.defers⟩ w) (hi0:ops[i0]?=some ⟨some t0,o01,o02,o03,o04,o05⟩:=by rfl) (hc0:(Region.noSelect ops&&Region.free md ops listed i0&&(Region.ready md ops listed).contains i0&&ZbF md ops d i0)=true:=by kernel_rfl) (hw0:Region.wanted ⟨some t0,o01,o02,o03,o04,o05⟩ (yielded ops a.tmps)=true:=by rfl) (hy0:∀ w,S w→(execOp a.eval ⟨some t0,o01,o02,o03,o04,o05⟩).run P w=.ok (.value v0) w:=by intro w' hSw;(try dsimp only at hSw);go_simp;(try with_reducible rfl)) (hT0:a.tmps.setIfInBounds t0 v0=T1:=by (simp only [psA,psB,psC])<;>rfl) (hi1:ops[i1]?=some ⟨some t1,o11,o12,o13,o14,o15⟩:=by rfl) (hL:(listed.setIfInBounds i0 true).setIfInBounds i1 true=L':=by kernel_rfl) (hc1:(Region.noSelect ops&&Region.free md ops (listed.setIfInBounds i0 true) i1&&(Region.ready md ops (listed.setIfInBounds i0 true)).contains i1&&ZbF md ops d i1)=true:=by kernel_rfl) (hw1:Region.wanted ⟨some t1,o11,o12,o13,o14,o15⟩ (yielded ops (⟨T1,a.defers⟩:Act).tmps)=true:=by rfl) (hy1:∀ w,S w→(execOp (⟨T1,a.defers⟩:Act).eval ⟨some t1,o11,o12,o13,o14,o15⟩).run P w=.ok (.value v1) w:=by intro w' hSw;(try dsimp only at hSw);go_simp;(try with_reducible rfl)) (hT1:(⟨T1,a.defers⟩:Act).tmps.setIfInBounds t1 v1=T2:=by (simp only [psA,psB,psC])<;>rfl):AnyU P md ops Q S d (n+2) listed a w:=tk i0 t0 (listed.setIfInBounds i0 true) v0 hi0 rfl hc0 hQ hw0 hy0 hS (by rw [hT0];exact tk i1 t1 L' v1 hi1 hL hc1 hQ hw1 hy1 hS (by rw [hT1];exact h))
theorem tX {P:Program} {ops:Array Oper} {Q:Exit→Act→World→Prop} {md:Region.Mode} {S:World→Prop} {d n:Nat} {listed:Array Bool} {a:Act} {w:World} (i0 t0:Nat) (i1 t1:Nat) (i2 t2:Nat) (i3 t3:Nat) (L':Array Bool) {v0 v1 v2 v3:Value} {T1 T2 T3 T4:Array Value} {o01 o02 o03 o04 o05} {o11 o12 o13 o14 o15} {o21 o22 o23 o24 o25} {o31 o32 o33 o34 o35} (hQ:∀ c a d v w,Q (.panic c) (Act.put a d v) w→Q (.panic c) a w) (hS:S w) (h:AnyU P md ops Q S d n L' ⟨T4,a.defers⟩ w) (hi0:ops[i0]?=some ⟨some t0,o01,o02,o03,o04,o05⟩:=by rfl) (hc0:(Region.noSelect ops&&Region.free md ops listed i0&&(Region.ready md ops listed).contains i0&&ZbF md ops d i0)=true:=by kernel_rfl) (hw0:Region.wanted ⟨some t0,o01,o02,o03,o04,o05⟩ (yielded ops a.tmps)=true:=by rfl) (hy0:∀ w,S w→(execOp a.eval ⟨some t0,o01,o02,o03,o04,o05⟩).run P w=.ok (.value v0) w:=by intro w' hSw;(try dsimp only at hSw);go_simp;(try with_reducible rfl)) (hT0:a.tmps.setIfInBounds t0 v0=T1:=by (simp only [psA,psB,psC])<;>rfl) (hi1:ops[i1]?=some ⟨some t1,o11,o12,o13,o14,o15⟩:=by rfl) (hc1:(Region.noSelect ops&&Region.free md ops (listed.setIfInBounds i0 true) i1&&(Region.ready md ops (listed.setIfInBounds i0 true)).contains i1&&ZbF md ops d i1)=true:=by kernel_rfl) (hw1:Region.wanted ⟨some t1,o11,o12,o13,o14,o15⟩ (yielded ops (⟨T1,a.defers⟩:Act).tmps)=true:=by rfl) (hy1:∀ w,S w→(execOp (⟨T1,a.defers⟩:Act).eval ⟨some t1,o11,o12,o13,o14,o15⟩).run P w=.ok (.value v1) w:=by intro w' hSw;(try dsimp only at hSw);go_simp;(try with_reducible rfl)) (hT1:(⟨T1,a.defers⟩:Act).tmps.setIfInBounds t1 v1=T2:=by (simp only [psA,psB,psC])<;>rfl) (hi2:ops[i2]?=some ⟨some t2,o21,o22,o23,o24,o25⟩:=by rfl) (hc2:(Region.noSelect ops&&Region.free md ops ((listed.setIfInBounds i0 true).setIfInBounds i1 true) i2&&(Region.ready md ops ((listed.setIfInBounds i0 true).setIfInBounds i1 true)).contains i2&&ZbF md ops d i2)=true:=by kernel_rfl) (hw2:Region.wanted ⟨some t2,o21,o22,o23,o24,o25⟩ (yielded ops (⟨T2,a.defers⟩:Act).tmps)=true:=by rfl) (hy2:∀ w,S w→(execOp (⟨T2,a.defers⟩:Act).eval ⟨some t2,o21,o22,o23,o24,o25⟩).run P w=.ok (.value v2) w:=by intro w' hSw;(try dsimp only at hSw);go_simp;(try with_reducible rfl)) (hT2:(⟨T2,a.defers⟩:Act).tmps.setIfInBounds t2 v2=T3:=by (simp only [psA,psB,psC])<;>rfl) (hi3:ops[i3]?=some ⟨some t3,o31,o32,o33,o34,o35⟩:=by rfl) (hL:(((listed.setIfInBounds i0 true).setIfInBounds i1 true).setIfInBounds i2 true).setIfInBounds i3 true=L':=by kernel_rfl) (hc3:(Region.noSelect ops&&Region.free md ops (((listed.setIfInBounds i0 true).setIfInBounds i1 true).setIfInBounds i2 true) i3&&(Region.ready md ops (((listed.setIfInBounds i0 true).setIfInBounds i1 true).setIfInBounds i2 true)).contains i3&&ZbF md ops d i3)=true:=by kernel_rfl) (hw3:Region.wanted ⟨some t3,o31,o32,o33,o34,o35⟩ (yielded ops (⟨T3,a.defers⟩:Act).tmps)=true:=by rfl) (hy3:∀ w,S w→(execOp (⟨T3,a.defers⟩:Act).eval ⟨some t3,o31,o32,o33,o34,o35⟩).run P w=.ok (.value v3) w:=by intro w' hSw;(try dsimp only at hSw);go_simp;(try with_reducible rfl)) (hT3:(⟨T3,a.defers⟩:Act).tmps.setIfInBounds t3 v3=T4:=by (simp only [psA,psB,psC])<;>rfl):AnyU P md ops Q S d (n+4) listed a w:=tk i0 t0 (listed.setIfInBounds i0 true) v0 hi0 rfl hc0 hQ hw0 hy0 hS (by rw [hT0];exact tk i1 t1 ((listed.setIfInBounds i0 true).setIfInBounds i1 true) v1 hi1 rfl hc1 hQ hw1 hy1 hS (by rw [hT1];exact tk i2 t2 (((listed.setIfInBounds i0 true).setIfInBounds i1 true).setIfInBounds i2 true) v2 hi2 rfl hc2 hQ hw2 hy2 hS (by rw [hT2];exact tk i3 t3 L' v3 hi3 hL hc3 hQ hw3 hy3 hS (by rw [hT3];exact h))))
theorem tS {P:Program} {ops:Array Oper} {Q:Exit→Act→World→Prop} {id:Nat} {a:Act} {w:World} (S:World→Prop) (d n:Nat) (h:∀ Q',Hid (Q'=Q)→Hid (∀ c a d v w,Q' (.panic c) (Act.put a d v) w→Q' (.panic c) a w)→AnyU P .any ops Q' S d n (bA n 0) a w.drew) (hp:∀ c a d v w,Q (.panic c) (Act.put a d v) w→Q (.panic c) a w:=by (intro c a d v w h;cases d<;>exact h)) (hm:P.follows .mixedOrders=true:=by kernel_rfl) (hn:ops.size=n:=by kernel_rfl) (hL:Array.replicate ops.size false=bA n 0:=by kernel_rfl):(Code.region id ops true).wp P Q a w:=hideQ hp (fun Q' HQ HP=>regionT_until S d n _ hm hn hL (h Q' HQ HP))
theorem tE {P:Program} {ops:Array Oper} {Q Q':Exit→Act→World→Prop} {md:Region.Mode} {S:World→Prop} {d:Nat} {listed:Array Bool} {a:Act} {w:World} (HQ:Hid (Q'=Q)) (h:Q .normal a w) (hr:Region.ready md ops listed=[]:=by kernel_rfl):AnyU P md ops Q' S d 0 listed a w:=anyU_done hr (by rw [HQ.out];exact h)
where
 rows_wide {l n:Nat} {P:Program} {row:String} {args:Array Value} {w:World} {R:Value→World→Prop} (h:Rows P row args w R):RowsIn (Fence.wide.inRound l) n P row args w R :=
  fun c cs _=>let ⟨v,w',r,s⟩:=h c cs;⟨v,w',r,stepsIn_wide.2 s⟩
end Go.Proofs.Ytkpjjfhfbpfjpaa
