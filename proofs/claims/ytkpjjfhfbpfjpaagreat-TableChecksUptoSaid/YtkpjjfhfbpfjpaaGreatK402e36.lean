import Derived.Test.YtkpjjfhfbpfjpaaGreatKbd4fc8
set_option linter.unusedVariables false
set_option linter.unusedSimpArgs false
set_option maxRecDepth 100000
set_option maxHeartbeats 8000000
namespace Go.Proofs.YtkpjjfhfbpfjpaaGreat
open Go Go.RowKit
section
variable {P:Program} {ops:Array Oper} {Q:Exit→Act→World→Prop} {md:Region.Mode} {S:World→Prop} {d:Nat}
def AnyL (P:Program) (md:Region.Mode) (ops:Array Oper) (Q:Exit→Act→World→Prop) (S:World→Prop) (d:Nat):Nat→Array Bool→Act→World→Prop
 | 0,listed,a,w=>Region.ready md ops listed=[]∧Q .normal a w
 | n+1,listed,a,w=>(Region.ready md ops listed=[]→Q .normal a w) ∧
  ∀ i ∈ Region.ready md ops listed,wpOp P ops Q i (fun a' w'=>(i<d→S w')∧AnyL P md ops Q S d n (listed.setIfInBounds i true) a' w') a w
theorem Zhg:∀ (n:Nat) (listed:Array Bool) (a:Act) (w:World),AnyL P md ops Q S d n listed a w→wpAny P md ops Q n listed a w
 | 0,_,_,_,h=>h
 | n+1,_,_,_,h=>⟨h.1,fun i hi=>wpOp_mono (fun a' w' h'=>Zhg n _ a' w' h'.2) (h.2 i hi)⟩
theorem anyL_first {i:Nat} {oi:Oper} {v:Value} (hi:ops[i]?=some oi) (hsel:∀ (j:Nat) (o:Oper) cs b,ops[j]?=some o→o.op≠.select cs b) (hd:∀ j,d≤j→j<ops.size→Waits md ops j i)
  (hQ:∀ c a w,Q (.panic c) (a.put oi.dst v) w→Q (.panic c) a w) :
  ∀ (n:Nat) (listed:Array Bool) (a:Act) (w:World),
   (∀ j oj,ops[j]?=some oj→j≠i→listed.getD j true=false→(∀ e ∈ oj.after,Region.binds md e=true→e.on≠i)→oi.apart ops oj=true) →
   i ∈ Region.ready md ops listed→YieldsIf P ops S oi v a→S w →
   AnyL P md ops Q S d n (listed.setIfInBounds i true) (a.put oi.dst v) w→AnyL P md ops Q S d (n+1) listed a w:=by
 intro n;induction n with
 | zero =>
  intro listed a w _ hr hy hS H;refine⟨fun h=>(by rw [h] at hr;cases hr),fun j hj=>?_⟩
  by_cases e:j=i
  · subst e;exact hy.wpOp hi hS ⟨fun _=>hS,H⟩
  · have hm:=ready_mono hj e;rw [H.1] at hm;cases hm
 | succ n ih =>
  intro listed a w hfree hr hy hS H;refine⟨fun h=>(by rw [h] at hr;cases hr),fun j hj=>?_⟩
  by_cases e:j=i
  · subst e;exact hy.wpOp hi hS ⟨fun _=>hS,H⟩
  · have h1:=H.2 j (ready_mono hj e);obtain⟨hun,oj,hoj,_⟩:=mem_ready.1 hj;have hnot:=ZeV hr hj oj hoj
    have hjd:j<d:=Nat.lt_of_not_le fun hge=>by
     obtain⟨x,hx,hb,hon⟩:=hd j hge (Array.getElem?_eq_some_iff.1 hoj).1 oj hoj;exact hnot x hx hb hon
    have h2:=wpOp_putIf hoj (hfree j oj hoj e hun hnot) (fun cs b=>hsel i oi cs b hi) (fun cs b=>hsel j oj cs b hoj) hQ hy h1;refine wpOp_mono (fun a' w' h3=>⟨fun _=>h3.2.1 hjd,ih (listed.setIfInBounds j true) a' w' (fun k ok hk hki hku hno=>?_) (ready_mono hr (Ne.symm e)) h3.1 (h3.2.1 hjd) ?_⟩) h2
    · refine hfree k ok hk hki ?_ hno
      by_cases ejk:j=k
      · subst ejk;exact hun
      · rw [getD_set_ne true ejk] at hku;exact hku
    · rw [Array.setIfInBounds_comm _ _ e];exact h3.2.2
def waitsL (md:Region.Mode) (ops:Array Oper) (d i:Nat):Bool:=(List.range ops.size).all fun j=>decide (j<d)||Zcx md ops j i
theorem waitsL_of {i:Nat} (h:waitsL md ops d i=true):∀ j,d≤j→j<ops.size→Waits md ops j i:=fun j h1 h2=>by
 have h3:=List.all_eq_true.1 h j (List.mem_range.2 h2);simp only [Bool.or_eq_true,decide_eq_true_eq] at h3;exact ZgK (h3.resolve_left (by omega))
theorem ZgC {listed:Array Bool} {a:Act} {w:World} (hr:Region.ready md ops listed=[]) (h:Q .normal a w):AnyL P md ops Q S d 0 listed a w:=⟨hr,h⟩
end
theorem ZaU {P:Program} {ops:Array Oper} {Q:Exit→Act→World→Prop} {md:Region.Mode} {S:World→Prop} {d i:Nat} {oi:Oper} {v:Value} {n:Nat} {listed L':Array Bool} {a:Act} {w:World} {t:Tmp} (hi:ops[i]?=some oi) (ht:oi.dst=some t) (hL:listed.setIfInBounds i true=L') (hs:Region.noSelect ops=true) (hf:Region.free md ops listed i=true)
  (hr:(Region.ready md ops listed).contains i=true) (hd:waitsL md ops d i=true) (hQ:∀ c a d v w,Q (.panic c) (Act.put a d v) w→Q (.panic c) a w) (hy:YieldsIf P ops S oi v a) (hS:S w)
  (h:AnyL P md ops Q S d n L' ⟨a.tmps.setIfInBounds t v,a.defers⟩ w):AnyL P md ops Q S d (n+1) listed a w :=
 anyL_first hi (Region.noSelect_spec hs) (waitsL_of hd) (fun c a w h=>hQ c a _ _ w h) n listed a w (Region.free_spec hi hf) (by simpa using hr) hy hS (by rw [hL,ht];exact h)
theorem ZbX {P:Program} {ops:Array Oper} {Q:Exit→Act→World→Prop} {md:Region.Mode} {S:World→Prop} {d i:Nat} {o:Oper} {n:Nat} {listed L':Array Bool} {a:Act} {w:World} (hi:ops[i]?=some o) (hL:listed.setIfInBounds i true=L') (hr:Region.ready md ops listed=[i])
  (h:∀ K:Act→World→Prop,(∀ a' w',(i<d→S w')→AnyL P md ops Q S d n L' a' w'→K a' w')→if Region.wanted o (yielded ops a.tmps)=true then Oper.wp P o a w K Q else K (a.put o.dst undef) w) :
  AnyL P md ops Q S d (n+1) listed a w:=by
 subst hL;refine⟨(fun h0=>by rw [hr] at h0;cases h0),fun j hj=>?_⟩;rw [hr] at hj;have ej:=List.mem_singleton.1 hj;subst ej;exact wpOp_step hi (fun K hK=>h K fun a' w' h1 h2=>hK a' w' ⟨h1,h2⟩)
theorem ZdH {P:Program} {ops:Array Oper} {Q:Exit→Act→World→Prop} {id:Nat} {a:Act} {w:World} (S:World→Prop) (d n:Nat) (L:Array Bool) (hm:P.follows .mixedOrders=true) (hn:ops.size=n) (hL:Array.replicate ops.size false=L)
  (h:AnyL P .any ops Q S d n L a w.drew):(Code.region id ops true).wp P Q a w:=by
 subst hn hL;exact wp_region_any hm (Zhg _ _ _ _ h)
end Go.Proofs.YtkpjjfhfbpfjpaaGreat
