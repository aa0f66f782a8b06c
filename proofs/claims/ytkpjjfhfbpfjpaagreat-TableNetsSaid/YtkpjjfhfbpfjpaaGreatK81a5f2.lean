import Derived.Test.YtkpjjfhfbpfjpaaGreatKbd4fc8
import Derived.Test.YtkpjjfhfbpfjpaaGreatK3ba747
import Derived.Test.YtkpjjfhfbpfjpaaGreatK0b0f65
import Derived.Test.YtkpjjfhfbpfjpaaGreatK879bd8
import Derived.Test.YtkpjjfhfbpfjpaaGreatKf7d106
set_option linter.unusedVariables false
set_option linter.unusedSimpArgs false
set_option maxRecDepth 100000
set_option maxHeartbeats 8000000
namespace Go.Proofs.YtkpjjfhfbpfjpaaGreat
open Go Go.RowKit
section
variable {P:Program} {ops:Array Oper} {Q:Exit→Act→World→Prop} {md:Region.Mode} {S:World→Prop} {d:Nat}
def AnyL (P:Program) (md:Region.Mode) (ops:Array Oper) (Q:Exit→Act→World→Prop) (S:World→Prop) (d:Nat):Nat→Array Bool→Act→World→Prop
 | 0,listed,a,w=>Region.ready md ops listed=[]∧Q .normal a w
 | n+1,listed,a,w=>(Region.ready md ops listed=[]→Q .normal a w) ∧
  ∀ i ∈ Region.ready md ops listed,wpOp P ops Q i (fun a' w'=>(i<d→S w')∧AnyL P md ops Q S d n (listed.setIfInBounds i true) a' w') a w
theorem anyL_any:∀ (n:Nat) (listed:Array Bool) (a:Act) (w:World),AnyL P md ops Q S d n listed a w→wpAny P md ops Q n listed a w
 | 0,_,_,_,h=>h
 | n+1,_,_,_,h=>⟨h.1,fun i hi=>wpOp_mono (fun a' w' h'=>anyL_any n _ a' w' h'.2) (h.2 i hi)⟩
theorem anyL_first {i:Nat} {oi:Oper} {v:Value} (hi:ops[i]?=some oi) (hsel:∀ (j:Nat) (o:Oper) cs b,ops[j]?=some o→o.op≠.select cs b) (hd:∀ j,d≤j→j<ops.size→Waits md ops j i)
  (hQ:∀ c a w,Q (.panic c) (a.put oi.dst v) w→Q (.panic c) a w) :
  ∀ (n:Nat) (listed:Array Bool) (a:Act) (w:World),
   (∀ j oj,ops[j]?=some oj→j≠i→listed.getD j true=false→(∀ e ∈ oj.after,Region.binds md e=true→e.on≠i)→oi.apart ops oj=true) →
   i ∈ Region.ready md ops listed→YieldsIf P ops S oi v a→S w →
   AnyL P md ops Q S d n (listed.setIfInBounds i true) (a.put oi.dst v) w→AnyL P md ops Q S d (n+1) listed a w:=by
 intro n;induction n with
 | zero =>
  intro listed a w _ hr hy hS H;refine⟨fun h=>(by rw [h] at hr;cases hr),fun j hj=>?_⟩
  by_cases e:j=i
  · subst e;exact hy.wpOp hi hS ⟨fun _=>hS,H⟩
  · have hm:=ready_mono hj e;rw [H.1] at hm;cases hm
 | succ n ih =>
  intro listed a w hfree hr hy hS H;refine⟨fun h=>(by rw [h] at hr;cases hr),fun j hj=>?_⟩
  by_cases e:j=i
  · subst e;exact hy.wpOp hi hS ⟨fun _=>hS,H⟩
  · have h1:=H.2 j (ready_mono hj e);obtain⟨hun,oj,hoj,_⟩:=mem_ready.1 hj;have hnot:=ZfE hr hj oj hoj
    have hjd:j<d:=Nat.lt_of_not_le fun hge=>by
     obtain⟨x,hx,hb,hon⟩:=hd j hge (Array.getElem?_eq_some_iff.1 hoj).1 oj hoj;exact hnot x hx hb hon
    have h2:=wpOp_putIf hoj (hfree j oj hoj e hun hnot) (fun cs b=>hsel i oi cs b hi) (fun cs b=>hsel j oj cs b hoj) hQ hy h1;refine wpOp_mono (fun a' w' h3=>⟨fun _=>h3.2.1 hjd,ih (listed.setIfInBounds j true) a' w' (fun k ok hk hki hku hno=>?_) (ready_mono hr (Ne.symm e)) h3.1 (h3.2.1 hjd) ?_⟩) h2
    · refine hfree k ok hk hki ?_ hno
      by_cases ejk:j=k
      · subst ejk;exact hun
      · rw [getD_set_ne true ejk] at hku;exact hku
    · rw [Array.setIfInBounds_comm _ _ e];exact h3.2.2
def waitsL (md:Region.Mode) (ops:Array Oper) (d i:Nat):Bool:=(List.range ops.size).all fun j=>decide (j<d)||ZcO md ops j i
theorem waitsL_of {i:Nat} (h:waitsL md ops d i=true):∀ j,d≤j→j<ops.size→Waits md ops j i:=fun j h1 h2=>by
 have h3:=List.all_eq_true.1 h j (List.mem_range.2 h2);simp only [Bool.or_eq_true,decide_eq_true_eq] at h3;exact waits_of (h3.resolve_left (by omega))
theorem Zga {listed:Array Bool} {a:Act} {w:World} (hr:Region.ready md ops listed=[]) (h:Q .normal a w):AnyL P md ops Q S d 0 listed a w:=⟨hr,h⟩
end
theorem ZaG {P:Program} {ops:Array Oper} {Q:Exit→Act→World→Prop} {md:Region.Mode} {S:World→Prop} {d i:Nat} {oi:Oper} {v:Value} {n:Nat} {listed L':Array Bool} {a:Act} {w:World} {t:Tmp} (hi:ops[i]?=some oi) (ht:oi.dst=some t) (hL:listed.setIfInBounds i true=L') (hs:Region.noSelect ops=true) (hf:Region.free md ops listed i=true)
  (hr:(Region.ready md ops listed).contains i=true) (hd:waitsL md ops d i=true) (hQ:∀ c a d v w,Q (.panic c) (Act.put a d v) w→Q (.panic c) a w) (hy:YieldsIf P ops S oi v a) (hS:S w)
  (h:AnyL P md ops Q S d n L' ⟨a.tmps.setIfInBounds t v,a.defers⟩ w):AnyL P md ops Q S d (n+1) listed a w :=
 anyL_first hi (Region.noSelect_spec hs) (waitsL_of hd) (fun c a w h=>hQ c a _ _ w h) n listed a w (Region.free_spec hi hf) (by simpa using hr) hy hS (by rw [hL,ht];exact h)
theorem Zbv {P:Program} {ops:Array Oper} {Q:Exit→Act→World→Prop} {md:Region.Mode} {S:World→Prop} {d i:Nat} {o:Oper} {n:Nat} {listed L':Array Bool} {a:Act} {w:World} (hi:ops[i]?=some o) (hL:listed.setIfInBounds i true=L') (hr:Region.ready md ops listed=[i])
  (h:∀ K:Act→World→Prop,(∀ a' w',(i<d→S w')→AnyL P md ops Q S d n L' a' w'→K a' w')→if Region.wanted o (yielded ops a.tmps)=true then Oper.wp P o a w K Q else K (a.put o.dst undef) w) :
  AnyL P md ops Q S d (n+1) listed a w:=by
 subst hL;refine⟨(fun h0=>by rw [hr] at h0;cases h0),fun j hj=>?_⟩;rw [hr] at hj;have ej:=List.mem_singleton.1 hj;subst ej;exact wpOp_step hi (fun K hK=>h K fun a' w' h1 h2=>hK a' w' ⟨h1,h2⟩)
theorem Zdj {P:Program} {ops:Array Oper} {Q:Exit→Act→World→Prop} {id:Nat} {a:Act} {w:World} (S:World→Prop) (d n:Nat) (L:Array Bool) (hm:P.follows .mixedOrders=true) (hn:ops.size=n) (hL:Array.replicate ops.size false=L)
  (h:AnyL P .any ops Q S d n L a w.drew):(Code.region id ops true).wp P Q a w:=by
 subst hn hL;exact wp_region_any hm (anyL_any _ _ _ _ h)
def CnPost (w:World) (g:Nat) (e:Ending) (w':World):Prop:=∃ r:Int,e=.returned (.int .i64 r)∧CaseOk w' g∧w.grownBy w' (some g)
theorem Zbh (g:Nat) (w:World) (hc:CaseOk w g):Calls Tryz.prog 54 #[.pointer (some ⟨g,0,none⟩)] w (CnPost w g):=by
 go_enter Tryz.func54,Tryz.ntmps54
 go_wp2_with fail
 refine(Zas g 6 w (by omega) hc).mono ?_;rintro e w1 ⟨r,rfl,hr0,hr1,-,hc1,hg1,-⟩;have hr:=hr1 (by omega);have HC:=hI hc1;have HG:=hI hg1;clear hr1 hc1 hg1;have h6:r=0∨r=1∨r=2∨r=3∨r=4∨r=5:=(by omega);clear hr0 hr;rcases h6 with rfl | rfl | rfl | rfl | rfl | rfl
 · go_wp2_with fail
   go_ret;exact⟨_,rfl,HC.out,HG.out⟩
 · go_wp2_with fail
   go_ret;exact⟨_,rfl,HC.out,HG.out⟩
 · go_wp2_with fail
   go_ret;exact⟨_,rfl,HC.out,HG.out⟩
 · go_wp2_with fail
   refine(Zas g 3 w1 (by omega) HC.out).mono ?_;rintro e w2 ⟨q,rfl,-,-,-,hc2,hg2,-⟩;have HC2:=hI hc2;have HG2:=hI (HG.out.trans hg2);clear hc2 hg2
   go_wp2_with fail
   go_ret;exact⟨_,rfl,HC2.out,HG2.out⟩
 · go_wp2_with fail
   refine(Zas g 6 w1 (by omega) HC.out).mono ?_;rintro e w2 ⟨q,rfl,-,-,-,hc2,hg2,-⟩;have HC2:=hI hc2;have HG2:=hI (HG.out.trans hg2);clear hc2 hg2
   go_wp2_with fail
   go_ret;exact⟨_,rfl,HC2.out,HG2.out⟩
 · go_wp2_with fail
   refine(Zas g 6 w1 (by omega) HC.out).mono ?_;rintro e w2 ⟨q,rfl,-,-,-,hc2,hg2,-⟩;have HC2:=hI hc2;have HG2:=hI (HG.out.trans hg2);clear hc2 hg2
   go_wp2_with fail
   go_ret;exact⟨_,rfl,HC2.out,HG2.out⟩
theorem ZgN {w:World} {B:Nat}:RowN w B 0 (.slice none 0 0):=⟨#[],.inl ⟨rfl,rfl,rfl⟩,fun j hj=>by omega⟩
abbrev oChg (t:Int) (A:Option Addr) (n c:Nat) (B:Option Addr) (m d:Nat):Obj:=.cells #[.int .i64 t,.slice A n c,.slice B m d] 44
structure ScI (w wr:World) (g:Nat) (t:Int) (A:Option Addr) (n c:Nat) (B:Option Addr) (m d:Nat):Prop where
 xb:wr.heap[w.heap.size]?=some (oChg t A n c B m d)
 rb:wr.heap[w.heap.size+1]?=some (oChg 0 none 0 0 none 0 0)
 old:RowN wr (w.heap.size+2) n (.slice A n c)
 new:RowN wr (w.heap.size+2) m (.slice B m d)
 cs:CaseOk wr g
 gr:w.grownBy wr (some g)
 gl:g<w.heap.size
section
variable {w wr wx:World} {g n c m d n' c' m' d':Nat} {t t':Int} {A B A' B':Option Addr}
theorem RowN.keep {b k:Nat} {v:Value} (h:RowN wr b k v) (hk:∀ x,b≤x→x<wr.heap.size→wx.heap[x]?=wr.heap[x]?):RowN wx b k v:=LsH.stp h (stp_same hk) (fun _ _ j _ hr=>hr.1 rfl j)
theorem ScI.sz (h:ScI w wr g t A n c B m d):w.heap.size+1<wr.heap.size:=Zad h.rb
theorem ScI.calls (h:ScI w wr g t A n c B m d) (hg:wr.grownBy wx (some g)) (hc:CaseOk wx g):ScI w wx g t A n c B m d:=by
 have hz:=h.sz;have hgl:=h.gl;have hk:∀ b,b<wr.heap.size→b≠g→wx.heap[b]?=wr.heap[b]?:=fun b h1 h2=>hg.block b h1 (fun e=>by injection e with e;exact h2 e);exact⟨(hk _ (by omega) (by omega)).trans h.xb,(hk _ (by omega) (by omega)).trans h.rb,h.old.keep (fun x h1 h2=>hk x h2 (by omega)),h.new.keep (fun x h1 h2=>hk x h2 (by omega)),hc,h.gr.trans hg,hgl⟩
theorem ScI.put (h:ScI w wr g t A n c B m d) {k:Nat} {v:Value} (hb:Below (w.heap.size+2) wr wx) (hx:(wx.setCell ⟨w.heap.size,k,none⟩ v).heap[w.heap.size]?=some (oChg t' A' n' c' B' m' d')) (ho:RowN wx (w.heap.size+2) n' (.slice A' n' c')) (hn:RowN wx (w.heap.size+2) m' (.slice B' m' d')):ScI w (wx.setCell ⟨w.heap.size,k,none⟩ v) g t' A' n' c' B' m' d':=by
 have hz:=h.sz;have hgl:=h.gl;have hne:∀ b,b≠w.heap.size→(wx.setCell ⟨w.heap.size,k,none⟩ v).heap[b]?=wx.heap[b]?:=fun b hb'=>Below.heap_setCell wx ⟨w.heap.size,k,none⟩ v b hb';have h1:=h.gr;have hzb:=hb.size;refine⟨hx,(hne _ (by omega)).trans ((hb.block _ (by omega)).trans h.rb),ho.keep (fun x h1 _=>hne x (by omega)),hn.keep (fun x h1 _=>hne x (by omega)),h.cs.keep (fun b hb'=>(hne b (by omega)).trans (hb.block b (by omega))),⟨hb.os.trans h1.os,hb.tape.trans h1.tape,hb.output.trans h1.output,by simp;omega,fun b hb1 hb2=>(hne b (by omega)).trans ((hb.block b (by omega)).trans (h1.block b hb1 hb2))⟩,hgl⟩
theorem ScI.box (h:ScI w wr g t A n c B m d):wr.heap[w.heap.size]?=some (.cells [.int .i64 t,.slice A n c,.slice B m d].toArray 44 (0,0)):=h.xb
theorem ScI.set2 (h:ScI w wr g t A n c B m d) (ho:RowN wr (w.heap.size+2) n' (.slice A' n' c')) (hn:RowN wr (w.heap.size+2) m' (.slice B' m' d')):ScI w ((wr.setCell ⟨w.heap.size,1,none⟩ (.slice A' n' c')).setCell ⟨w.heap.size,2,none⟩ (.slice B' m' d')) g t A' n' c' B' m' d':=by
 have hne:∀ b,b≠w.heap.size→(wr.setCell ⟨w.heap.size,1,none⟩ (.slice A' n' c')).heap[b]?=wr.heap[b]?:=fun b hb'=>Below.heap_setCell wr ⟨w.heap.size,1,none⟩ _ b hb';have h1:=h.put (Below.refl _ wr) (k:=1) (v:=.slice A' n' c') (t':=t) (B':=B) (m':=m) (d':=d) (by simpa using Zac (k:=1) (v:=.slice A' n' c') h.box) ho h.new;exact h1.put (Below.refl _ _) (k:=2) (v:=.slice B' m' d') (by simpa using Zac (k:=2) (v:=.slice B' m' d') h1.box) (ho.keep (fun x h1 _=>hne x (by omega))) (hn.keep (fun x h1 _=>hne x (by omega)))
theorem ScI.set1 (h:ScI w wr g t A n c B m d) (ho:RowN wr (w.heap.size+2) n' (.slice A' n' c')):ScI w (wr.setCell ⟨w.heap.size,1,none⟩ (.slice A' n' c')) g t A' n' c' B m d :=
 h.put (Below.refl _ wr) (k:=1) (v:=.slice A' n' c') (by simpa using Zac (k:=1) (v:=.slice A' n' c') h.box) ho h.new
theorem ScI.upd (h:ScI w wr g t A n c B m d) (hb:Below (w.heap.size+2) wr wx) (hs:Stp wr wx (w.heap.size+2) RVv):ScI w wx g t A n c B m d:=by
 have h1:=h.gr;have hzb:=hb.size;have hgl:=h.gl;have hz:=h.sz;exact⟨(hb.block _ (by omega)).trans h.xb,(hb.block _ (by omega)).trans h.rb,LsH.stp h.old hs (fun _ _ j _ hr=>hr.1 rfl j),LsH.stp h.new hs (fun _ _ j _ hr=>hr.1 rfl j),h.cs.keep (fun b hb'=>hb.block b (by omega)),⟨hb.os.trans h1.os,hb.tape.trans h1.tape,hb.output.trans h1.output,by omega,fun b hb1 hb2=>(hb.block b (by omega)).trans (h1.block b hb1 hb2)⟩,hgl⟩
theorem ScI.set_new (h:ScI w wr g t A n c B m d) (hn:RowN wr (w.heap.size+2) m' (.slice B' m' d')):ScI w (wr.setCell ⟨w.heap.size,2,none⟩ (.slice B' m' d')) g t A n c B' m' d' :=
 h.put (Below.refl _ wr) (k:=2) (v:=.slice B' m' d') (by simpa using Zac (k:=2) (v:=.slice B' m' d') h.box) h.old hn
def ScPost (N:Nat) (w:World) (g:Nat) (e:Ending) (w':World):Prop:=∃ (ch:Chg) (A:Option Addr) (c:Nat) (B:Option Addr) (d:Nat),e=.returned (ZcK ch.table A ch.old.length c B ch.new.length d)∧ch.old.length≤c∧ch.new.length≤d∧ch.old.length≤N∧ch.new.length≤N∧RowS w' (New w w') A ch.old∧RowS w' (New w w') B ch.new∧CaseOk w' g∧w.grownBy w' (some g)
theorem RowN.reads {b k:Nat} {v:Value} (h:RowN wr b k v) (hN:k≤1000000):∃ (r:Row) (A:Option Addr) (c:Nat),v=.slice A r.length c∧r.length≤c∧r.length=k∧RowS wr (fun x=>b≤x∧x<wr.heap.size) A r:=by
 obtain⟨r,A,c,e,h1,h2,h3⟩:=RowH.reads (lo:=k) (N:=k) ⟨k,Nat.le_refl _,Nat.le_refl _,h⟩ hN;exact⟨r,A,c,e,h1,by omega,h3⟩
theorem Zbo {b:Nat} {x0 x1 x2 a0 a1 a2:Value} {T:TypeId} (h:wr.heap[b]?=some (.cells #[x0,x1,x2] T (0,0))):(((wr.setCell ⟨b,0,none⟩ a0).setCell ⟨b,1,none⟩ a1).setCell ⟨b,2,none⟩ a2).heap[b]?=some (.cells #[a0,a1,a2] T (0,0)):=by
 have e0:wr.heap[b]?=some (.cells [x0,x1,x2].toArray T (0,0)):=h;have e1:=Zac (k:=0) (v:=a0) e0;have e2:=Zac (k:=1) (v:=a1) e1;have e3:=Zac (k:=2) (v:=a2) e2;simpa using e3
theorem ScI.done {N:Nat} (h:ScI w wr g t A n c B m d) (hn:n≤N) (hm:m≤N) (hN:N≤1000000):ScPost N w g (.returned (ZcK t A n c B m d)) (((wr.setCell ⟨w.heap.size+1,0,none⟩ (.int .i64 t)).setCell ⟨w.heap.size+1,1,none⟩ (.slice A n c)).setCell ⟨w.heap.size+1,2,none⟩ (.slice B m d)):=by
 obtain⟨W,hW⟩:∃ W,((wr.setCell ⟨w.heap.size+1,0,none⟩ (.int .i64 t)).setCell ⟨w.heap.size+1,1,none⟩ (.slice A n c)).setCell ⟨w.heap.size+1,2,none⟩ (.slice B m d)=W:=⟨_,rfl⟩;have hz:=h.sz;have hgl:=h.gl
 have hne:∀ b,b≠w.heap.size+1→W.heap[b]?=wr.heap[b]?:=fun b hb=>by
  rw [←hW];exact(Below.heap_setCell _ ⟨w.heap.size+1,2,none⟩ _ b hb).trans ((Below.heap_setCell _ ⟨w.heap.size+1,1,none⟩ _ b hb).trans (Below.heap_setCell _ ⟨w.heap.size+1,0,none⟩ _ b hb))
 have hsz:W.heap.size=wr.heap.size:=(by rw [←hW];simp);have hos:W.os=wr.os∧W.tape=wr.tape∧W.output=wr.output:=(by rw [←hW];exact⟨rfl,rfl,rfl⟩);rw [hW];obtain⟨r1,A1,c1,e1,i1,i2,i3⟩:=(h.old.keep (wx:=W) (fun x h1 _=>hne x (by omega))).reads (by omega);obtain⟨r2,A2,c2,e2,j1,j2,j3⟩:=(h.new.keep (wx:=W) (fun x h1 _=>hne x (by omega))).reads (by omega);injection e1 with a1 a2 a3;injection e2 with b1 b2 b3;subst a1 a3 b1 b3;have h1:=h.gr;refine⟨⟨t,r1,r2⟩,A,c,B,d,by simp only [i2,j2],i1,j1,by simp only;omega,by simp only;omega,i3.more (fun b hb=>⟨by have:=hb.1;omega,hb.2⟩),j3.more (fun b hb=>⟨by have:=hb.1;omega,hb.2⟩),h.cs.keep (fun b hb=>hne b (by omega)),⟨hos.1.trans h1.os,hos.2.1.trans h1.tape,hos.2.2.trans h1.output,by rw [hsz];exact h1.size,fun b hb1 hb2=>(hne b (by omega)).trans (h1.block b hb1 hb2)⟩⟩
end
section
variable {w w':World} {B B' n:Nat} {r:Row} {A:Option Addr} {c:Nat} {v:Value}
theorem ZeZ (h:w.ownsRow B 89 3 (.slice A r.length c) r.length (Zal r)) (hr:RowOk r):RowN w B r.length (.slice A r.length c):=by
 obtain⟨n,h1,h2,h3⟩:=RowH.of_owns h hr nR nR;have:n=r.length:=(by omega);subst this;exact h3
theorem RowN.low (h:RowN w B n v) (hb:B'≤B):RowN w B' n v:=LsH.mono h hb (fun _ _ h=>h)
end
theorem spoilChange_any (g:Nat) (t:Int) (AO:Option Addr) (co:Nat) (old:Row) (AN:Option Addr) (cn:Nat) (new:Row) (N:Nat) (S:Nat→Prop) (w:World) (ho:RowS w S AO old) (hn:RowS w S AN new) (hS:∀ b,S b→b<w.heap.size) (hlo:old.length≤N) (hln:new.length≤N) (hN:N≤1000) (hc:CaseOk w g) :
  Calls Tryz.prog 16 #[.pointer (some ⟨g,0,none⟩),ZcK t AO old.length co AN new.length cn] w (ScPost (N+1) w g):=by
 have hgl:=hc.lt;have HO:=hI ho;have HN:=hI hn;have HC:=hI hc;have HLO:=hI hlo;have HLN:=hI hln;clear ho hn hc;have HB0:=hI (((Below.refl w.heap.size w).alloc nR (.cells #[.int .i64 t,.slice AO old.length co,.slice AN new.length cn] 44)).alloc (by simp) (.cells #[.int .i64 0,.slice none 0 0,.slice none 0 0] 44));go_enter Tryz.func16,Tryz.ntmps16;obtain⟨W0,hW0⟩:∃ W0,(w.alloc (.cells #[.int .i64 t,.slice AO old.length co,.slice AN new.length cn] 44)).alloc (.cells #[.int .i64 0,.slice none 0 0,.slice none 0 0] 44)=W0:=⟨_,rfl⟩;have XB:=hI (show W0.heap[w.heap.size]?=some (oChg t AO old.length co AN new.length cn) by rw [←hW0];exact(Below.heap_alloc _ _ _ (by simp)).trans (heap_alloc_new w _));have RB:=hI (show W0.heap[w.heap.size+1]?=some (oChg 0 none 0 0 none 0 0) by rw [←hW0];simpa using heap_alloc_new (w.alloc (.cells #[.int .i64 t,.slice AO old.length co,.slice AN new.length cn] 44)) (.cells #[.int .i64 0,.slice none 0 0,.slice none 0 0] 44));have hz0:W0.heap.size≤w.heap.size+2∧w.heap.size+2≤W0.heap.size:=(by rw [←hW0];simp);have HBW:=hI (show Below w.heap.size w W0 by rw [←hW0];exact HB0.out);have HSM:=hI (show Same S w W0 from Same.of_below HBW.out hS);have x0:W0.cell? ⟨w.heap.size,0,none⟩=some (.int .i64 t):=Zaa XB.out 0 _ rfl;have x1:W0.cell? ⟨w.heap.size,1,none⟩=some (.slice AO old.length co):=Zaa XB.out 1 _ rfl;have x2:W0.cell? ⟨w.heap.size,2,none⟩=some (.slice AN new.length cn):=Zaa XB.out 2 _ rfl;have hl0:w.heap.size<W0.heap.size:=(by omega);clear HB0
 go_wp2_with fail
 try rw [hW0]
 clear hW0;refine hideQ (fun c a d v w h=>by cases d<;>exact h) (fun Q' HQ HP=>?_);refine Zdj (fun w'=>w'.cell? ⟨w.heap.size,1,none⟩=some (.slice AO old.length co)∧w'.cell? ⟨w.heap.size,2,none⟩=some (.slice AN new.length cn)) 7 10 (bA 10 0) (by kernel_rfl) (by kernel_rfl) (by kernel_rfl) ?_;refine ZaG (i:=0) (oi:=⟨some 5,_,_,_,_,_⟩) (v:=?_) (L':=(bA 10 1)) rfl rfl (by kernel_rfl) (by kernel_rfl) (by kernel_rfl) (by kernel_rfl) (by kernel_rfl) HP.out (Or.inl ⟨by rfl,?_⟩) ⟨x1,x2⟩ ?_;rotate_left
 · intro w' hSw
   (try dsimp only at hSw)
   go_simp
   (try with_reducible rfl)
 simp only [psA,psB,psC];refine ZaG (i:=1) (oi:=⟨some 6,_,_,_,_,_⟩) (v:=?_) (L':=(bA 10 3)) rfl rfl (by kernel_rfl) (by kernel_rfl) (by kernel_rfl) (by kernel_rfl) (by kernel_rfl) HP.out (Or.inl ⟨by rfl,?_⟩) ⟨x1,x2⟩ ?_;rotate_left
 · intro w' hSw
   (try dsimp only at hSw)
   go_simp
   (try with_reducible rfl)
 simp only [psA,psB,psC];refine ZaG (i:=3) (oi:=⟨some 8,_,_,_,_,_⟩) (v:=?_) (L':=(bA 10 11)) rfl rfl (by kernel_rfl) (by kernel_rfl) (by kernel_rfl) (by kernel_rfl) (by kernel_rfl) HP.out (Or.inl ⟨by rfl,?_⟩) ⟨x1,x2⟩ ?_;rotate_left
 · intro w' hSw
   (try dsimp only at hSw)
   go_simp
   (try with_reducible rfl)
 simp only [psA,psB,psC];refine ZaG (i:=4) (oi:=⟨some 9,_,_,_,_,_⟩) (v:=?_) (L':=(bA 10 27)) rfl rfl (by kernel_rfl) (by kernel_rfl) (by kernel_rfl) (by kernel_rfl) (by kernel_rfl) HP.out (Or.inl ⟨by rfl,?_⟩) ⟨x1,x2⟩ ?_;rotate_left
 · intro w' hSw
   (try dsimp only at hSw)
   go_simp
   (try with_reducible rfl)
 simp only [psA,psB,psC];refine Zbv (i:=2) (o:=⟨some 7,_,_,_,_,_⟩) (L':=(bA 10 31)) rfl (by kernel_rfl) (by kernel_rfl) (fun K hK=>?_);have HK:=hI hK;clear hK;go_simp;refine(Zbl AO co old S W0.drew (HO.out.keep (w':=W0.drew) HSM.out)).mono ?_;rintro e w1 ⟨A,c,rfl,hA,hb10⟩;have hb1:Below W0.heap.size W0 w1:=(Below.refl _ W0).drew.trans hb10;have hz1:=hb1.size;have HA:=hI (show RowN w1 (w.heap.size+2) old.length (.slice A old.length c) from (ZeZ hA HO.out.ok).low (by show w.heap.size+2≤W0.heap.size;omega));have x1:=cJ hb1 x1;have x2:=cJ hb1 x2;have XB:=hI ((hb1.block w.heap.size (by omega)).trans XB.out);have RB:=hI ((hb1.block (w.heap.size+1) (by omega)).trans RB.out);clear hA hb10;refine HK.out _ _ (fun _=>⟨x1,x2⟩) ?_;clear HK K
 try simp only [Act.put,psA,psB,psC]
 refine ZaG (i:=6) (oi:=⟨some 11,_,_,_,_,_⟩) (v:=?_) (L':=(bA 10 95)) rfl rfl (by kernel_rfl) (by kernel_rfl) (by kernel_rfl) (by kernel_rfl) (by kernel_rfl) HP.out (Or.inl ⟨by rfl,?_⟩) ⟨x1,x2⟩ ?_;rotate_left
 · intro w' hSw
   (try dsimp only at hSw)
   go_simp
   (try with_reducible rfl)
 simp only [psA,psB,psC];refine Zbv (i:=5) (o:=⟨some 10,_,_,_,_,_⟩) (L':=(bA 10 127)) rfl (by kernel_rfl) (by kernel_rfl) (fun K hK=>?_);have HK:=hI hK;clear hK;go_simp;refine(Zbl AN cn new S w1 (HN.out.keep (fun b hb=>(hb1.block b (by have:=hS b hb;omega)).trans (HSM.out b hb)))).mono ?_;rintro e w2 ⟨B,d,rfl,hB,hb20⟩;have hz2:=hb20.size;have HBR:=hI (show RowN w2 (w.heap.size+2) new.length (.slice B new.length d) from (ZeZ hB HN.out.ok).low (by omega));have HA:=hI (RowN.keep (wx:=w2) HA.out (fun x _ h2=>hb20.block x h2));have x1:=cJ hb20 x1;have x2:=cJ hb20 x2;have XB:=hI ((hb20.block w.heap.size (by omega)).trans XB.out);have RB:=hI ((hb20.block (w.heap.size+1) (by omega)).trans RB.out);have HB2:=hI (show Below W0.heap.size W0 w2 from hb1.trans (hb20.mono hz1));clear hB hb20 hb1;have hl2:w.heap.size<w2.heap.size:=(by omega);have f1:w2.frozen? ⟨w.heap.size,1,none⟩=false:=(by simp [World.frozen?,XB.out]);refine HK.out _ _ (fun _=>⟨x1,x2⟩) ?_;clear HK K
 try simp only [Act.put,psA,psB,psC]
 refine Zbv (i:=7) (o:=⟨none,_,_,_,_,_⟩) (L':=(bA 10 255)) rfl (by kernel_rfl) (by kernel_rfl) (fun K hK=>?_);have HK:=hI hK;clear hK;go_simp;have y2:(w2.setCell ⟨w.heap.size,1,none⟩ (.slice A old.length c)).cell? ⟨w.heap.size,2,none⟩=some (.slice AN new.length cn):=(by rw [World.cell?_setCell_other _ _ _ _ (by simp)];exact x2);have f2:(w2.setCell ⟨w.heap.size,1,none⟩ (.slice A old.length c)).frozen? ⟨w.heap.size,2,none⟩=false:=(by rw [World.frozen?_setCell];simp [World.frozen?,XB.out]);refine HK.out _ _ (fun h=>absurd h (by decide)) ?_;clear HK K
 try simp only [Act.put,psA,psB,psC]
 refine Zbv (i:=8) (o:=⟨some 12,_,_,_,_,_⟩) (L':=(bA 10 511)) rfl (by kernel_rfl) (by kernel_rfl) (fun K hK=>?_);have HK:=hI hK;clear hK;go_simp;refine HK.out _ _ (fun h=>absurd h (by decide)) ?_;clear HK K
 try simp only [Act.put,psA,psB,psC]
 refine Zbv (i:=9) (o:=⟨none,_,_,_,_,_⟩) (L':=(bA 10 1023)) rfl (by kernel_rfl) (by kernel_rfl) (fun K hK=>?_);have HK:=hI hK;clear hK;go_simp;refine HK.out _ _ (fun h=>absurd h (by decide)) ?_;clear HK K
 try simp only [Act.put,psA,psB,psC]
 refine Zga (by kernel_rfl) ?_;rw [HQ.out];clear HQ HP Q';obtain⟨W3,hW3⟩:∃ W3,(w2.setCell ⟨w.heap.size,1,none⟩ (.slice A old.length c)).setCell ⟨w.heap.size,2,none⟩ (.slice B new.length d)=W3:=⟨_,rfl⟩;obtain⟨n,hnn⟩:∃ n,old.length=n:=⟨_,rfl⟩;obtain⟨m,hmm⟩:∃ m,new.length=m:=⟨_,rfl⟩
 have HI:=hI (show ScI w W3 g t A n c B m d from by
  have e1:w2.heap[w.heap.size]?=some (.cells [.int .i64 t,.slice AO old.length co,.slice AN new.length cn].toArray 44 (0,0)):=XB.out;have e2:=Zac (k:=1) (v:=.slice A old.length c) e1;have e3:=Zac (k:=2) (v:=.slice B new.length d) e2
  have hne:∀ b,b≠w.heap.size→W3.heap[b]?=w2.heap[b]?:=fun b hb=>by
   rw [←hW3];exact(Below.heap_setCell _ ⟨w.heap.size,2,none⟩ _ b hb).trans (Below.heap_setCell _ ⟨w.heap.size,1,none⟩ _ b hb)
  have hbb:=HBW.out.trans (HB2.out.mono (by omega));have hsz3:W3.heap.size=w2.heap.size:=(by rw [←hW3];simp);rw [hW3] at e3;rw [←hnn,←hmm]
  exact⟨by simpa using e3,(hne _ (by omega)).trans RB.out,HA.out.keep (fun x h1 _=>hne x (by omega)),HBR.out.keep (fun x h1 _=>hne x (by omega)),HC.out.keep (fun b hb=>(hne b (by omega)).trans (hbb.block b (by omega))),by
   refine⟨?_,?_,?_,by rw [hsz3];have:=hbb.size;omega,fun b hb1 hb2=>(hne b (by omega)).trans (hbb.block b hb1)⟩
   · rw [←hW3];exact hbb.os
   · rw [←hW3];exact hbb.tape
   · rw [←hW3];exact hbb.output,hgl⟩)
 rw [hW3,hnn,hmm];have hnN:n≤N:=(by rw [←hnn];exact HLO.out);have hmN:m≤N:=(by rw [←hmm];exact HLN.out);clear hW3 hnn hmm HA HBR XB RB x0 x1 x2 HBW HSM HB2 HO HN HLO HLN hz0 hl0 hlo hln
 go_wp2_with fail
 refine(Zas g 6 W3 (by omega) HI.out.cs).mono ?_;rintro e w3 ⟨r,rfl,hr0,hr1,-,hc3,hg3,-⟩;have hr:=hr1 (by omega);have HI:=hI (HI.out.calls hg3 hc3);clear hr1 hc3 hg3;have h6:r=0∨r=1∨r=2∨r=3∨r=4∨r=5:=(by omega);clear hr0 hr;rcases h6 with rfl | rfl | rfl | rfl | rfl | rfl
 · have hl3:w.heap.size<w3.heap.size:=(by have:=HI.out.sz;omega);have z0:w3.cell? ⟨w.heap.size,0,none⟩=some (.int .i64 t):=Zaa HI.out.xb 0 _ rfl
   go_wp2_with fail
   refine(Zbh g w3 HI.out.cs).mono ?_;rintro e w4 ⟨t4,rfl,hc4,hg4⟩;have HI:=hI (HI.out.calls hg4 hc4);clear hc4 hg4 z0 hl3;have HJ:=hI (HI.out.put (Below.refl _ w4) (k:=0) (v:=.int .i64 t4) (t':=t4) (by have e1:w4.heap[w.heap.size]?=some (.cells [.int .i64 t,.slice A n c,.slice B m d].toArray 44 (0,0)):=HI.out.xb;simpa using Zac (k:=0) (v:=.int .i64 t4) e1) HI.out.old HI.out.new);have z0:w4.cell? ⟨w.heap.size,0,none⟩=some (.int .i64 t):=Zaa HI.out.xb 0 _ rfl;have y0:w4.frozen? ⟨w.heap.size,0,none⟩=false:=(by simp [World.frozen?,HI.out.xb]);have hl4:w.heap.size<w4.heap.size:=(by have:=HI.out.sz;omega);obtain⟨W5,hW5⟩:∃ W5,w4.setCell ⟨w.heap.size,0,none⟩ (.int .i64 t4)=W5:=⟨_,rfl⟩;rw [hW5] at HJ;have HI:=HJ;have z0:W5.cell? ⟨w.heap.size,0,none⟩=some (.int .i64 t4):=Zaa HI.out.xb 0 _ rfl;have z1:W5.cell? ⟨w.heap.size,1,none⟩=some (.slice A n c):=Zaa HI.out.xb 1 _ rfl;have z2:W5.cell? ⟨w.heap.size,2,none⟩=some (.slice B m d):=Zaa HI.out.xb 2 _ rfl;have r0:W5.cell? ⟨w.heap.size+1,0,none⟩=some (.int .i64 0):=Zaa HI.out.rb 0 _ rfl;have r1:W5.cell? ⟨w.heap.size+1,1,none⟩=some (.slice none 0 0):=Zaa HI.out.rb 1 _ rfl;have r2:W5.cell? ⟨w.heap.size+1,2,none⟩=some (.slice none 0 0):=Zaa HI.out.rb 2 _ rfl;have q0:W5.frozen? ⟨w.heap.size+1,0,none⟩=false:=(by simp [World.frozen?,HI.out.rb]);have q1:W5.frozen? ⟨w.heap.size+1,1,none⟩=false:=(by simp [World.frozen?,HI.out.rb]);have q2:W5.frozen? ⟨w.heap.size+1,2,none⟩=false:=(by simp [World.frozen?,HI.out.rb]);have hlx:w.heap.size<W5.heap.size:=(by have:=HI.out.sz;omega);have hly:w.heap.size+1<W5.heap.size:=HI.out.sz
   go_wp2_with fail
   have e3:=Zbo (a0:=.int .i64 t4) (a1:=.slice A n c) (a2:=.slice B m d) HI.out.rb;have v0:=Zaa e3 0 _ rfl;have v1:=Zaa e3 1 _ rfl;have v2:=Zaa e3 2 _ rfl;exact bodyPost_ret (v:=ZcK t4 A n c B m d) (by simp [results,Tryz.results16,go_sem,v0,v1,v2]) rfl (HI.out.done (by omega) (by omega) (by omega))
 · skip
   have k1:w3.cell? ⟨w.heap.size,1,none⟩=some (.slice A n c):=Zaa HI.out.xb 1 _ rfl;have k2:w3.cell? ⟨w.heap.size,2,none⟩=some (.slice B m d):=Zaa HI.out.xb 2 _ rfl;have p1:w3.frozen? ⟨w.heap.size,1,none⟩=false:=(by simp [World.frozen?,HI.out.xb]);have p2:w3.frozen? ⟨w.heap.size,2,none⟩=false:=(by simp [World.frozen?,HI.out.xb]);have hl:w.heap.size<w3.heap.size:=(by have:=HI.out.sz;omega);have k3:(w3.setCell ⟨w.heap.size,1,none⟩ (.slice B m d)).cell? ⟨w.heap.size,2,none⟩=some (.slice B m d):=(by rw [World.cell?_setCell_other _ _ _ _ (by simp)];exact k2);have p3:(w3.setCell ⟨w.heap.size,1,none⟩ (.slice B m d)).frozen? ⟨w.heap.size,2,none⟩=false:=(by rw [World.frozen?_setCell];exact p2);obtain⟨W5,hW5⟩:∃ W5,(w3.setCell ⟨w.heap.size,1,none⟩ (.slice B m d)).setCell ⟨w.heap.size,2,none⟩ (.slice A n c)=W5:=⟨_,rfl⟩;have HI:=hI (show ScI w W5 g t B m d A n c by rw [←hW5];exact HI.out.set2 HI.out.new HI.out.old);have z0:W5.cell? ⟨w.heap.size,0,none⟩=some (.int .i64 t):=Zaa HI.out.xb 0 _ rfl;have z1:W5.cell? ⟨w.heap.size,1,none⟩=some (.slice B m d):=Zaa HI.out.xb 1 _ rfl;have z2:W5.cell? ⟨w.heap.size,2,none⟩=some (.slice A n c):=Zaa HI.out.xb 2 _ rfl;have r0:W5.cell? ⟨w.heap.size+1,0,none⟩=some (.int .i64 0):=Zaa HI.out.rb 0 _ rfl;have r1:W5.cell? ⟨w.heap.size+1,1,none⟩=some (.slice none 0 0):=Zaa HI.out.rb 1 _ rfl;have r2:W5.cell? ⟨w.heap.size+1,2,none⟩=some (.slice none 0 0):=Zaa HI.out.rb 2 _ rfl;have q0:W5.frozen? ⟨w.heap.size+1,0,none⟩=false:=(by simp [World.frozen?,HI.out.rb]);have q1:W5.frozen? ⟨w.heap.size+1,1,none⟩=false:=(by simp [World.frozen?,HI.out.rb]);have q2:W5.frozen? ⟨w.heap.size+1,2,none⟩=false:=(by simp [World.frozen?,HI.out.rb]);have hlx:w.heap.size<W5.heap.size:=(by have:=HI.out.sz;omega);have hly:w.heap.size+1<W5.heap.size:=HI.out.sz
   go_wp2_with fail
   have e3:=Zbo (a0:=.int .i64 t) (a1:=.slice B m d) (a2:=.slice A n c) HI.out.rb;have v0:=Zaa e3 0 _ rfl;have v1:=Zaa e3 1 _ rfl;have v2:=Zaa e3 2 _ rfl;exact bodyPost_ret (v:=ZcK t B m d A n c) (by simp [results,Tryz.results16,go_sem,v0,v1,v2]) rfl (HI.out.done (by omega) (by omega) (by omega))
 · skip
   have k1:w3.cell? ⟨w.heap.size,1,none⟩=some (.slice A n c):=Zaa HI.out.xb 1 _ rfl;have k2:w3.cell? ⟨w.heap.size,2,none⟩=some (.slice B m d):=Zaa HI.out.xb 2 _ rfl;have p1:w3.frozen? ⟨w.heap.size,1,none⟩=false:=(by simp [World.frozen?,HI.out.xb]);have p2:w3.frozen? ⟨w.heap.size,2,none⟩=false:=(by simp [World.frozen?,HI.out.xb]);have hl:w.heap.size<w3.heap.size:=by have:=HI.out.sz;omega
   go_wp2_with fail
   refine tS (fun w'=>w'.cell? ⟨w.heap.size,2,none⟩=some (.slice B m d)) 7 8 fun Q' HQ HP=>?_;refine tW 0 32 1 33 (bA 8 3) HP.out k2 ?_;refine tJ 2 34 (bA 8 7) HP.out k2 ?_;refine tQ 3 (some 35) (bA 8 15) fun K HK=>?_;go_simp;refine(Zhd g w3.drew (HI.out.cs.keep (fun _ _=>rfl))).mono ?_;rintro e w5 ⟨v,rfl,hv,hc5,hg5⟩;have hg5':w3.grownBy w5 (some g):=⟨hg5.os,hg5.tape,hg5.output,hg5.size,hg5.block⟩;have HI5:=hI (HI.out.calls hg5' hc5);have HVs:=hI (Zhc hv);obtain⟨vk,vi,vt⟩:=v;have k2:w5.cell? ⟨w.heap.size,2,none⟩=some (.slice B m d):=Zaa HI5.out.xb 2 _ rfl;have hl5:w.heap.size<w5.heap.size:=(by have:=HI5.out.sz;omega);clear hv hc5 hg5 hg5';refine HK.out _ _ (fun _=>k2) ?_;clear HK K
   try simp only [Act.put,psA,psB,psC]
   refine tQ 4 (some 36) (bA 8 31) fun K HK=>?_;go_simp;have k2a:(w5.alloc (.cells #[.int .i64 vk,.int .i64 vi,.string vt] 89)).cell? ⟨w.heap.size,2,none⟩=some (.slice B m d):=(Zai hl5).trans k2;refine HK.out _ _ (fun _=>k2a) ?_;clear HK K
   try simp only [Act.put,psA,psB,psC]
   refine anyT_one (i:=5) (o:=⟨some 37,_,_,_,_,_⟩) (L':=(bA 8 63)) rfl (by kernel_rfl) (by kernel_rfl) (fun K hK=>?_);refine step_append_val (by rfl) (.tmp 33) (.tmp 36) 42 (by rfl) Tryz.underlying42 w5 (w.heap.size+2) B m d HI5.out.new ⟨vk,vi,vt⟩ HVs.out (by omega) (by have:=HI5.out.sz;omega) (by rfl) 1 (by rfl) ?_;intro g6 cap6 w6 hst6 hm6 hb6 hT6 hlt6;have HI6:=hI (HI5.out.upd hb6 hst6);have HM6:=hI hm6;have k26:w6.cell? ⟨w.heap.size,2,none⟩=some (.slice B m d):=Zaa HI6.out.xb 2 _ rfl;clear hst6 hm6 hb6 hT6;refine hK _ _ (fun _=>k26) ?_;clear hK K
   try simp only [Act.put,psA,psB,psC]
   refine tJ 6 38 (bA 8 127) HP.out k26 ?_;have p26:w6.frozen? ⟨w.heap.size,2,none⟩=false:=(by simp [World.frozen?,HI6.out.xb]);have hl6:w.heap.size<w6.heap.size:=(by have:=HI6.out.sz;omega);refine tQ 7 none (bA 8 255) fun K HK=>?_;go_simp;refine HK.out _ _ (fun h=>absurd rfl h) ?_;clear HK K;refine tE HQ ?_;clear HQ HP Q';obtain⟨W5,hW5⟩:∃ W5,w6.setCell ⟨w.heap.size,2,none⟩ (.slice (some ⟨g6,0,none⟩) (m+1) cap6)=W5:=⟨_,rfl⟩;have HI:=hI (show ScI w W5 g t A n c (some ⟨g6,0,none⟩) (m+1) cap6 by rw [←hW5];exact HI6.out.set_new HM6.out)
   try rw [hW5]
   clear hW5 HI6 HM6 HI5;have z0:W5.cell? ⟨w.heap.size,0,none⟩=some (.int .i64 t):=Zaa HI.out.xb 0 _ rfl;have z1:W5.cell? ⟨w.heap.size,1,none⟩=some (.slice A n c):=Zaa HI.out.xb 1 _ rfl;have z2:W5.cell? ⟨w.heap.size,2,none⟩=some (.slice (some ⟨g6,0,none⟩) (m+1) cap6):=Zaa HI.out.xb 2 _ rfl;have r0:W5.cell? ⟨w.heap.size+1,0,none⟩=some (.int .i64 0):=Zaa HI.out.rb 0 _ rfl;have r1:W5.cell? ⟨w.heap.size+1,1,none⟩=some (.slice none 0 0):=Zaa HI.out.rb 1 _ rfl;have r2:W5.cell? ⟨w.heap.size+1,2,none⟩=some (.slice none 0 0):=Zaa HI.out.rb 2 _ rfl;have q0:W5.frozen? ⟨w.heap.size+1,0,none⟩=false:=(by simp [World.frozen?,HI.out.rb]);have q1:W5.frozen? ⟨w.heap.size+1,1,none⟩=false:=(by simp [World.frozen?,HI.out.rb]);have q2:W5.frozen? ⟨w.heap.size+1,2,none⟩=false:=(by simp [World.frozen?,HI.out.rb]);have hlx:w.heap.size<W5.heap.size:=(by have:=HI.out.sz;omega);have hly:w.heap.size+1<W5.heap.size:=HI.out.sz
   go_wp2_with fail
   have e3:=Zbo (a0:=.int .i64 t) (a1:=.slice A n c) (a2:=.slice (some ⟨g6,0,none⟩) (m+1) cap6) HI.out.rb;have v0:=Zaa e3 0 _ rfl;have v1:=Zaa e3 1 _ rfl;have v2:=Zaa e3 2 _ rfl;exact bodyPost_ret (v:=ZcK t A n c (some ⟨g6,0,none⟩) (m+1) cap6) (by simp [results,Tryz.results16,go_sem,v0,v1,v2]) rfl (HI.out.done (by omega) (by omega) (by omega))
 · skip
   have k1:w3.cell? ⟨w.heap.size,1,none⟩=some (.slice A n c):=Zaa HI.out.xb 1 _ rfl;have k2:w3.cell? ⟨w.heap.size,2,none⟩=some (.slice B m d):=Zaa HI.out.xb 2 _ rfl;have p1:w3.frozen? ⟨w.heap.size,1,none⟩=false:=(by simp [World.frozen?,HI.out.xb]);have p2:w3.frozen? ⟨w.heap.size,2,none⟩=false:=(by simp [World.frozen?,HI.out.xb]);have hl:w.heap.size<w3.heap.size:=(by have:=HI.out.sz;omega);obtain⟨W5,hW5⟩:∃ W5,w3.setCell ⟨w.heap.size,1,none⟩ (.slice none 0 0)=W5:=⟨_,rfl⟩;have HI:=hI (show ScI w W5 g t none 0 0 B m d by rw [←hW5];exact HI.out.set1 ZgN);have z0:W5.cell? ⟨w.heap.size,0,none⟩=some (.int .i64 t):=Zaa HI.out.xb 0 _ rfl;have z1:W5.cell? ⟨w.heap.size,1,none⟩=some (.slice none 0 0):=Zaa HI.out.xb 1 _ rfl;have z2:W5.cell? ⟨w.heap.size,2,none⟩=some (.slice B m d):=Zaa HI.out.xb 2 _ rfl;have r0:W5.cell? ⟨w.heap.size+1,0,none⟩=some (.int .i64 0):=Zaa HI.out.rb 0 _ rfl;have r1:W5.cell? ⟨w.heap.size+1,1,none⟩=some (.slice none 0 0):=Zaa HI.out.rb 1 _ rfl;have r2:W5.cell? ⟨w.heap.size+1,2,none⟩=some (.slice none 0 0):=Zaa HI.out.rb 2 _ rfl;have q0:W5.frozen? ⟨w.heap.size+1,0,none⟩=false:=(by simp [World.frozen?,HI.out.rb]);have q1:W5.frozen? ⟨w.heap.size+1,1,none⟩=false:=(by simp [World.frozen?,HI.out.rb]);have q2:W5.frozen? ⟨w.heap.size+1,2,none⟩=false:=(by simp [World.frozen?,HI.out.rb]);have hlx:w.heap.size<W5.heap.size:=(by have:=HI.out.sz;omega);have hly:w.heap.size+1<W5.heap.size:=HI.out.sz
   go_wp2_with fail
   have e3:=Zbo (a0:=.int .i64 t) (a1:=.slice none 0 0) (a2:=.slice B m d) HI.out.rb;have v0:=Zaa e3 0 _ rfl;have v1:=Zaa e3 1 _ rfl;have v2:=Zaa e3 2 _ rfl;exact bodyPost_ret (v:=ZcK t none 0 0 B m d) (by simp [results,Tryz.results16,go_sem,v0,v1,v2]) rfl (HI.out.done (by omega) (by omega) (by omega))
 · rcases Nat.eq_zero_or_pos m with hm0 | hm0
   · subst hm0;have k1:w3.cell? ⟨w.heap.size,1,none⟩=some (.slice A n c):=Zaa HI.out.xb 1 _ rfl;have k2:w3.cell? ⟨w.heap.size,2,none⟩=some (.slice B 0 d):=Zaa HI.out.xb 2 _ rfl;have p1:w3.frozen? ⟨w.heap.size,1,none⟩=false:=(by simp [World.frozen?,HI.out.xb]);have p2:w3.frozen? ⟨w.heap.size,2,none⟩=false:=(by simp [World.frozen?,HI.out.xb]);have hl:w.heap.size<w3.heap.size:=(by have:=HI.out.sz;omega);have hd:decide ((0:Int)<((0:Nat):Int))=false:=(by simp);have z0:w3.cell? ⟨w.heap.size,0,none⟩=some (.int .i64 t):=Zaa HI.out.xb 0 _ rfl;have z1:w3.cell? ⟨w.heap.size,1,none⟩=some (.slice A n c):=Zaa HI.out.xb 1 _ rfl;have z2:w3.cell? ⟨w.heap.size,2,none⟩=some (.slice B 0 d):=Zaa HI.out.xb 2 _ rfl;have r0:w3.cell? ⟨w.heap.size+1,0,none⟩=some (.int .i64 0):=Zaa HI.out.rb 0 _ rfl;have r1:w3.cell? ⟨w.heap.size+1,1,none⟩=some (.slice none 0 0):=Zaa HI.out.rb 1 _ rfl;have r2:w3.cell? ⟨w.heap.size+1,2,none⟩=some (.slice none 0 0):=Zaa HI.out.rb 2 _ rfl;have q0:w3.frozen? ⟨w.heap.size+1,0,none⟩=false:=(by simp [World.frozen?,HI.out.rb]);have q1:w3.frozen? ⟨w.heap.size+1,1,none⟩=false:=(by simp [World.frozen?,HI.out.rb]);have q2:w3.frozen? ⟨w.heap.size+1,2,none⟩=false:=(by simp [World.frozen?,HI.out.rb]);have hlx:w.heap.size<w3.heap.size:=(by have:=HI.out.sz;omega);have hly:w.heap.size+1<w3.heap.size:=HI.out.sz
     go_wp2_with fail
     have e3:=Zbo (a0:=.int .i64 t) (a1:=.slice A n c) (a2:=.slice B 0 d) HI.out.rb;have v0:=Zaa e3 0 _ rfl;have v1:=Zaa e3 1 _ rfl;have v2:=Zaa e3 2 _ rfl;exact bodyPost_ret (v:=ZcK t A n c B 0 d) (by simp [results,Tryz.results16,go_sem,v0,v1,v2]) rfl (HI.out.done (by omega) (by omega) (by omega))
   · obtain⟨B',d',eB,hmd,hform⟩:=LsH.form HI.out.new;injection eB with e1 _ e3;subst e1 e3;obtain⟨gB,curB,rfl,hBB,hhB,hszB,hcmB,hEB⟩:=hform hm0;have HVB:=hI hhB;have HEB:=hI hEB;have hd:decide ((0:Int)<(m:Int))=true:=decide_eq_true (by omega);have hm0i:(0:Int)<(m:Int):=(by omega);have k1:w3.cell? ⟨w.heap.size,1,none⟩=some (.slice A n c):=Zaa HI.out.xb 1 _ rfl;have k2:w3.cell? ⟨w.heap.size,2,none⟩=some (.slice (some ⟨gB,0,none⟩) m d):=Zaa HI.out.xb 2 _ rfl;have p1:w3.frozen? ⟨w.heap.size,1,none⟩=false:=(by simp [World.frozen?,HI.out.xb]);have p2:w3.frozen? ⟨w.heap.size,2,none⟩=false:=(by simp [World.frozen?,HI.out.xb]);have hl:w.heap.size<w3.heap.size:=(by have:=HI.out.sz;omega);clear hhB hEB hform
     go_wp2_with fail
     refine tS (fun w'=>w'.cell? ⟨w.heap.size,2,none⟩=some (.slice (some ⟨gB,0,none⟩) m d)) 10 11 fun Q' HQ HP=>?_;refine tX 0 48 1 49 2 50 3 51 (bA 11 15) HP.out k2 ?_;refine tW 4 52 5 53 (bA 11 63) HP.out k2 ?_;refine tJ 7 55 (bA 11 191) HP.out k2 ?_;refine tQ 6 (some 54) (bA 11 255) fun K HK=>?_;go_simp;refine(Zas g (m:Int) w3.drew (by omega) (HI.out.cs.keep (fun _ _=>rfl))).mono ?_;rintro e w5 ⟨rj,rfl,j0,j1,-,hc5,hg5,-⟩;have hrj:=j1 (by omega);obtain⟨jj,rfl⟩:=Int.eq_ofNat_of_zero_le j0;have hg5':w3.grownBy w5 (some g):=⟨hg5.os,hg5.tape,hg5.output,hg5.size,hg5.block⟩;have HI5:=hI (HI.out.calls hg5' hc5);have HV5:=hI ((hg5'.block gB (Zad HVB.out) (fun e=>by injection e with e;omega)).trans HVB.out);have k2:w5.cell? ⟨w.heap.size,2,none⟩=some (.slice (some ⟨gB,0,none⟩) m d):=Zaa HI5.out.xb 2 _ rfl;clear j1 hc5 hg5 hg5';refine HK.out _ _ (fun _=>k2) ?_;clear HK K
     try simp only [Act.put,psA,psB,psC]
     refine tQ 8 (some 56) (bA 11 511) fun K HK=>?_;go_simp;refine(Zhd g w5 HI5.out.cs).mono ?_;rintro e w6 ⟨v,rfl,hv,hc6,hg6⟩;have HI6:=hI (HI5.out.calls hg6 hc6);have HVs:=hI (Zhc hv);have HV6:=hI ((hg6.block gB (Zad HV5.out) (fun e=>by injection e with e;omega)).trans HV5.out);obtain⟨vk,vi,vt⟩:=v;have k2:w6.cell? ⟨w.heap.size,2,none⟩=some (.slice (some ⟨gB,0,none⟩) m d):=Zaa HI6.out.xb 2 _ rfl;clear hv hc6 hg6;refine HK.out _ _ (fun _=>k2) ?_;clear HK K
     try simp only [Act.put,psA,psB,psC]
     refine tJ 9 57 (bA 11 1023) HP.out k2 ?_;refine tQ 10 none (bA 11 2047) fun K HK=>?_;obtain⟨ka,kb,kt,hk1,hk2,hk3,_⟩:=HEB.out jj (by omega);have y0:w6.cell? ⟨gB,jj*3,none⟩=some (.int .i64 ka):=Zck HV6.out hk1;have y1:w6.cell? ⟨gB,jj*3+1,none⟩=some (.int .i64 kb):=Zck HV6.out hk2;have y2:w6.cell? ⟨gB,jj*3+2,none⟩=some (.string kt):=Zck HV6.out hk3;have z0:∀ o,w6.frozen? ⟨gB,o,none⟩=false:=(fun o=>by simp [World.frozen?,HV6.out]);have z1:=z0 (jj*3);have z2:=z0 (jj*3+1);have z3:=z0 (jj*3+2);have hlV:gB<w6.heap.size:=Zad HV6.out;clear z0 hk1 hk2 hk3;go_simp;refine HK.out _ _ (fun h=>absurd rfl h) ?_;clear HK K;refine tE HQ ?_;clear HQ HP Q';obtain⟨W5,hW5⟩:∃ W5,((w6.setCell ⟨gB,jj*3,none⟩ (.int .i64 vk)).setCell ⟨gB,jj*3+1,none⟩ (.int .i64 vi)).setCell ⟨gB,jj*3+2,none⟩ (.string vt)=W5:=⟨_,rfl⟩
     have HI:=hI (show ScI w W5 g t A n c (some ⟨gB,0,none⟩) m d by
      rw [←hW5];exact HI6.out.upd ((((Below.refl _ w6).setCell (by show w.heap.size+2≤gB;omega) _).setCell (by show w.heap.size+2≤gB;omega) _).setCell (by show w.heap.size+2≤gB;omega) _) (stp_val HV6.out (by omega) HVs.out))
     try rw [hW5]
     clear hW5 y0 y1 y2 z1 z2 z3 k1 k2 p1 p2;have z0:W5.cell? ⟨w.heap.size,0,none⟩=some (.int .i64 t):=Zaa HI.out.xb 0 _ rfl;have z1:W5.cell? ⟨w.heap.size,1,none⟩=some (.slice A n c):=Zaa HI.out.xb 1 _ rfl;have z2:W5.cell? ⟨w.heap.size,2,none⟩=some (.slice (some ⟨gB,0,none⟩) m d):=Zaa HI.out.xb 2 _ rfl;have r0:W5.cell? ⟨w.heap.size+1,0,none⟩=some (.int .i64 0):=Zaa HI.out.rb 0 _ rfl;have r1:W5.cell? ⟨w.heap.size+1,1,none⟩=some (.slice none 0 0):=Zaa HI.out.rb 1 _ rfl;have r2:W5.cell? ⟨w.heap.size+1,2,none⟩=some (.slice none 0 0):=Zaa HI.out.rb 2 _ rfl;have q0:W5.frozen? ⟨w.heap.size+1,0,none⟩=false:=(by simp [World.frozen?,HI.out.rb]);have q1:W5.frozen? ⟨w.heap.size+1,1,none⟩=false:=(by simp [World.frozen?,HI.out.rb]);have q2:W5.frozen? ⟨w.heap.size+1,2,none⟩=false:=(by simp [World.frozen?,HI.out.rb]);have hlx:w.heap.size<W5.heap.size:=(by have:=HI.out.sz;omega);have hly:w.heap.size+1<W5.heap.size:=HI.out.sz
     go_wp2_with fail
     have e3:=Zbo (a0:=.int .i64 t) (a1:=.slice A n c) (a2:=.slice (some ⟨gB,0,none⟩) m d) HI.out.rb;have v0:=Zaa e3 0 _ rfl;have v1:=Zaa e3 1 _ rfl;have v2:=Zaa e3 2 _ rfl;exact bodyPost_ret (v:=ZcK t A n c (some ⟨gB,0,none⟩) m d) (by simp [results,Tryz.results16,go_sem,v0,v1,v2]) rfl (HI.out.done (by omega) (by omega) (by omega))
 · skip
   have k1:w3.cell? ⟨w.heap.size,1,none⟩=some (.slice A n c):=Zaa HI.out.xb 1 _ rfl;have k2:w3.cell? ⟨w.heap.size,2,none⟩=some (.slice B m d):=Zaa HI.out.xb 2 _ rfl;have p1:w3.frozen? ⟨w.heap.size,1,none⟩=false:=(by simp [World.frozen?,HI.out.xb]);have p2:w3.frozen? ⟨w.heap.size,2,none⟩=false:=(by simp [World.frozen?,HI.out.xb]);have hl:w.heap.size<w3.heap.size:=(by have:=HI.out.sz;omega);have k3:(w3.setCell ⟨w.heap.size,1,none⟩ (.slice none 0 0)).cell? ⟨w.heap.size,2,none⟩=some (.slice B m d):=(by rw [World.cell?_setCell_other _ _ _ _ (by simp)];exact k2);have p3:(w3.setCell ⟨w.heap.size,1,none⟩ (.slice none 0 0)).frozen? ⟨w.heap.size,2,none⟩=false:=(by rw [World.frozen?_setCell];exact p2);obtain⟨W5,hW5⟩:∃ W5,(w3.setCell ⟨w.heap.size,1,none⟩ (.slice none 0 0)).setCell ⟨w.heap.size,2,none⟩ (.slice none 0 0)=W5:=⟨_,rfl⟩;have HI:=hI (show ScI w W5 g t none 0 0 none 0 0 by rw [←hW5];exact HI.out.set2 ZgN ZgN);have z0:W5.cell? ⟨w.heap.size,0,none⟩=some (.int .i64 t):=Zaa HI.out.xb 0 _ rfl;have z1:W5.cell? ⟨w.heap.size,1,none⟩=some (.slice none 0 0):=Zaa HI.out.xb 1 _ rfl;have z2:W5.cell? ⟨w.heap.size,2,none⟩=some (.slice none 0 0):=Zaa HI.out.xb 2 _ rfl;have r0:W5.cell? ⟨w.heap.size+1,0,none⟩=some (.int .i64 0):=Zaa HI.out.rb 0 _ rfl;have r1:W5.cell? ⟨w.heap.size+1,1,none⟩=some (.slice none 0 0):=Zaa HI.out.rb 1 _ rfl;have r2:W5.cell? ⟨w.heap.size+1,2,none⟩=some (.slice none 0 0):=Zaa HI.out.rb 2 _ rfl;have q0:W5.frozen? ⟨w.heap.size+1,0,none⟩=false:=(by simp [World.frozen?,HI.out.rb]);have q1:W5.frozen? ⟨w.heap.size+1,1,none⟩=false:=(by simp [World.frozen?,HI.out.rb]);have q2:W5.frozen? ⟨w.heap.size+1,2,none⟩=false:=(by simp [World.frozen?,HI.out.rb]);have hlx:w.heap.size<W5.heap.size:=(by have:=HI.out.sz;omega);have hly:w.heap.size+1<W5.heap.size:=HI.out.sz
   go_wp2_with fail
   have e3:=Zbo (a0:=.int .i64 t) (a1:=.slice none 0 0) (a2:=.slice none 0 0) HI.out.rb;have v0:=Zaa e3 0 _ rfl;have v1:=Zaa e3 1 _ rfl;have v2:=Zaa e3 2 _ rfl;exact bodyPost_ret (v:=ZcK t none 0 0 none 0 0) (by simp [results,Tryz.results16,go_sem,v0,v1,v2]) rfl (HI.out.done (by omega) (by omega) (by omega))
theorem set_sub {x y:List Value} (h:∀ (j:Nat) (u:Value),x[j]?=some u→y[j]?=some u) (k:Nat) (a:Value):∀ (j:Nat) (u:Value),(x.set k a)[j]?=some u→(y.set k a)[j]?=some u:=fun j u hu=>by
 by_cases hj:k=j
 · subst hj;have h1:=(List.getElem?_eq_some_iff.1 hu).1;rw [List.length_set] at h1;have h2:=(List.getElem?_eq_some_iff.1 (h k _ (List.getElem?_eq_getElem h1))).1;rw [List.getElem?_set_self h1] at hu;rw [List.getElem?_set_self h2];exact hu
 · rw [List.getElem?_set_ne hj] at hu ⊢;exact h j u hu
theorem set3_split {vs:List Value} {k:Nat} {a b c:Value} (h:k+3≤vs.length):vs.take k++([a,b,c]++vs.drop (k+3))=((vs.set k a).set (k+1) b).set (k+2) c:=by
 have e:vs=vs.take k++(vs.drop k).take 3++vs.drop (k+3):=by
  rw [List.append_assoc,show vs.drop (k+3)=(vs.drop k).drop 3 by rw [List.drop_drop],List.take_append_drop,List.take_append_drop]
 obtain⟨x,hx⟩:∃ x,vs.take k=x:=⟨_,rfl⟩;obtain⟨y,hy⟩:∃ y,(vs.drop k).take 3=y:=⟨_,rfl⟩;obtain⟨z,hz⟩:∃ z,vs.drop (k+3)=z:=⟨_,rfl⟩;have lx:x.length=k:=(by rw [←hx,List.length_take];omega);have ly:y.length=3:=(by rw [←hy,List.length_take,List.length_drop];omega);rw [hx,hz];rw [hx,hy,hz] at e;subst e
 match y,ly with
 | [p,q,r],_ =>
  subst lx;simp [List.set_append]
theorem Zfx {α:Type} {l:List α} {i:Nat} {a:α} (h:i<l.length):l.set i a=l.take i++a :: l.drop (i+1):=by
 rw [List.set_eq_take_append_cons_drop,if_pos h]
section
variable {w:World} {B0 n c gl cp cq:Nat} {A P Q:Option Addr} {l:List Chg} {ch:Chg}
theorem mk_put {S1:Nat→Prop} (h:Mk w B0 (fun _=>False) 44 3 (.slice A n c) (l.map Zax)) {i:Nat} (hi:i<l.length) (hA:A=some ⟨gl,0,none⟩) (hl:l.length≤1000) (hP:ch.old.length≤cp∧RowS w S1 P ch.old) (hQ:ch.new.length≤cq∧RowS w S1 Q ch.new) (hS1:∀ b,S1 b→B0≤b∧b<w.heap.size∧b≠gl) :
  ChgS (((w.setCell ⟨gl,i*3,none⟩ (.int .i64 ch.table)).setCell ⟨gl,i*3+1,none⟩ (.slice P ch.old.length cp)).setCell ⟨gl,i*3+2,none⟩ (.slice Q ch.new.length cq)) (fun b=>B0≤b∧b<w.heap.size) A (l.set i ch):=by
 subst hA;have hb:=h.base_le (g:=gl) rfl;obtain⟨vals,h1,h2,h3⟩:=h.own;have hlen:vals.length=l.length*3:=(by rw [h2.len,Zbe ZaR]);obtain⟨W,hW⟩:∃ W,((w.setCell ⟨gl,i*3,none⟩ (.int .i64 ch.table)).setCell ⟨gl,i*3+1,none⟩ (.slice P ch.old.length cp)).setCell ⟨gl,i*3+2,none⟩ (.slice Q ch.new.length cq)=W:=⟨_,rfl⟩
 have hne:∀ b,b≠gl→W.heap[b]?=w.heap[b]?:=fun b hb=>by
  rw [←hW];exact(Below.heap_setCell _ ⟨gl,_,none⟩ _ b hb).trans ((Below.heap_setCell _ ⟨gl,_,none⟩ _ b hb).trans (Below.heap_setCell _ ⟨gl,_,none⟩ _ b hb))
 have hk:Same (fun b=>False∨Beh B0 w (.slice (some ⟨gl,0,none⟩) n c) b) w W:=fun b hb=>hne b (fun e=>(h3 b hb).2 (by rw [e];rfl));have hk1:Same S1 w W:=fun b hb=>hne b (hS1 b hb).2.2;have m1:∀ b,(False∨Beh B0 w (.slice (some ⟨gl,0,none⟩) n c) b)→B0≤b∧b<w.heap.size:=fun b hb=>hb.elim (fun h=>h.elim) (fun hb=>⟨hb.1,hb.2.1⟩);have m2:∀ b,S1 b→B0≤b∧b<w.heap.size:=fun b hb=>⟨(hS1 b hb).1,(hS1 b hb).2.1⟩;have t1:=(ZaE ZaR h2 i (by omega)).1;have t2:=(ZaE ZaR h2 (i+1) (by omega)).2
 have hv:Dat.ValsAll W (fun b=>B0≤b∧b<w.heap.size) ((l.set i ch).map Zax) (((vals.set (i*3) (.int .i64 ch.table)).set (i*3+1) (.slice P ch.old.length cp)).set (i*3+2) (.slice Q ch.new.length cq)):=by
  rw [Zfx hi,List.map_append,List.map_cons,←set3_split (by omega)];refine Zak (Dat.ValsAll.more m1 _ _ (Dat.ValsAll.keep hk _ _ t1)) (Zak (l:=[Zax ch]) (Zar (Zcl ⟨hP.1,(hP.2.keep hk1).more m2⟩ ⟨hQ.1,(hQ.2.keep hk1).more m2⟩)) ?_);have t3:=Dat.ValsAll.more m1 _ _ (Dat.ValsAll.keep hk _ _ t2);rw [show (i+1)*3=i*3+3 by omega] at t3;exact t3
 rw [hW];refine Sl.of_vals (by rw [Zaf (n:=56) (fun _=>rfl),List.length_set];omega) hv (fun _=>⟨gl,0,rfl,hb,fun j u hu=>?_⟩);rcases h1.2 with ⟨e,_⟩ | ⟨g',cap,cur,e1,_,hh,_,_,_,h9⟩
 · injection e with e _ _;cases e
 · injection e1 with e1 _ _;injection e1 with e1;injection e1 with e1;subst e1;obtain⟨vs⟩:=cur
   have hh2:W.heap[gl]?=some (.cells (((vs.set (i*3) (.int .i64 ch.table)).set (i*3+1) (.slice P ch.old.length cp)).set (i*3+2) (.slice Q ch.new.length cq)).toArray 44 (0,0)):=by
    rw [←hW];exact Zac (Zac (Zac hh))
   rw [Nat.zero_add];refine(show W.cell? ⟨gl,j,none⟩=W.cell? ⟨gl,0+j,none⟩ by rw [Nat.zero_add]).trans (Zaa hh2 j _ ?_)
   have hs:∀ (j:Nat) (u:Value),vals[j]?=some u→vs[j]?=some u:=fun j u hu=>by
    rw [←h9] at hu;have h8:(vs.take (List.length (l.map Zax)*3))[j]?=some u:=hu;rw [List.getElem?_take] at h8;split at h8
    · exact h8
    · cases h8
   simpa using set_sub (set_sub (set_sub hs _ _) _ _) _ _ j u hu
theorem mk_blk (h:Mk w B0 (fun _=>False) 44 3 (.slice A n c) (l.map Zax)) (hl:0<l.length):∃ gl,A=some ⟨gl,0,none⟩∧B0≤gl∧gl<w.heap.size∧∀ i,i<l.length*3→(∃ v,w.cell? ⟨gl,i,none⟩=some v)∧w.frozen? ⟨gl,i,none⟩=false:=by
 obtain⟨vals,h1,h2,h3⟩:=h.own;have hlen:vals.length=l.length*3:=(by rw [h2.len,Zbe ZaR]);rcases h1.2 with ⟨e,e0⟩ | ⟨g',cap,cur,e1,hB,hh,h4,h5,h6,h7⟩
 · simp only [List.length_map] at e0;omega
 · injection e1 with e1 _ _;refine⟨g',e1,hB,Zad hh,fun i hi=>⟨?_,by simp [World.frozen?,hh]⟩⟩;obtain⟨vs⟩:=cur;simp only [List.length_map] at h4 h7;have hi2:i<vs.length:=(by have h8:vs.length=cap*3 :=(by simpa using h6);omega);exact⟨vs[i],by have h9:=Zaa hh i _ (List.getElem?_eq_getElem hi2);rw [Nat.zero_add] at h9;exact h9⟩
theorem ChgS.take {S:Nat→Prop} (h:ChgS w S A l) {k:Nat} (hk:k≤l.length):ChgS w S A (l.take k):=by
 obtain⟨vs,h1,h2⟩:=Sl.vals h;have h0:=h.1;rw [Zaf (n:=56) (fun _=>rfl)] at h0;refine Sl.of_vals (by rw [Zaf (n:=56) (fun _=>rfl),List.length_take];omega) (ZaE ZaR h1 k hk).1 (fun hp=>?_);rw [List.length_map,List.length_take] at hp;obtain⟨b,off,e,hS,hc⟩:=h2 (by rw [List.length_map];omega);exact⟨b,off,e,hS,CellsAt.left (y:=vs.drop (k*3)) (by rw [List.take_append_drop];exact hc)⟩
end
theorem fits_row {s:Sch} {m:Int} {st:St} {l:List Chg} (hgs:GenS s) (h:Fit s m st l):∀ ch ∈ l,ch.old.length≤4∧ch.new.length≤4:=by
 have key:∀ (t:Int) (r:Row),Zaw s t r m=true→r.length≤4:=fun t r hf=>by
  rw [ZcQ hf];rcases Nat.lt_or_ge t.toNat s.tabs.length with hts | hts
  · have h3:=hgs.wide t.toNat hts;have h5:=hgs.kinds hts;have h6:=h5.2;rw [h5.1,List.length_map] at h6;omega
  · simp [List.getD,List.getElem?_eq_none hts,t0]
 induction l generalizing st with
 | nil=>intro ch hc;cases hc
 | cons x l ih =>
  intro ch hc;rcases List.mem_cons.1 hc with rfl | hc
  · have hv:=Zgh h.1.1;refine⟨?_,?_⟩
    · rcases Nat.eq_zero_or_pos ch.old.length with h0 | h0
      · omega
      · exact key _ _ (hv.1 h0)
    · rcases Nat.eq_zero_or_pos ch.new.length with h0 | h0
      · omega
      · exact key _ _ (hv.2 h0)
  · exact ih h.2 ch hc
abbrev LtW (w:World):Nat→Prop:=fun b=>b<w.heap.size
theorem Zav {W W':World} (hb:Below W.heap.size W W'):Same (LtW W) W W':=fun b h=>hb.block b h
theorem ZaI {W W':World} (hb:W.heap.size≤W'.heap.size):∀ b,LtW W b→LtW W' b:=fun b h=>Nat.lt_of_lt_of_le h hb
def Zbi (e:NetE):Dat:=.agg [.lit (.int .i64 e.t),ZaQ e.key,Zax e.c]
theorem ZcI (e:NetE):(Zbi e).size=5:=rfl
theorem ZbV (e:NetE):(Zbi e).Plain:=by simp [Zbi,Zax,ZaQ,Dat.Plain,Dat.PlainAll,Value.oneCell']
theorem infoN:(Tryz.prog.info? 124).map (fun i=>(i.zero,i.size,i.bytes))=some (some (.agg #[.int .i64 0,.slice none 0 0,.int .i64 0,.slice none 0 0,.slice none 0 0]),5,88):=by kernel_rfl
abbrev NetM (w:World) (base:Nat) (v:Value) (L:List NetE):Prop:=Mk w base (fun _=>False) 124 5 v (L.map Zbi)
abbrev BehR (base:Nat) (w:World):Nat→Prop:=fun b=>base≤b∧b<w.heap.size
section
variable {w w':World} {base n c:Nat} {A:Option Addr} {L:List NetE} {S:Nat→Prop}
theorem ZgI {t tc:Int} {key old new:Row} {AK A1 A2:Option Addr} {ck c1 c2:Nat} (h0:key.length≤ck∧RowS w S AK key) (h1:old.length≤c1∧RowS w S A1 old) (h2:new.length≤c2∧RowS w S A2 new) :
  Dat.Vals w S (Zbi ⟨t,key,⟨tc,old,new⟩⟩) [.int .i64 t,.slice AK key.length ck,.int .i64 tc,.slice A1 old.length c1,.slice A2 new.length c2]:=by
 unfold Zbi Dat.Vals Dat.ValsAll;refine⟨[.int .i64 t],[.slice AK key.length ck,.int .i64 tc,.slice A1 old.length c1,.slice A2 new.length c2],rfl,by unfold Dat.Vals;exact⟨rfl,trivial⟩,?_⟩;unfold Dat.ValsAll;refine⟨[.slice AK key.length ck],[.int .i64 tc,.slice A1 old.length c1,.slice A2 new.length c2],rfl,ZbJ h0.1 h0.2,?_⟩;unfold Dat.ValsAll;exact⟨[.int .i64 tc,.slice A1 old.length c1,.slice A2 new.length c2],[],rfl,Zcl h1 h2,by unfold Dat.ValsAll;rfl⟩
theorem net_vals {e:NetE} {vs:List Value} (h:Dat.Vals w S (Zbi e) vs):∃ AK ck A1 c1 A2 c2,vs=[.int .i64 e.t,.slice AK e.key.length ck,.int .i64 e.c.table,.slice A1 e.c.old.length c1,.slice A2 e.c.new.length c2]∧(e.key.length≤ck∧RowS w S AK e.key)∧(e.c.old.length≤c1∧RowS w S A1 e.c.old)∧(e.c.new.length≤c2∧RowS w S A2 e.c.new):=by
 unfold Zbi Dat.Vals at h;simp only [Dat.ValsAll,Zax,ZaQ,Dat.Vals] at h;obtain⟨a,b,rfl,⟨rfl,_⟩,a2,b2,rfl,⟨AK,ck,rfl,h1,h2⟩,a3,b3,rfl,⟨a4,b4,rfl,⟨rfl,_⟩,a5,b5,rfl,⟨A1,c1,rfl,h3,h4⟩,a6,b6,rfl,⟨A2,c2,rfl,h5,h6⟩,rfl⟩,rfl⟩:=h;simp only [List.length_map] at h1 h3 h5;exact⟨AK,ck,A1,c1,A2,c2,by simp,⟨h1,h2⟩,⟨h3,h4⟩,h5,h6⟩
theorem ZeI {α:Type} {enc:α→Dat} {n:Nat} (hs:∀ a,(enc a).size=n) {l:List α} {vs:List Value} (h:Dat.ValsAll w S (l.map enc) vs) {i:Nat} (hi:i<l.length) :
  Dat.ValsAll w S ((l.take i).map enc) (vs.take (i*n))∧Dat.Vals w S (enc l[i]) ((vs.drop (i*n)).take n)∧Dat.ValsAll w S ((l.drop (i+1)).map enc) (vs.drop (i*n+n))∧vs=vs.take (i*n)++((vs.drop (i*n)).take n++vs.drop (i*n+n)):=by
 have h1:=(ZaE hs h i (by omega)).1;have h2:=(ZaE hs h (i+1) (by omega)).2;have h3:=(ZaE hs h i (by omega)).2;have e:vs.drop (i*n+n)=(vs.drop (i*n)).drop n:=(by rw [List.drop_drop]);refine⟨h1,?_,by rw [Nat.add_mul,Nat.one_mul] at h2;exact h2,by rw [e,List.take_append_drop,List.take_append_drop]⟩;have h4:l.drop i=l[i] :: l.drop (i+1):=List.drop_eq_getElem_cons hi;rw [h4,List.map_cons] at h3;unfold Dat.ValsAll at h3;obtain⟨a,b,e1,h5,_⟩:=h3;have hl:a.length=n:=(by rw [h5.len,hs]);rw [e1,←hl,List.take_left];exact h5
theorem Zhz (h:NetM w base (.slice A n c) L) {i:Nat} (hi:i<L.length):∃ gl,A=some ⟨gl,0,none⟩∧base≤gl∧gl<w.heap.size∧∃ AK ck A1 c1 A2 c2,w.cell? ⟨gl,i*5,none⟩=some (.int .i64 L[i].t)∧w.cell? ⟨gl,i*5+1,none⟩=some (.slice AK L[i].key.length ck)∧w.cell? ⟨gl,i*5+2,none⟩=some (.int .i64 L[i].c.table)∧w.cell? ⟨gl,i*5+3,none⟩=some (.slice A1 L[i].c.old.length c1)∧w.cell? ⟨gl,i*5+4,none⟩=some (.slice A2 L[i].c.new.length c2)∧w.frozen? ⟨gl,i*5+4,none⟩=false ∧
  (L[i].key.length≤ck∧RowS w (BehR base w) AK L[i].key)∧(L[i].c.old.length≤c1∧RowS w (BehR base w) A1 L[i].c.old)∧(L[i].c.new.length≤c2∧RowS w (BehR base w) A2 L[i].c.new):=by
 obtain⟨vals,h1,h2,h3⟩:=h.own;rw [List.length_map] at h1;have hn:=h.len;rw [List.length_map] at hn;subst hn;obtain⟨gl,e1,hb,hl,hc⟩:=ZbP h1 (by omega);subst e1;obtain⟨cur,hh⟩:=(ZdI h1 (g:=gl) rfl).2;obtain⟨_,q2,_,q4⟩:=ZeI ZcI h2 hi;obtain⟨AK,ck,A1,c1,A2,c2,e2,r0,r1,r2⟩:=net_vals q2;rw [e2] at q4
 have hlen:(vals.take (i*5)).length=i*5:=by
  have:=h2.len;rw [Zbe ZcI] at this;rw [List.length_take];omega
 have hm:∀ b,(False∨Beh base w (.slice (some ⟨gl,0,none⟩) L.length c) b)→BehR base w b:=fun b hb=>hb.elim (fun h=>h.elim) (fun hb=>⟨hb.1,hb.2.1⟩)
 have hg:∀ (k:Nat) (u:Value),[Value.int .i64 L[i].t,.slice AK L[i].key.length ck,.int .i64 L[i].c.table,.slice A1 L[i].c.old.length c1,.slice A2 L[i].c.new.length c2][k]?=some u→w.cell? ⟨gl,i*5+k,none⟩=some u:=fun k u hu=>by
  refine hc (i*5+k) u ?_;rw [q4,List.getElem?_append_right (by omega),hlen,Nat.add_sub_cancel_left,List.getElem?_append_left (List.getElem?_eq_some_iff.1 hu).1];exact hu
 exact⟨gl,rfl,hb,hl,AK,ck,A1,c1,A2,c2,hg 0 _ rfl,hg 1 _ rfl,hg 2 _ rfl,hg 3 _ rfl,hg 4 _ rfl,by simp [World.frozen?,hh],⟨r0.1,r0.2.more hm⟩,⟨r1.1,r1.2.more hm⟩,⟨r2.1,r2.2.more hm⟩⟩
theorem net_put {i gl cp:Nat} {P:Option Addr} {r:Row} (h:NetM w base (.slice A n c) L) (hi:i<L.length) (hA:A=some ⟨gl,0,none⟩) (hP:r.length≤cp∧RowS w (Beh base w (.slice A n c)) P r) :
  NetM (w.setCell ⟨gl,i*5+4,none⟩ (.slice P r.length cp)) base (.slice A n c) (L.set i ⟨L[i].t,L[i].key,⟨L[i].c.table,L[i].c.old,r⟩⟩):=by
 subst hA;obtain⟨vals,h1,h2,h3⟩:=h.own;obtain⟨W,hW⟩:∃ W,w.setCell ⟨gl,i*5+4,none⟩ (.slice P r.length cp)=W:=⟨_,rfl⟩;have hsz:W.heap.size=w.heap.size:=(by rw [←hW];simp);have hne:∀ b,b≠gl→W.heap[b]?=w.heap[b]?:=(fun b hb=>by rw [←hW];exact Below.heap_setCell _ ⟨gl,_,none⟩ _ b hb);have hk:Same (fun b=>False∨Beh base w (.slice (some ⟨gl,0,none⟩) n c) b) w W:=fun b hb=>hne b (fun e=>(h3 b hb).2 (by rw [e];rfl));have hB:∀ b,(False∨Beh base w (.slice (some ⟨gl,0,none⟩) n c) b)→(False∨Beh base W (.slice (some ⟨gl,0,none⟩) n c) b):=fun b hb=>hb.imp id (fun hb=>⟨hb.1,by rw [hsz];exact hb.2.1,hb.2.2⟩);obtain⟨q1,q2,q3,q4⟩:=ZeI ZcI h2 hi;obtain⟨AK,ck,A1,c1,A2,c2,e2,r0,r1,r2⟩:=net_vals q2;have hlv:=h2.len;rw [Zbe ZcI] at hlv;have hlen:(vals.take (i*5)).length=i*5:=(by rw [List.length_take];omega)
 have hset:vals.set (i*5+4) (.slice P r.length cp)=vals.take (i*5)++([Value.int .i64 L[i].t,.slice AK L[i].key.length ck,.int .i64 L[i].c.table,.slice A1 L[i].c.old.length c1,.slice P r.length cp]++vals.drop (i*5+5)):=by
  rw [e2] at q4;obtain⟨x,hx⟩:∃ x,vals.take (i*5)=x:=⟨_,rfl⟩;obtain⟨y,hy⟩:∃ y,vals.drop (i*5+5)=y:=⟨_,rfl⟩;rw [hx] at hlen;rw [hx,hy] at q4 ⊢;rw [q4,←hlen];simp [List.set_append]
 have hv:Dat.ValsAll W (fun b=>False∨Beh base W (.slice (some ⟨gl,0,none⟩) n c) b) ((L.set i ⟨L[i].t,L[i].key,⟨L[i].c.table,L[i].c.old,r⟩⟩).map Zbi) (vals.set (i*5+4) (.slice P r.length cp)):=by
  rw [hset,Zfx hi,List.map_append,List.map_cons];refine Zak (Dat.ValsAll.more hB _ _ (Dat.ValsAll.keep hk _ _ q1)) (Zak (l:=[Zbi ⟨L[i].t,L[i].key,⟨L[i].c.table,L[i].c.old,r⟩⟩]) (Zar (Dat.Vals.more hB _ _ (Dat.Vals.keep hk _ _ (ZgI r0 r1 ⟨hP.1,hP.2.more (fun b hb=>.inr hb)⟩)))) (Dat.ValsAll.more hB _ _ (Dat.ValsAll.keep hk _ _ q3)))
 rw [hW];refine⟨⟨_,?_,hv,fun b hb=>?_⟩,h.lo,by rw [hsz];exact h.hi⟩
 · rw [List.length_map] at h1;rw [List.length_map,List.length_set];rcases h1.2 with ⟨e,_⟩ | ⟨g',cap,cur,e1,b1,hh,b2,b3,b4,b5⟩
   · injection e with e _ _;cases e
   · obtain⟨vs⟩:=cur;have eg:gl=g':=(by injection e1 with e1 _ _;injection e1 with e1;injection e1);subst eg;refine⟨by rw [List.length_set];exact h1.1,.inr ⟨gl,cap,(vs.set (i*5+4) (.slice P r.length cp)).toArray,e1,b1,by rw [←hW];exact Zac hh,b2,b3,by simpa using b4,?_⟩⟩;have b5':vs.take (L.length*5)=vals:=b5;show (vs.set (i*5+4) _).take (L.length*5)=_;rw [←b5',List.take_set]
 · rw [hsz];exact hb.elim (fun h=>h.elim) (fun hb=>⟨by rw [←hsz];exact hb.2.1,hb.2.2⟩)
end
end Go.Proofs.YtkpjjfhfbpfjpaaGreat
