import Derived.Test.YtkpjjfhfbpfjpaaK4e30bf
import Derived.RangeFuncBox
import Derived.RangeFuncNested
import Derived.RangeFuncLeaves
import Derived.RangeFuncCalls
import Derived.RangeFuncBound
import Derived.Shelf.Abstract
import Derived.OwnWalkIn
import Derived.TacticsInMore
import Derived.LoopNIn
import Derived.LoopIn
import Derived.Test.YtkpjjfhfbpfjpaaK660fb2
import Derived.Test.YtkpjjfhfbpfjpaaK740de7
import Derived.Test.YtkpjjfhfbpfjpaaK7c2f3a
import Derived.Test.YtkpjjfhfbpfjpaaK075934
set_option linter.unusedVariables false
set_option linter.unusedSimpArgs false
set_option maxRecDepth 100000
set_option maxHeartbeats 8000000
namespace Go.Proofs.Ytkpjjfhfbpfjpaa
open Go Go.RowKit
def ZeU (ops:Array Oper):Bool:=ops.all fun o=>match o.op with | .defer _=>false | _=>true
theorem noDefer_spec {ops:Array Oper} (h:ZeU ops=true) {i:Nat} {o:Oper} (ho:ops[i]?=some o):∀ c,o.op≠.defer c:=by
 intro c e;unfold ZeU at h;rw [Array.all_eq_true] at h;obtain⟨hi,e2⟩:=Array.getElem?_eq_some_iff.1 ho;have:=h i hi;rw [e2,e] at this;cases this
theorem uponIn_wide {l n:Nat} {P:Program} {o:Oper} {a:Act} {K:Act→World→Prop} {Q:Exit→Act→World→Prop} {r:Result Next} (h:o.upon P a K Q r):o.uponIn (Fence.wide.inRound l) n P a K Q r:=by
 match r,h with
 | .ok (.value v) w',h=>exact h
 | .ok .skip w',h=>exact h
 | .ok (.defer d) w',h=>exact h
 | .ok (.enter f args) w',h=>exact⟨fun hd=>by simp [Fence.wide] at hd,CallsIn.inRound l (callsIn_wide.2 h)⟩
 | .ok (.row row args) w',h=>exact⟨fun hd=>by simp [Fence.wide] at hd,rows_wide h⟩
 | .halt (.panic v) w',h=>exact h
where
 rows_wide {l n:Nat} {P:Program} {row:String} {args:Array Value} {w:World} {R:Value→World→Prop} (h:Rows P row args w R):RowsIn (Fence.wide.inRound l) n P row args w R :=
  fun c cs _=>let ⟨v,w',r,s⟩:=h c cs;⟨v,w',r,stepsIn_wide.2 s⟩
theorem wpOpIn_wide {l n:Nat} {P:Program} {ops:Array Oper} {Q:Exit→Act→World→Prop} {i:Nat} {K:Act→World→Prop} {a:Act} {w:World} (hnd:ZeU ops=true) (hl:¬ LetsOut Q) (h:wpOp P ops Q i K a w):wpOpIn (Fence.wide.inRound l) n P ops Q i K a w:=by
 unfold wpOp at h;unfold wpOpIn;cases ho:ops[i]? with
 | none=>rw [ho] at h;exact h
 | some o =>
  rw [ho] at h;simp only at h ⊢;split
  · rename_i hw
    rw [if_pos hw] at h;have h:=h.resolve_right (fun h=>hl h.2);refine⟨fun f _=>trivial,?_⟩;rw [Oper.semAt_eq _ _ _ (noDefer_spec hnd ho)];exact uponIn_wide h
  · rename_i hw
    rw [if_neg hw] at h;exact⟨fun f _=>trivial,h⟩
theorem Zeq {l n:Nat} {P:Program} {md:Region.Mode} {ops:Array Oper} {Q:Exit→Act→World→Prop} (hnd:ZeU ops=true) (hl:¬ LetsOut Q):∀ (k:Nat) (L:Array Bool) (a:Act) (w:World),wpAny P md ops Q k L a w→wpAnyIn (Fence.wide.inRound l) n P md ops Q k L a w
 | 0,_,_,_,h=>h
 | k+1,L,a,w,h=>⟨h.1,fun i hi=>wpOpIn_wide hnd hl (wpOp_mono (fun a' w' h'=>Zeq hnd hl k _ a' w' h') (h.2 i hi))⟩
theorem regionR_until {l m:Nat} {P:Program} {ops:Array Oper} {Q:Exit→Act→World→Prop} {id:Nat} {a:Act} {w:World} (S:World→Prop) (d n:Nat) (L:Array Bool) (hm:P.follows .mixedOrders=true) (hn:ops.size=n) (hL:Array.replicate ops.size false=L) (hnd:ZeU ops=true) (hl:¬ LetsOut Q)
  (h:AnyU P .any ops Q S d n L a w.drew):(Code.region id ops true).wpIn (Fence.wide.inRound l) m P Q a w :=
 wpIn_region_any hm (Zeq hnd hl _ _ _ _ (Zgm _ _ _ _ (by rw [hL,hn];exact h)))
theorem hideQIn {F:Fence} {n:Nat} {P:Program} {c:Code} {Q:Exit→Act→World→Prop} {a:Act} {w:World} (hl:¬ LetsOut Q) (hp:∀ c a d v w,Q (.panic c) (Act.put a d v) w→Q (.panic c) a w) (h:∀ Q',Hid (Q'=Q)→Hid (∀ c a d v w,Q' (.panic c) (Act.put a d v) w→Q' (.panic c) a w)→Hid (¬ LetsOut Q')→c.wpIn F n P Q' a w):c.wpIn F n P Q a w:=h Q (hI rfl) (hI hp) (hI hl)
open Go.Shelf
attribute [local go_sem] Oper.semAt_some
def dn (len:Nat):Nat→List { x:Nat // x<len }
 | 0=>[]
 | k+1=>dn len k++(if h:len - 1 - k<len then [⟨len - 1 - k,h⟩] else [])
theorem Zhg {len k:Nat} (h:k<len):dn len (k+1)=dn len k++[⟨len - 1 - k,by omega⟩]:=by
 rw [dn,dif_pos (show len - 1 - k<len by omega)]
theorem Zff {len:Nat}:∀ {k:Nat},k≤len→(dn len k).length=k
 | 0,_=>rfl
 | k+1,h=>by rw [Zhg (by omega),List.length_append,Zff (by omega)];rfl
def BK (n₀ Bs:Nat) (W W':World):Prop:=Below n₀ W W'∧W'.heap[Bs]?=W.heap[Bs]?
theorem BK.refl (n₀ Bs:Nat) (W:World):BK n₀ Bs W W:=⟨Below.refl _ _,rfl⟩
theorem BK.trans {n₀ Bs:Nat} {A B C:World} (h:BK n₀ Bs A B) (k:BK n₀ Bs B C):BK n₀ Bs A C:=⟨h.1.trans k.1,k.2.trans h.2⟩
theorem BK.put {n₀ Bs B:Nat} (hn:n₀≤B) (hB:Bs<B) (W:World) (l:Nat) (o o':Obj) (hl:B≤l) (ho:W.heap[l]?=some o) (h1:o.isCells=false) (h2:o.isWalk=false):BK n₀ Bs W (W.putObj l o'):=by
 have hg:=grownBy_putObj' W l o';have hlt:=Zad ho;exact⟨⟨hg.os,hg.tape,hg.output,hg.size,fun b hb=>hg.block b (by omega) (fun e=>by injection e with e;omega)⟩,hg.block Bs (by omega) (fun e=>by injection e with e;omega)⟩
theorem back1_in (F:Fence) (n:Nat) (h7:F.fn 101) (hro:F.round=none) (hn:1≤n) (l Bs n₀ b off len cap:Nat) (f0 f1 f2:Nat→Value) (hlen:len≤2513169434916) (hb:b<n₀) (J Jx:List { x:Nat // x<len }→World→Prop)
  (hY:∀ pre x W,J pre W→pre.length<len→YieldAt F (n - 1) Try.prog l #[.int .i64 (x.1:Int),.agg #[f0 x.1,f1 x.1,f2 x.1]] W fun e W' =>
   (e=.returned (.bool true)∧J (pre++[x]) W'∧BK n₀ Bs W W')∨(e=.returned (.bool false)∧Jx (pre++[x]) W'))
  (W:World) (hBs:W.cell? ⟨Bs,0,none⟩=some (.slice (some ⟨b,off,none⟩) len cap)) (hc:∀ j,j<len→W.cell? ⟨b,off+j*3,none⟩=some (f0 j)∧W.cell? ⟨b,off+j*3+1,none⟩=some (f1 j)∧W.cell? ⟨b,off+j*3+2,none⟩=some (f2 j)) (h0:J [] W) :
  CallsIn F n Try.prog 101 #[.func (.yield l) #[] #[],.pointer (some ⟨Bs,0,none⟩)] W fun e W'=>(∃ v,e=.returned v) ∧
   ((∃ ys,ys=dn len len∧J ys W')∨(∃ pre,(∃ k,k≤len∧pre=dn len k)∧Jx pre W')):=by
 refine callsIn_of_wp Try.func101 rfl h7 ?_ hro;simp only [Try.ntmps101,List.size_toArray,List.length_cons,List.length_nil,Nat.reduceAdd,Nat.reduceSub,Array.replicate_succ,Array.replicate_zero,List.push_toArray,List.append_toArray,List.nil_append,List.cons_append]
 gi_wp2
 gi_loopw [3] (fun i wr=>∃ k:Nat,k≤len∧i=.int .i64 ((len:Int) - 1 - k)∧J (dn len k) wr∧BK n₀ Bs W wr)
  (fun i _=>(intOf i+1).toNat)
 case atStart=>exact⟨0,Nat.zero_le _,by simp,h0,BK.refl _ _ _⟩
 case round =>
  obtain⟨k,hk,rfl,hJs,hnx⟩:=hrel
  by_cases hlt:k<len
  · obtain⟨q,hq,hqlt⟩:∃ q,len - 1 - k=q∧q<len:=⟨_,rfl,by omega⟩;have HS:=hI (show dn len (k+1)=dn len k++[⟨q,hqlt⟩] by subst hq;exact Zhg hlt);obtain⟨c0,c1,c2⟩:=hc q hqlt;obtain⟨fn,tmps,assign,body,hy,hR⟩:=hY _ ⟨q,hqlt⟩ wr hJs (by rw [Zff hk];exact hlt);dsimp only at hy;have hcs:wr.cell? ⟨Bs,0,none⟩=some (.slice (some ⟨b,off,none⟩) len cap):=(World.cell?_of_block (w:=W) (a:=⟨Bs,0,none⟩) hnx.2).trans hBs;have d0:=c9Q hnx.1 hb c0;have d1:=c9Q hnx.1 hb c1;have d2:=c9Q hnx.1 hb c2;have HNX:=hI hnx;have HC:=hI hc;clear c0 c1 c2 hc hnx;have hqi:(len:Int) - 1 - k=q:=(by omega);rw [hqi];have hql:(q:Int)<len:=(by omega);have hq0:decide ((0:Int)≤(q:Int))=true:=decide_eq_true (by omega);have HQ:=hI hq;clear hqi hq
    gi_wp2
    refine hR.mono ?_;rintro e W3 (⟨rfl,hJ3,hk3⟩ | ⟨rfl,hJx3⟩)
    · gi_wp2
      go_roundw
      case rel=>exact⟨k+1,by omega,by have:=HQ.out;congr 1;omega,by rw [HS.out];exact hJ3,HNX.out.trans hk3⟩
      case measure=>simp [intOf]
    · gi_wp2
      refine bodyPost_ret (results_none rfl _ _ _) rfl ?_;exact⟨⟨_,rfl⟩,.inr ⟨_,⟨k+1,by omega,HS.out.symm⟩,hJx3⟩⟩
  · obtain rfl:k=len:=(by omega);have hq0:decide ((0:Int)≤(k:Int) - 1 - k)=false:=decide_eq_false (by omega)
    gi_wp2
    go_end0
    exact⟨⟨_,rfl⟩,.inl ⟨_,rfl,hJs⟩⟩
theorem back1_nil (F:Fence) (n:Nat) (h7:F.fn 101) (hro:F.round=none) (l Bs:Nat) (A:Option Addr) (cap:Nat) (J:List { x:Nat // x<0 }→World→Prop) (W:World) (hBs:W.cell? ⟨Bs,0,none⟩=some (.slice A 0 cap)) (h0:J [] W) :
  CallsIn F n Try.prog 101 #[.func (.yield l) #[] #[],.pointer (some ⟨Bs,0,none⟩)] W fun e W'=>(∃ v,e=.returned v)∧J [] W':=by
 refine callsIn_of_wp Try.func101 rfl h7 ?_ hro;simp only [Try.ntmps101,List.size_toArray,List.length_cons,List.length_nil,Nat.reduceAdd,Nat.reduceSub,Array.replicate_succ,Array.replicate_zero,List.push_toArray,List.append_toArray,List.nil_append,List.cons_append]
 gi_wp2
 gi_loopw [3] (fun i wr=>i=.int .i64 (-1)∧J [] wr) (fun _ _=>0)
 case atStart=>exact⟨by simp,h0⟩
 case round =>
  obtain⟨rfl,hJs⟩:=hrel
  gi_wp2
  go_end0
  exact⟨⟨_,rfl⟩,hJs⟩
theorem back_in (F:Fence) (n:Nat) (h5:F.fn 65) (hro:F.round=none) (a:Option Addr) (len cap:Nat) (w:World) :
  CallsIn F n Try.prog 65 #[.slice a len cap] w fun e w'=>e=.returned (.func (.func 101) #[] #[.pointer (some ⟨w.heap.size,0,none⟩)])∧w'=w.alloc (.cells #[.slice a len cap] 48):=by
 refine callsIn_of_wp Try.func65 rfl h5 ?_ hro;simp only [Try.ntmps65,List.size_toArray,List.length_cons,List.length_nil,Nat.reduceAdd,Nat.reduceSub,Array.replicate_succ,Array.replicate_zero,List.push_toArray,List.append_toArray,List.nil_append,List.cons_append]
 gi_wp2
 go_ret;exact⟨rfl,rfl⟩
theorem back_stops (F:Fence) (n:Nat) (h7:F.fn 101) (hro:F.round=none) (hn:1≤n) (Bs n₀:Nat) (A:Option Addr) (len cap:Nat) (f0 f1 f2:Nat→Value) (hlen:len≤2513169434916) (w:World) (hBs:Bs<w.heap.size) (hn₀:n₀≤w.heap.size)
  (hc:w.cell? ⟨Bs,0,none⟩=some (.slice A len cap)) (hI:0<len→∃ b off,A=some ⟨b,off,none⟩∧b<n₀∧∀ j,j<len→w.cell? ⟨b,off+j*3,none⟩=some (f0 j)∧w.cell? ⟨b,off+j*3+1,none⟩=some (f1 j)∧w.cell? ⟨b,off+j*3+2,none⟩=some (f2 j)) :
  SeqStopsK F n Try.prog 101 #[.pointer (some ⟨Bs,0,none⟩)] (fun x:{ x:Nat // x<len }=>#[Value.int .i64 (x.1:Int),.agg #[f0 x.1,f1 x.1,f2 x.1]]) (BK n₀ Bs) (fun ys=>ys=dn len len) (fun pre=>∃ k,k≤len∧pre=dn len k) len w:=fun l J Jx W hW _ _ hY h0=>by
 have hc':=c9Q hW hBs hc;rcases Nat.eq_zero_or_pos len with h | h
 · subst h;exact(back1_nil F n h7 hro l Bs A cap J W hc' h0).mono fun e W' ⟨he,hj⟩=>⟨he,.inl ⟨_,rfl,hj⟩⟩
 · obtain⟨b,off,rfl,hb,hcs⟩:=hI h;have hk:∀ o,W.cell? ⟨b,o,none⟩=w.cell? ⟨b,o,none⟩:=fun o=>hW.cell (p:=⟨b,o,none⟩) (by show b<_;omega);exact back1_in F n h7 hro hn l Bs n₀ b off len cap f0 f1 f2 hlen hb J Jx hY W hc' (fun j hj=>by rw [hk,hk,hk];exact hcs j hj) h0
end Go.Proofs.Ytkpjjfhfbpfjpaa
namespace Go.Proofs.Ytkpjjfhfbpfjpaa
open Go.RowKit Go.Shelf
def invC (c:Chg):Chg:=⟨c.table,c.new,c.old⟩
def invF (l:List Chg):List Chg:=l.reverse.map invC
theorem dn_map (l:List Chg):(dn l.length l.length).map (fun x=>invC (l.getD x.1 chg0))=invF l:=by
 have key:∀ k,k≤l.length→(dn l.length k).map (fun x=>invC (l.getD x.1 chg0))=(l.reverse.take k).map invC:=by
  intro k;induction k with
  | zero=>intro _;rfl
  | succ k ih =>
   intro hk;rw [Zhg (by omega),List.map_append,ih (by omega),List.take_succ_eq_append_getElem (by simp;omega),List.map_append];simp [List.getD,show l.length - 1 - k<l.length by omega]
 have:=key l.length nR;rw [this,List.take_of_length_le (by simp)];rfl
def IsC (W:World) (b:Nat):Prop:=∃ cs t fr,W.heap[b]?=some (.cells cs t fr)
theorem IsC.lt {W:World} {b:Nat} (h:IsC W b):b<W.heap.size:=by obtain⟨_,_,_,h⟩:=h;exact Zad h
theorem ZeT {w:World} {base size n:Nat} {e:TypeId} {v:Value} {xs:List Value} (h:w.ownsRow base e size v n xs) {g:Nat} (hg:v.ownBlock=some g):IsC w g:=by
 obtain⟨_,cur,hh⟩:=Zef h hg;exact⟨_,_,_,hh⟩
theorem ZeS {w:World} {base c:Nat} {A:Option Addr} {r:Row} (h:w.ownsRow base 51 3 (.slice A r.length c) r.length (Zar r)) (hl:RowOk r):r.length≤c∧RowS w (fun b=>some b=(Value.slice A r.length c).ownBlock) A r:=by
 refine⟨Zby h rfl,⟨by have:=hl.1;rw [Zag (n:=32) (fun _=>rfl)];omega,fun hn=>?_⟩⟩;obtain⟨g,e,hb,hlt,hc⟩:=Zck h (by simpa using hn);exact⟨g,0,e,by rw [e];rfl,ZbK r g 0 hl.2 (fun j u hu=>by rw [Nat.zero_add];exact hc j u hu)⟩
def InvI (w:World) (B1:Nat) (l:List Chg) (pre:List { x:Nat // x<l.length }) (W:World):Prop :=
 ∃ (Av:Option Addr) (cv:Nat) (T:Nat→Prop),Boxed W B1 48 (.slice Av pre.length cv)∧OwnD W w.heap.size 53 3 T (.slice Av pre.length cv) ((pre.map (fun x=>invC (l.getD x.1 chg0))).map Zal)∧(∀ b,T b→w.heap.size≤b∧b≠B1∧IsC W b)∧Below w.heap.size w W∧B1+2≤W.heap.size∧∀ g,(Value.slice Av pre.length cv).ownBlock=some g→g≠B1+1
theorem Zhx (w:World) (B1 B:Nat) (l:List Chg) (hB:w.heap.size≤B):OwnFrom B (InvI w B1 l):=by
 intro pre W W' row h hg hr;obtain⟨Av,cv,T,h1,h2,h3,h4,h5,h6⟩:=h
 have hne:∀ b,IsC W b→W'.heap[b]?=W.heap[b]?:=fun b hb=>hg.block b hb.lt (fun e=>by
  obtain⟨_,o,ho,hc⟩:=hr b e.symm;obtain⟨cs,t,fr,hb⟩:=hb;rw [hb] at ho;injection ho with ho;subst ho;cases hc)
 have hC:∀ b,IsC W b→IsC W' b:=fun b hb=>by
  have:=hne b hb;obtain⟨cs,t,fr,hb⟩:=hb;exact⟨cs,t,fr,this.trans hb⟩
 refine⟨Av,cv,T,(hne B1 ⟨_,_,_,h1⟩).trans h1,h2.keep hg.size (fun b hb=>hne b (h3 b hb).2.2) (fun g hg'=>by obtain⟨_,q,_⟩:=h2;exact hne g (ZeT q hg')),fun b hb=>⟨(h3 b hb).1,(h3 b hb).2.1,hC b (h3 b hb).2.2⟩,⟨hg.os.trans h4.os,hg.tape.trans h4.tape,hg.output.trans h4.output,Nat.le_trans h4.size hg.size,fun b hb=>(hg.block b (by have:=h4.size;omega) (fun e=>by have:=(hr b e.symm).1;omega)).trans (h4.block b hb)⟩,Nat.le_trans h5 hg.size,h6⟩
theorem inv_push {w W wa wb w7:World} {B1 n g cap:Nat} {L:List Chg} {T:Nat→Prop} {Av A B:Option Addr} {cv c d:Nat} {t:Int} {old new:Row} {vals:List Value} (hB1:w.heap.size≤B1) (hbox:Boxed W B1 48 (.slice Av n cv)) (hn:n=L.length)
  (hown:W.ownsRow w.heap.size 53 3 (.slice Av n cv) n vals) (hv:Dat.ValsAll W T (L.map Zal) vals) (hT:∀ b,T b→w.heap.size≤b∧b≠B1∧IsC W b) (hTo:∀ b,T b→some b≠(Value.slice Av n cv).ownBlock) (hbel:Below w.heap.size w W)
  (hba:Below W.heap.size W wa) (howa:wa.ownsRow W.heap.size 51 3 (.slice A old.length c) old.length (Zar old)) (ho1:RowOk old) (hbb:Below wa.heap.size wa wb) (howb:wb.ownsRow wa.heap.size 51 3 (.slice B new.length d) new.length (Zar new)) (ho2:RowOk new) (o:Obj)
  (hg:(wb.alloc o).grownBy w7 (Value.slice Av n cv).ownBlock) (hat:(Value.slice Av n cv).ownBlock=some g∨g=wb.heap.size+1) (hown7:w7.ownsRow w.heap.size 53 3 (.slice (some ⟨g,0,none⟩) (n+1) cap) (n+1) (vals++[.int .i64 t,.slice A old.length c,.slice B new.length d])) :
  ∃ T',Boxed (w7.setCell ⟨B1,0,none⟩ (.slice (some ⟨g,0,none⟩) (n+1) cap)) B1 48 (.slice (some ⟨g,0,none⟩) (n+1) cap)∧OwnD (w7.setCell ⟨B1,0,none⟩ (.slice (some ⟨g,0,none⟩) (n+1) cap)) w.heap.size 53 3 T' (.slice (some ⟨g,0,none⟩) (n+1) cap) ((L++[(⟨t,old,new⟩:Chg)]).map Zal) ∧
   (∀ b,T' b→w.heap.size≤b∧b≠B1∧IsC (w7.setCell ⟨B1,0,none⟩ (.slice (some ⟨g,0,none⟩) (n+1) cap)) b)∧Below w.heap.size w (w7.setCell ⟨B1,0,none⟩ (.slice (some ⟨g,0,none⟩) (n+1) cap))∧(∀ b,b<W.heap.size→b≠B1→some b≠(Value.slice Av n cv).ownBlock→(w7.setCell ⟨B1,0,none⟩ (.slice (some ⟨g,0,none⟩) (n+1) cap)).heap[b]?=W.heap[b]?)∧W.heap.size≤w7.heap.size:=by
 subst hn;have hsa:=hba.size;have hsb:=hbb.size;have hsg:=hg.size;rw [World.size_alloc] at hsg;have hlb:=hbox.lt;have hw:=hbel.size;have hobn:∀ g',(Value.slice Av L.length cv).ownBlock=some g'→w.heap.size≤g'∧g'<W.heap.size:=fun g' hg'=>⟨ZaF hown hg',ZaE hown hg'⟩;have hbo:some B1≠(Value.slice Av L.length cv).ownBlock:=hbox.not_row (by decide) hown;have hk:∀ b,b<W.heap.size→some b≠(Value.slice Av L.length cv).ownBlock→w7.heap[b]?=W.heap[b]?:=fun b h1 h2=>(hg.block b (by rw [World.size_alloc];omega) h2).trans ((Below.heap_alloc wb o b (by omega)).trans ((hbb.block b (by omega)).trans (hba.block b h1)));have hbox7:Boxed w7 B1 48 (.slice Av L.length cv):=(hk B1 hlb hbo).trans hbox;have hset:∀ b,b≠B1→(w7.setCell ⟨B1,0,none⟩ (.slice (some ⟨g,0,none⟩) (L.length+1) cap)).heap[b]?=w7.heap[b]?:=fun b hb=>Below.heap_setCell w7 ⟨B1,0,none⟩ _ b hb
 have hgB:g≠B1:=fun e=>by
  rcases hat with hat | hat
  · exact hbo (by rw [hat,e])
  · omega
 obtain⟨hA1,hA2⟩:=ZeS howa ho1;obtain⟨hD1,hD2⟩:=ZeS howb ho2;have kA:∀ b,some b=(Value.slice A old.length c).ownBlock→W.heap.size≤b∧b<wa.heap.size∧IsC wa b:=fun b e=>⟨ZaF howa e.symm,ZaE howa e.symm,ZeT howa e.symm⟩;have kB:∀ b,some b=(Value.slice B new.length d).ownBlock→wa.heap.size≤b∧b<wb.heap.size∧IsC wb b:=fun b e=>⟨ZaF howb e.symm,ZaE howb e.symm,ZeT howb e.symm⟩;have kA7:∀ b,some b=(Value.slice A old.length c).ownBlock→w7.heap[b]?=wa.heap[b]?:=fun b e=>(hg.block b (by rw [World.size_alloc];have:=(kA b e).2.1;omega) (fun e'=>by have:=(hobn b e'.symm).2;have:=(kA b e).1;omega)).trans ((Below.heap_alloc wb o b (by have:=(kA b e).2.1;omega)).trans (hbb.block b (kA b e).2.1));have kB7:∀ b,some b=(Value.slice B new.length d).ownBlock→w7.heap[b]?=wb.heap[b]?:=fun b e=>(hg.block b (by rw [World.size_alloc];have:=(kB b e).2.1;omega) (fun e'=>by have:=(hobn b e'.symm).2;have:=(kB b e).1;omega)).trans (Below.heap_alloc wb o b (kB b e).2.1);have isC_of:∀ {X Y:World} {b:Nat},Y.heap[b]?=X.heap[b]?→IsC X b→IsC Y b:=(fun e h=>by obtain⟨cs,t,fr,h⟩:=h;exact⟨cs,t,fr,e.trans h⟩);refine⟨fun b=>T b∨some b=(Value.slice A old.length c).ownBlock∨some b=(Value.slice B new.length d).ownBlock,Boxed.set _ hbox7,?_,?_,?_,?_,by omega⟩
 · refine⟨vals++[.int .i64 t,.slice A old.length c,.slice B new.length d],?_,?_,?_⟩
   · rw [List.length_map,List.length_append];exact ZaU hown7 (fun g' e=>hset g' (by have:g=g' :=(by simpa [Value.ownBlock] using e);omega))
   · rw [List.map_append];refine Zav (Dat.ValsAll.more (fun b hb=>.inl hb) _ _ (Dat.ValsAll.keep (fun b hb=>(hset b (hT b hb).2.1).trans (hk b (hT b hb).2.2.lt (hTo b hb))) _ _ hv)) ?_;simp only [List.map_cons,List.map_nil];refine ZaA (Zca (S:=fun b=>T b∨some b=(Value.slice A old.length c).ownBlock∨some b=(Value.slice B new.length d).ownBlock) ⟨hA1,(hA2.keep (fun b hb=>(hset b (by have:=(kA b hb).1;omega)).trans (kA7 b hb))).more (fun b hb=>.inr (.inl hb))⟩ ⟨hD1,(hD2.keep (fun b hb=>(hset b (by have:=(kB b hb).1;omega)).trans (kB7 b hb))).more (fun b hb=>.inr (.inr hb))⟩)
   · intro b hb
     have hlt:b<w7.heap.size:=by
      rcases hb with hb | hb | hb
      · have:=(hT b hb).2.2.lt;omega
      · have:=(kA b hb).2.1;omega
      · have:=(kB b hb).2.1;omega
     refine⟨by simpa using hlt,fun e=>?_⟩;have e':b=g:=(by simpa [Value.ownBlock] using e);subst e';rcases hat with hat | hat
     · rcases hb with hb | hb | hb
       · exact hTo b hb hat.symm
       · have:=(hobn b hat).2;have:=(kA b hb).1;omega
       · have:=(hobn b hat).2;have:=(kB b hb).1;omega
     · rcases hb with hb | hb | hb
       · have:=(hT b hb).2.2.lt;omega
       · have:=(kA b hb).2.1;omega
       · have:=(kB b hb).2.1;omega
 · intro b hb;rcases hb with hb | hb | hb
   · exact⟨(hT b hb).1,(hT b hb).2.1,isC_of ((hset b (hT b hb).2.1).trans (hk b (hT b hb).2.2.lt (hTo b hb))) (hT b hb).2.2⟩
   · have h1:=kA b hb;exact⟨by omega,by omega,isC_of ((hset b (by omega)).trans (kA7 b hb)) h1.2.2⟩
   · have h1:=kB b hb;exact⟨by omega,by omega,isC_of ((hset b (by omega)).trans (kB7 b hb)) h1.2.2⟩
 · refine⟨hg.os.trans (hbb.os.trans (hba.os.trans hbel.os)),hg.tape.trans (hbb.tape.trans (hba.tape.trans hbel.tape)),hg.output.trans (hbb.output.trans (hba.output.trans hbel.output)),by simp;omega,fun b hb=>(hset b (by omega)).trans ((hk b (by omega) (fun e=>by have:=(hobn b e.symm).1;omega)).trans (hbel.block b hb))⟩
 · exact fun b h1 h2 h3=>(hset b h2).trans (hk b h1 h3)
attribute [local go_sem] Oper.semAt_some
theorem run_make_chg (n:Nat) (hn:n≤2513169434916) (w:World):∃ cs:Array Value,(Instr.makeSlice 48 (.int .i64 0) (.int .i64 (n:Int))).run Try.prog w=.ok (.slice (some ⟨w.heap.size,0,none⟩) 0 n) (w.alloc (.cells cs 53))∧cs.size=n*3:=by
 obtain⟨i0,hi,hz0,hz1,hz2⟩:=info_parts ZhJ;have hr:=run_make (P:=Try.prog) w 48 53 i0 _ Try.underlying48 hi hz0 .i64 .i64 0 n (by omega) (by omega) (by rw [hz2];omega) (by omega);refine⟨_,hr,?_⟩;rw [hz1];simp [size_madeCells]
def NewCs (l:List Chg) (w:World) (e:Ending) (w':World):Prop:=∃ A c,e=.returned (.slice A l.length c)∧l.length≤c∧ChgS w' (New w w') A l∧Below w.heap.size w w'
theorem Zdl (A:Option Addr) (ca:Nat) (l:List Chg) (S:Nat→Prop) (w:World) (hl:ChgS w S A l) (hS:∀ b,S b→b<w.heap.size) :
  Calls Try.prog 24 #[.slice A l.length ca] w (NewCs (invF l) w):=by
 have hll:=hl.len;have HL:=hI hl;obtain⟨i0,hi,hz0,hz1,hz2⟩:=info_parts ZhJ
 obtain⟨b0,o0,hA⟩:∃ b0 o0,0<l.length→A=some ⟨b0,o0,none⟩∧S b0:=by
  rcases Nat.eq_zero_or_pos l.length with h | h
  · exact⟨0,0,fun h'=>by omega⟩
  · obtain⟨b,o,e,hb,_⟩:=hl.2 (by simpa using h);exact⟨b,o,fun _=>⟨e,hb⟩⟩
 obtain⟨f0,hf0⟩:∃ f0:Nat→Value,∀ k,f0 k=(w.cell? ⟨b0,o0+k*3,none⟩).getD undef:=⟨_,fun _=>rfl⟩;obtain⟨f1,hf1⟩:∃ f1:Nat→Value,∀ k,f1 k=(w.cell? ⟨b0,o0+k*3+1,none⟩).getD undef:=⟨_,fun _=>rfl⟩;obtain⟨f2,hf2⟩:∃ f2:Nat→Value,∀ k,f2 k=(w.cell? ⟨b0,o0+k*3+2,none⟩).getD undef:=⟨_,fun _=>rfl⟩
 have HE:=hI (show ∀ k,k<l.length→∃ A1 c1 A2 c2,w.cell? ⟨b0,o0+k*3,none⟩=some (f0 k)∧w.cell? ⟨b0,o0+k*3+1,none⟩=some (f1 k)∧w.cell? ⟨b0,o0+k*3+2,none⟩=some (f2 k)∧f0 k=.int .i64 (l.getD k chg0).table∧f1 k=.slice A1 (l.getD k chg0).old.length c1∧f2 k=.slice A2 (l.getD k chg0).new.length c2∧ChV w S (l.getD k chg0) A1 c1 A2 c2 from fun k hk=>by
  obtain⟨b,o,e,hb,d0,A1,c1,A2,c2,d1,e1,hR1,d2,e2,hR2⟩:=hl.at_ hk;rw [(hA (by omega)).1] at e;injection e with e;injection e with ea eb;subst ea eb;exact⟨A1,c1,A2,c2,by rw [hf0,d0];rfl,by rw [hf1,d1];rfl,by rw [hf2,d2];rfl,by rw [hf0,d0];rfl,by rw [hf1,d1];rfl,by rw [hf2,d2];rfl,hR1,e1,hR2,e2⟩)
 have HA:=hI hA;clear hf0 hf1 hf2 hA hl;obtain⟨cs,hmk,hcs⟩:=run_make_chg l.length hll w;have HCS:=hI hcs;clear hcs;refine(callsIn_wide (n:=3)).1 ?_;refine callsIn_of_wp_marks Try.func24 rfl trivial ?_ rfl;simp only [Try.ntmps24,List.size_toArray,List.length_cons,List.length_nil,Nat.reduceAdd,Nat.reduceSub,Array.replicate_succ,Array.replicate_zero,List.push_toArray,List.append_toArray,List.nil_append,List.cons_append]
 gi_wp2_with (refine⟨trivial,?_⟩;gi_at_call 65;refine(back_in Fence.wide _ trivial rfl _ _ _ _).mono ?_;rintro e w' ⟨rfl,rfl⟩)
 obtain⟨W0,hW0⟩:∃ W0,((w.alloc (.cells cs 53)).alloc (.cells #[.slice (some ⟨w.heap.size,0,none⟩) 0 l.length] 48)).alloc (.cells #[.slice A l.length ca] 48)=W0:=⟨_,rfl⟩;have hsz0:W0.heap.size=w.heap.size+3:=(by rw [←hW0];simp);have hB0:Below w.heap.size w W0:=(by rw [←hW0];exact(((Below.refl _ w).alloc nR _).alloc (by simp) _).alloc (by simp;omega) _)
 have hbx0:Boxed W0 (w.heap.size+1) 48 (.slice (some ⟨w.heap.size,0,none⟩) 0 l.length):=by
  rw [←hW0];have h:=Boxed.new (w.alloc (.cells cs 53)) 48 (.slice (some ⟨w.heap.size,0,none⟩) 0 l.length);rw [World.size_alloc] at h;exact h.alloc _
 have hbs0:W0.cell? ⟨w.heap.size+2,0,none⟩=some (.slice A l.length ca):=(by rw [←hW0];exact Zae (by simp) rfl)
 have hI0:InvI w (w.heap.size+1) l [] W0:=by
  refine⟨some ⟨w.heap.size,0,none⟩,l.length,fun _=>False,hbx0,⟨[],⟨rfl,.inr ⟨w.heap.size,l.length,cs,rfl,Nat.le_refl _,?_,Nat.zero_le _,by unfold maxLen;omega,HCS.out,by simp⟩⟩,by simp only [List.map_nil];unfold Dat.ValsAll;rfl,fun b h=>h.elim⟩,fun b h=>h.elim,hB0,by omega,fun g hg=>by have h9:w.heap.size=g:=(by simpa [Value.ownBlock] using hg);omega⟩;rw [←hW0];exact(Below.heap_alloc _ _ _ (by simp;omega)).trans ((Below.heap_alloc _ _ _ (by simp)).trans (heap_alloc_new w _))
 rw [hW0];clear hmk
 refine wpIn_rangeFunc_ownH rfl (by omega) (gf:=101) (lb:=#[.pointer (some ⟨w.heap.size+2,0,none⟩)]) rfl trivial (enters_of Try.func101 (by kernel_rfl) rfl)
  (back_stops Fence.wide (3 - 1) trivial rfl (by omega) (w.heap.size+2) w.heap.size A l.length ca f0 f1 f2 hll W0 (by omega) (by omega) hbs0 (fun h0=>⟨b0,o0,(HA.out h0).1,hS b0 (HA.out h0).2,fun j hj=>by
   obtain⟨_,_,_,_,h1,h2,h3,_⟩:=HE.out j hj;have hk:∀ o,W0.cell? ⟨b0,o,none⟩=w.cell? ⟨b0,o,none⟩:=fun o=>hB0.cell (p:=⟨b0,o,none⟩) (hS b0 (HA.out h0).2);rw [hk,hk,hk];exact⟨h1,h2,h3⟩⟩))
  BK.trans (BK.put (by omega) (by omega)) (Below.refl _ _) (fun _=>rfl)
  (InvI w (w.heap.size+1) l) (fun _ _ _=>False) (Zhx _ _ _ _ (by omega)) (fun _ _ _ _ _ hs _ _=>hs) hI0
  (fun x a' W=>∃ Bx,w.heap.size+2<Bx∧W.heap[Bx]?=some (.cells #[f0 x.1,f1 x.1,f2 x.1] 53 (0,0))∧(∃ v,Boxed W (w.heap.size+1) 48 v∧v.ownBlock≠some Bx)∧a'={ tmps:=#[.slice A l.length ca,undef,.slice none 0 0,.pointer (some ⟨w.heap.size+1,0,none⟩),undef,.pointer (some ⟨Bx,0,none⟩),.slice A l.length ca,.int .i64 l.length,.slice (some ⟨w.heap.size,0,none⟩) 0 l.length,.slice A l.length ca,.func (.func 101) #[] #[.pointer (some ⟨w.heap.size+2,0,none⟩)],.int .i64 x.1,.agg #[f0 x.1,f1 x.1,f2 x.1],undef,undef,undef,undef,undef,undef,undef,undef,undef,undef,undef,undef,undef],defers:=[] }) ?hAx ?assign ?body ?done ?stop
 case hAx =>
  rintro x a' _ W W' row ⟨Bx,h1,h2,⟨v,h4,h5⟩,h3⟩ hg hr
  have hne:∀ b cs t fr,W.heap[b]?=some (.cells cs t fr)→some b≠row:=fun b cs t fr hb e=>by
   obtain⟨_,o,ho,hc⟩:=hr b e.symm;rw [hb] at ho;injection ho with ho;subst ho;cases hc
  exact⟨Bx,h1,(hg.block Bx (Zad h2) (hne _ _ _ _ h2)).trans h2,⟨v,h4.kept hg (hne _ _ _ _ h4),h5⟩,h3⟩
 case assign =>
  intro l' pre x W K hi' hK;obtain⟨A1,c1,A2,c2,_,_,_,e0,e1,e2,_⟩:=HE.out x.1 x.2;rw [e0,e1,e2] at hK ⊢;have hsW:w.heap.size+3≤W.heap.size:=by obtain⟨_,_,_,_,_,_,_,h5,_⟩:=hi';omega
  gi_wp2
  exact hK _ _ ((KeepsOthers.alloc _ _).from _) ⟨(Below.refl _ W).alloc (by omega) _,Below.heap_alloc W _ _ (by omega)⟩ ((Zhx w _ _ l nR).alloc _ hi') ⟨W.heap.size,by omega,heap_alloc_new W _,by
   obtain⟨Av,cv,T,g1,⟨_,g2,_⟩,_⟩:=hi';refine⟨_,g1.alloc _,fun e=>?_⟩;have:=ZaE g2 e;omega,rfl⟩
 case body =>
  rintro l' pre x a' W hl' hrr ⟨Av,cv,T,hbox,hownd,hT,hbel,hsW,hnB⟩ ⟨Bx,hBx,hX,⟨vv,hvv1,hvv2⟩,rfl⟩ hlt;obtain⟨A1,c1,A2,c2,_,_,_,e0,e1,e2,hcv⟩:=HE.out x.1 x.2;have HV:=hI (hcv.keep (Same.of_below hbel hS));have HXC:=hI (show invC (l.getD x.1 chg0)=⟨(l.getD x.1 chg0).table,(l.getD x.1 chg0).new,(l.getD x.1 chg0).old⟩ from rfl);have hn1:=hcv.r1.len';have hn2:=hcv.r2.len';rw [e0,e1,e2] at hX ⊢;clear hcv e0 e1 e2;obtain⟨ch,hch⟩:∃ ch,l.getD x.1 chg0=ch:=⟨_,rfl⟩;rw [hch] at HV HXC hn1 hn2 hX ⊢;have HCH:=hI hch;clear hch;obtain⟨t,old,new⟩:=ch;simp only at HXC hn1 hn2 hX;have u0:=hbox.cell;have u1:=hbox.frozen;have u2:W.cell? ⟨Bx,0,none⟩=some (.int .i64 t):=(by simp [World.cell?,hX]);have u3:W.cell? ⟨Bx,1,none⟩=some (.slice A1 old.length c1):=(by simp [World.cell?,hX]);have u4:W.cell? ⟨Bx,2,none⟩=some (.slice A2 new.length c2):=(by simp [World.cell?,hX]);have hb1l:w.heap.size+1<W.heap.size:=hbox.lt;have hbxl:Bx<W.heap.size:=Zad hX;have hSW:∀ b,S b→b<W.heap.size:=(fun b hb=>by have:=hS b hb;omega);obtain⟨vals,hown,hvals,hvo⟩:=hownd;rw [List.length_map,List.length_map] at hown;have hpl:pre.length≤2513169434916:=(by omega);have HBX:=hI hbox;have HOWN:=hI hown;have HVALS:=hI hvals;have HT:=hI hT;have HVO:=hI (fun b hb=>(hvo b hb).2);have HBEL:=hI hbel;have HNB:=hI hnB;have HNV1:=hI (show some (w.heap.size+1)≠(Value.slice Av pre.length cv).ownBlock from hbox.not_row (by decide) hown)
  have HNV2:=hI (show some Bx≠(Value.slice Av pre.length cv).ownBlock from fun e=>by
   have:=hvv1.symm.trans hbox;injection this with this;injection this with this;have e9:vv=.slice Av pre.length cv:=(by simpa using this);rw [e9] at hvv2;exact hvv2 e.symm)
  have HOWN6:=hI (show ∀ wa,Below W.heap.size W wa→∀ wb,Below wa.heap.size wa wb→∀ o,(wb.alloc o).ownsRow w.heap.size 53 3 (.slice Av pre.length cv) pre.length vals from fun wa hba wb hbb o=>ZaU hown (fun g hg=>(Below.heap_alloc wb o g (by have:=ZaE hown hg;have:=hba.size;have:=hbb.size;omega)).trans ((hbb.block g (by have:=ZaE hown hg;have:=hba.size;omega)).trans (hba.block g (ZaE hown hg)))));clear hbox hown hvals hvo hT hbel hnB hX hvv1 hvv2
  gi_wp2
  refine hideQIn (by rintro⟨_,_,h⟩;exact h) (fun c a d v w h=>h) (fun Q' HQ HP HLO=>?_);refine regionR_until (fun w'=>w'.cell? ⟨w.heap.size+1,0,none⟩=some (.slice Av pre.length cv)∧w'.frozen? ⟨w.heap.size+1,0,none⟩=false∧w'.cell? ⟨Bx,0,none⟩=some (.int .i64 t)∧w'.cell? ⟨Bx,1,none⟩=some (.slice A1 old.length c1)∧w'.cell? ⟨Bx,2,none⟩=some (.slice A2 new.length c2)) 12 13 (bA 13 0) (by kernel_rfl) (by kernel_rfl) (by kernel_rfl) (by kernel_rfl) HLO.out ?_;refine tX 0 13 1 14 2 15 3 16 (bA 13 15) HP.out ⟨u0,u1,u2,u3,u4⟩ ?_;refine tW 4 17 6 19 (bA 13 95) HP.out ⟨u0,u1,u2,u3,u4⟩ ?_;refine tJ 7 20 (bA 13 223) HP.out ⟨u0,u1,u2,u3,u4⟩ ?_;refine tQ 5 (some 18) (bA 13 255) fun K HK=>?_;go_simp;refine(ZaC A2 c2 new S _ (by exact HV.out.r2.keep (fun _ _=>rfl))).mono ?_;rintro e wa ⟨AR,cr,rfl,howna,hba⟩;have hba':Below W.heap.size W wa:=(by first | exact(Below.refl _ W).drew.trans hba | exact hba);have hzwa:W.heap.size≤wa.heap.size:=hba'.size;have p0:=c9K hba' u0;have p1:=(hba'.frozen (p:=⟨w.heap.size+1,0,none⟩) (by simp;omega)).trans u1;have p2:=c9K hba' u2;have p3:=c9K hba' u3;have p4:=c9K hba' u4;refine HK.out _ _ (fun _=>⟨p0,p1,p2,p3,p4⟩) ?_;clear HK K
  try simp only [Act.put,psA,psB,psC]
  refine tQ 8 (some 21) (bA 13 511) fun K HK=>?_;go_simp;refine(ZaC A1 c1 old S _ (by exact HV.out.r1.keep (fun b hb=>hba'.block b (hSW b hb)))).mono ?_;rintro e wb ⟨BR,dr,rfl,hownb,hbb⟩;have hbb':Below wa.heap.size wa wb:=(by first | exact(Below.refl _ wa).drew.trans hbb | exact hbb);have hzwb:wa.heap.size≤wb.heap.size:=hbb'.size;have q0:=c9K hbb' p0;have q1:=(hbb'.frozen (p:=⟨w.heap.size+1,0,none⟩) (by simp;omega)).trans p1;have q2:=c9K hbb' p2;have q3:=c9K hbb' p3;have q4:=c9K hbb' p4;refine HK.out _ _ (fun _=>⟨q0,q1,q2,q3,q4⟩) ?_;clear HK K
  try simp only [Act.put,psA,psB,psC]
  refine tJ 9 22 (bA 13 1023) HP.out ⟨q0,q1,q2,q3,q4⟩ ?_;refine tQ 10 (some 23) (bA 13 2047) fun K HK=>?_;go_simp;have r0:(wb.alloc (.cells #[.int .i64 t,.slice AR new.length cr,.slice BR old.length dr] 53)).cell? ⟨w.heap.size+1,0,none⟩=_:=(Zah (by omega)).trans q0;have r1:(wb.alloc (.cells #[.int .i64 t,.slice AR new.length cr,.slice BR old.length dr] 53)).frozen? ⟨w.heap.size+1,0,none⟩=_:=(ZbX (by omega)).trans q1;have r2:(wb.alloc (.cells #[.int .i64 t,.slice AR new.length cr,.slice BR old.length dr] 53)).cell? ⟨Bx,0,none⟩=_:=(Zah (by omega)).trans q2;have r3:(wb.alloc (.cells #[.int .i64 t,.slice AR new.length cr,.slice BR old.length dr] 53)).cell? ⟨Bx,1,none⟩=_:=(Zah (by omega)).trans q3;have r4:(wb.alloc (.cells #[.int .i64 t,.slice AR new.length cr,.slice BR old.length dr] 53)).cell? ⟨Bx,2,none⟩=_:=(Zah (by omega)).trans q4;refine HK.out _ _ (fun _=>⟨r0,r1,r2,r3,r4⟩) ?_;clear HK K
  try simp only [Act.put,psA,psB,psC]
  refine anyT_one (i:=11) (o:=⟨some 24,_,_,_,_,_⟩) (L':=(bA 13 4095)) rfl (by kernel_rfl) (by kernel_rfl) (fun K hK=>?_);refine step_append_lies _ (by rfl) (.tmp 13) (.tmp 23) _ (by rfl) w.heap.size 53 i0 _ 3 56 Try.underlying48 hi hz0 hz1 hz2 rfl (by decide) (.slice Av pre.length cv) pre.length vals (by rfl) (by exact HOWN6.out wa hba' wb hbb' _) ⟨wb.heap.size,0,none⟩ 1 1 [.int .i64 t,.slice AR new.length cr,.slice BR old.length dr] (by rfl) (by rfl) (World.news_of_block (cs:=#[.int .i64 t,.slice AR new.length cr,.slice BR old.length dr]) (t:=53) (fr:=(0,0)) (heap_alloc_new wb _)) (by simp [Value.oneCell']) (by omega) (by unfold maxLen;omega) (by omega) (by simp;omega) (wb.heap.size+1) (by simp) ?_;intro g7 c7 w7 hown7 hgr7 hat7 hlt7;have m0:=(hgr7.cell_far ⟨w.heap.size+1,0,none⟩ (by simp;omega) HNV1.out).trans r0;have m1:=(hgr7.frozen_far ⟨w.heap.size+1,0,none⟩ (by simp;omega) HNV1.out).trans r1;have m2:=(hgr7.cell_far ⟨Bx,0,none⟩ (by simp;omega) HNV2.out).trans r2;have m3:=(hgr7.cell_far ⟨Bx,1,none⟩ (by simp;omega) HNV2.out).trans r3;have m4:=(hgr7.cell_far ⟨Bx,2,none⟩ (by simp;omega) HNV2.out).trans r4;have HO7:=hI hown7;have HG7:=hI hgr7;have HAT7:=hI hat7;clear hown7 hgr7 hat7;refine hK _ _ (fun _=>⟨m0,m1,m2,m3,m4⟩) ?_;clear hK K
  try simp only [Act.put,psA,psB,psC]
  refine tQ 12 none (bA 13 8191) fun K HK=>?_;go_simp;refine HK.out _ _ (fun h=>absurd rfl h) ?_;clear HK K;refine tE HQ ?_;clear HLO HQ HP Q';obtain⟨T',h1,h2,h3,h4,h5,h6⟩:=inv_push (L:=pre.map (fun x=>invC (l.getD x.1 chg0))) (t:=t) (by omega) HBX.out (by simp) HOWN.out HVALS.out HT.out HVO.out HBEL.out hba' howna HV.out.r2.ok hbb' hownb HV.out.r1.ok _ HG7.out HAT7.out HO7.out;have hle:(pre++[x]).length=pre.length+1:=(by simp);have hmap:((pre++[x]).map (fun x=>invC (l.getD x.1 chg0)))=pre.map (fun x=>invC (l.getD x.1 chg0))++[⟨t,new,old⟩]:=(by rw [List.map_append,←HXC.out,←HCH.out];rfl);refine⟨⟨by simpa using h6,fun k o hk ho hc=>(h5 k (Zad ho) (by omega) (fun e=>?_)).trans ho⟩,⟨⟨h4.os.trans HBEL.out.os.symm,h4.tape.trans HBEL.out.tape.symm,h4.output.trans HBEL.out.output.symm,by simpa using h6,fun b hb=>(h4.block b hb).trans (HBEL.out.block b hb).symm⟩,h5 _ (by omega) (by omega) (fun e=>HNB.out _ e.symm rfl)⟩,?_⟩
  · obtain⟨cs',t',fr',hcc⟩:=ZeT HOWN.out e.symm;rw [hcc] at ho;injection ho with ho;subst ho;cases hc
  · refine⟨some ⟨g7,0,none⟩,c7,T',?_,?_,h3,h4,by simp;omega,fun g hg=>?_⟩
    · rw [hle];exact h1
    · rw [hle,hmap];exact h2
    · have hg':g7=g:=(by simpa [Value.ownBlock] using hg);rcases HAT7.out with h | h
      · exact fun e=>HNB.out _ h (by omega)
      · omega
 case done =>
  rintro D ys W hD rfl ⟨Av,cv,T,hbox,hownd,hT,hbel,hsW,hnB⟩ hK;have u0:=hbox.cell;rw [dn_map] at hownd;rw [Zff nR] at u0 hownd
  gi_wp2
  refine⟨by simp,.inl ⟨_,_,rfl,run_takeDeferred hK,?_⟩⟩
  have hkp:∀ b,IsC W b→(W.putObj D (.deferred none)).heap[b]?=W.heap[b]?:=fun b hb=>(grownBy_putObj' W D (.deferred none)).block b hb.lt (fun e=>by
   obtain⟨cs',t',fr',hcc⟩:=hb;injection e with e;subst e;rw [hK] at hcc;cases hcc)
  have hO:OwnD (W.putObj D (.deferred none)) w.heap.size 53 3 T (.slice Av l.length cv) ((invF l).map Zal):=hownd.keep (by simp) (fun b hb=>hkp b (hT b hb).2.2) (fun g hg=>by obtain⟨_,q,_⟩:=hownd;exact hkp g (ZeT q hg));have hbl:Below w.heap.size w (W.putObj D (.deferred none)):=hbel.trans ⟨rfl,rfl,rfl,by simp,fun b hb=>(grownBy_putObj' W D (.deferred none)).block b (by have:=hbel.size;omega) (fun e=>by injection e with e;omega)⟩;have hfl:(invF l).length=l.length:=(by simp [invF]);obtain⟨q1,q2,q3⟩:=hO.slice (S':=New w (W.putObj D (.deferred none))) (by rw [Zag (n:=56) (fun _=>rfl),hfl];omega) (fun b hb=>⟨(hT b hb).1,by have:=(hT b hb).2.2.lt;simp;omega⟩) (fun g h1 h2 _=>⟨h1,h2⟩);refine⟨_,results_tmp rfl _ _ _,Av,cv,?_,by rw [hfl];exact q2,q3,hbl⟩;rw [hfl];rfl
 case stop =>
  rintro D c pre W _ _ h _;exact h.elim
end Go.Proofs.Ytkpjjfhfbpfjpaa
namespace Go.Proofs.Ytkpjjfhfbpfjpaa
open Go.RowKit
def ZaP (s:Sch) (t:Int) (key:Row) (l:List Row):Option Row:=l.find? (fun r=>cmpR (keyF s t r) key == 0)
theorem ZfM (s:Sch) (t:Int) (key:Row) {l:List Row} {k:Nat} (h:k<l.length):ZaP s t key (l.drop k)=if cmpR (keyF s t (l.getD k [])) key=0 then some (l.getD k []) else ZaP s t key (l.drop (k+1)):=by
 have e:l.getD k []=l[k]:=(by simp [List.getD,h]);rw [List.drop_eq_getElem_cons h,e];unfold ZaP;rw [List.find?_cons]
 by_cases h1:cmpR (keyF s t l[k]) key=0
 · simp [h1]
 · have h2:(cmpR (keyF s t l[k]) key == 0)=false:=beq_eq_false_iff_ne.2 h1;simp [h1,h2]
def GetPost (S:Nat→Prop) (o:Option Row) (w:World) (e:Ending) (w':World):Prop:=Below w.heap.size w w'∧match o with
 | none=>e=.returned (.tuple #[.slice none 0 0,.bool false])
 | some r=>∃ A c,e=.returned (.tuple #[.slice A r.length c,.bool true])∧r.length≤c∧RowS w' S A r
theorem get_in (A0:Option Addr) (c0':Nat) (s:Sch) (A:Option Addr) (ca:Nat) (st:St) (t:Nat) (AK:Option Addr) (ck:Nat) (key:Row) (S:Nat→Prop) (w:World) (hs:TabS w S A0 s.tabs) (hst:StS w S A st) (hk:RowS w S AK key) (hS:∀ b,S b→b<w.heap.size) (ht1:t<s.tabs.length) (ht2:t<st.length) :
  Calls Try.prog 70 #[sAgg s.version A0 s.tabs.length c0',Zay A st.length ca,.int .i64 t,.slice AK key.length ck] w (GetPost S (ZaP s t key (st.getD t [])) w):=by
 have hsl:=hs.len;have hstl:=hst.len;have hkl:=hk.len;have HS:=hI hs;have HST:=hI hst;have HK:=hI hk;clear hs hst hk;obtain⟨b1,o1,rfl,hb1,A',c',d1,d2,d3⟩:=HST.out.at_ ht2;have hl1:b1<w.heap.size:=hS b1 hb1;have HR:=hI d3;have hrl:=d3.len;clear d2 d3;generalize st.getD t []=rows at d1 HR hrl;have hd1:decide ((t:Int)<0)=false:=decide_eq_false (by omega);have hd2:decide (s.tabs.length≤t)=false:=decide_eq_false (by omega);have hd3:decide (st.length≤t)=false:=decide_eq_false (by omega);have HB0:=hI (((Below.refl w.heap.size w).alloc nR (.cells #[.int .i64 s.version,.slice A0 s.tabs.length c0'] 25)).alloc (by simp) (.cells #[.slice (some ⟨b1,o1,none⟩) st.length ca] 56));go_enter Try.func70,Try.ntmps70
 go_wp2_with fail
 go_loopw [34] (fun i wr=>∃ k:Nat,k≤rows.length∧i=.int .i64 k∧ZaP s t key rows=ZaP s t key (rows.drop k)∧Below w.heap.size w wr∧wr.cell? ⟨w.heap.size,0,none⟩=some (.int .i64 s.version)∧wr.cell? ⟨w.heap.size,1,none⟩=some (.slice A0 s.tabs.length c0')∧w.heap.size<wr.heap.size) (fun i _=>rows.length - (intOf i).toNat)
 case atStart=>exact⟨0,Nat.zero_le _,rfl,by simp,HB0.out,(Zah (by simp)).trans (Zae rfl rfl),(Zah (by simp)).trans (Zae rfl rfl),by simp;omega⟩
 case round =>
  obtain⟨k,hk,rfl,hf,hbel,x0,x1,hw⟩:=hrel;have HF:=hI hf;have HB:=hI hbel;clear hf hbel d1
  by_cases hkl':k<rows.length
  · obtain⟨b2,o2,rfl,hb2,A2,c2,f1,f2,f3⟩:=(HR.out.keep (Same.of_below HB.out hS)).at_ hkl';have hl2:b2<wr.heap.size:=(by have:=hS b2 hb2;omega);have HROW:=hI f3;have HC:=hI f2;have hrw:=f3.len;have HSTEP:=hI (ZfM s t key hkl');clear f2 f3;generalize rows.getD k []=row at f1 HROW HC hrw HSTEP;have hSr:∀ b,S b→b<wr.heap.size:=fun b hb=>by have:=hS b hb;omega
    go_wp2_with fail
    refine(Zba A0 c0' s t A2 c2 row S _ (HS.out.keep (Same.of_below HB.out hS)) HROW.out HC.out hSr).mono ?_;rintro e w1 ⟨A3,c3,rfl,h3,hb3⟩;have HB3:=hI (HB.out.trans (hb3.mono (by omega)));have HX3:=hI hb3;have H3:=hI h3;have y0:=c9Q hb3 hw x0;have y1:=c9Q hb3 hw x1;have hw3:w.heap.size<w1.heap.size:=(by have:=hb3.size;omega);have hs3:=hb3.size;clear hb3 h3 x0 x1
    go_wp2_with fail
    refine(Zbc A3 AK c3 ck (keyF s t row) key S _ ((HROW.out.keep (Same.of_below HX3.out hSr)).key s t H3.out) (HK.out.keep (Same.of_below HB3.out hS)) (fun b hb=>by have:=hS b hb;omega)).mono ?_;rintro e w2 ⟨rfl,hb4⟩;have HB4:=hI (HB3.out.trans (hb4.mono (by omega)));have HX4:=hI (HX3.out.trans (hb4.mono hs3));have z0:=c9Q hb4 hw3 y0;have z1:=c9Q hb4 hw3 y1;have hw4:w.heap.size<w2.heap.size:=(by have:=hb4.size;omega);clear hb4 y0 y1
    by_cases hc:cmpR (keyF s t row) key=0
    · have HFF:=hI (show ZaP s t key rows=some row by rw [HF.out,HSTEP.out,if_pos hc]);rw [hc];clear hc HSTEP
      go_wp2_with fail
      go_ret2;rw [HFF.out];exact⟨HB4.out,A2,c2,rfl,HC.out,HROW.out.keep (Same.of_below HX4.out hSr)⟩
    · have HFF:=hI (show ZaP s t key rows=ZaP s t key (rows.drop (k+1)) by rw [HF.out,HSTEP.out,if_neg hc]);have hd:(cmpR (keyF s t row) key == 0)=false:=beq_eq_false_iff_ne.2 hc;clear hc HSTEP;generalize cmpR (keyF s t row) key=cv at hd
      go_wp2_with fail
      go_roundw
      case rel=>exact⟨k+1,by omega,by go_num,HFF.out,HB4.out,z0,z1,hw4⟩
      case measure=>simp [intOf];omega
  · have HFF:=hI (show ZaP s t key rows=none by rw [HF.out,List.drop_eq_nil_of_le (by omega)];rfl)
    go_wp2_with fail
    go_ret2;rw [HFF.out];exact⟨HB.out,rfl⟩
def ZhC (s:Sch) (t:Int) (key:Row) (l:List Row):Bool:=decide (low s t key l<l.length)&&(cmpR (keyF s t (l.getD (low s t key l) [])) key == 0)
def putL (s:Sch) (t:Int) (key row:Row) (l:List Row):List Row :=
 l.take (low s t key l)++(if 0<row.length then [row] else [])++(if ZhC s t key l then l.drop (low s t key l+1) else l.drop (low s t key l))
theorem putC_eq (s:Sch) (c:Chg) (l:List Row):putC s c l=putL s c.table (keyC s c) c.new l:=rfl
theorem ZgL (s:Sch) (c:Chg) (l:List Row):ZbT s c l=ZhC s c.table (keyC s c) l:=rfl
structure Cut (s:Sch) (t:Int) (key:Row) (l a:List Row) (o:Option Row) (b:List Row):Prop where
 eq:l=a++o.toList++b
 below:∀ x ∈ a,cmpR (keyF s t x) key<0
 at_:∀ r,o=some r→keyF s t r=key
 above:∀ y ∈ b,cmpR key (keyF s t y)<0
section
variable {s:Sch} {t:Int} {key:Row} {l a b:List Row} {o:Option Row}
theorem low_app {l':List Row}:∀ {a:List Row},(∀ x ∈ a,cmpR (keyF s t x) key<0)→low s t key (a++l')=a.length+low s t key l'
 | [],_=>by simp
 | x :: a,h=>by
  have ih:=low_app (l':=l') (a:=a) (fun y hy=>h y (by simp [hy]));rw [List.cons_append,low,if_pos (h x (by simp)),ih,List.length_cons];omega
theorem Cut.low (h:Cut s t key l a o b):low s t key l=a.length:=by
 rw [h.eq,List.append_assoc,low_app h.below]
 have:Go.Proofs.Ytkpjjfhfbpfjpaa.low s t key (o.toList++b)=0:=by
  cases o with
  | some r =>
   have:=h.at_ r rfl;simp [Go.Proofs.Ytkpjjfhfbpfjpaa.low,this,cmpR_is.self]
  | none =>
   cases b with
   | nil=>rfl
   | cons y b =>
    have h1:=h.above y (by simp);have h2:=cmpR_is.flip key (keyF s t y);simp only [Option.toList_none,List.nil_append,Go.Proofs.Ytkpjjfhfbpfjpaa.low];rw [if_neg (by omega)]
 omega
theorem Cut.found (h:Cut s t key l a o b):ZhC s t key l=o.isSome:=by
 unfold ZhC;rw [h.low,h.eq];cases o with
 | some r =>
  have:=h.at_ r rfl;simp [List.getD,this,cmpR_is.self]
 | none =>
  cases b with
  | nil=>simp
  | cons y b =>
   have h1:=h.above y (by simp);have h2:=cmpR_is.flip key (keyF s t y);have h3:¬ cmpR (keyF s t y) key=0:=(by omega);simp [List.getD,h3]
theorem Cut.put (h:Cut s t key l a o b) (row:Row):putL s t key row l=a++(if 0<row.length then [row] else [])++b:=by
 unfold putL;rw [h.low,h.found,h.eq];cases o with
 | some r=>simp
 | none=>simp
theorem Cut.at_low (h:Cut s t key l a o b) {r:Row} (hr:o=some r):l.getD a.length []=r:=by
 rw [h.eq,hr];simp [List.getD]
theorem Cut.find (h:Cut s t key l a o b):ZaP s t key l=o:=by
 rw [h.eq];unfold ZaP
 have h0:∀ {a:List Row},(∀ x ∈ a,cmpR (keyF s t x) key<0)→a.find? (fun r=>cmpR (keyF s t r) key == 0)=none:=fun {a} ha=>by
  rw [List.find?_eq_none];intro x hx;have:=ha x hx;simp;omega
 rw [List.append_assoc,List.find?_append,h0 h.below,Option.none_or];cases o with
 | some r =>
  have:=h.at_ r rfl;simp [this,cmpR_is.self]
 | none =>
  simp only [Option.toList_none,List.nil_append];rw [List.find?_eq_none];intro y hy;have h1:=h.above y hy;have h2:=cmpR_is.flip key (keyF s t y);simp;omega
theorem ZbS {r:Row} (h:Asc s t (r :: l)):Asc s t l∧∀ y ∈ l,cmpR (keyF s t r) (keyF s t y)<0 :=
 ⟨fun i j hij hj=>h (i+1) (j+1) (by omega) (by simpa using hj),fun y hy=>by
  obtain⟨j,hj,rfl⟩:=List.mem_iff_getElem.1 hy;have:=h 0 (j+1) (by omega) (by simpa using hj);simpa [List.getD,hj] using this⟩
theorem asc_cons {r:Row} (h:Asc s t l) (hr:∀ y ∈ l,cmpR (keyF s t r) (keyF s t y)<0):Asc s t (r :: l):=by
 intro i j hij hj;cases j with
 | zero=>omega
 | succ j =>
  have hj':j<l.length:=(by simpa using hj);cases i with
  | zero =>
   have:=hr l[j] (List.getElem_mem _);simpa [List.getD,hj'] using this
  | succ i=>exact h i j (by omega) hj'
theorem ZbZ (key:Row):∀ {l:List Row},Asc s t l→∃ a o b,Cut s t key l a o b
 | [],_=>⟨[],none,[],⟨rfl,by simp,by simp,by simp⟩⟩
 | r :: l,h=>by
  obtain⟨h1,h2⟩:=ZbS h
  by_cases hc:cmpR (keyF s t r) key<0
  · obtain⟨a,o,b,h3⟩:=ZbZ key h1;refine⟨r :: a,o,b,⟨by rw [h3.eq];simp,fun x hx=>?_,h3.at_,h3.above⟩⟩;rcases List.mem_cons.1 hx with rfl | hx
    · exact hc
    · exact h3.below x hx
  · have hfl:=cmpR_is.flip (keyF s t r) key
    by_cases he:cmpR (keyF s t r) key=0
    · have hk:=(cmpR_is.zero _ _).1 he;exact⟨[],some r,l,⟨rfl,by simp,fun r' e=>by injection e with e;rw [←e];exact hk,fun y hy=>by rw [←hk];exact h2 y hy⟩⟩
    · refine⟨[],none,r :: l,⟨rfl,by simp,by simp,fun y hy=>?_⟩⟩;rcases List.mem_cons.1 hy with rfl | hy
      · omega
      · exact cmpR_is.lt_trans (show cmpR key (keyF s t r)<0 by omega) (h2 y hy)
theorem Cut.again (h:Cut s t key l a o b) {row:Row} (hr:0<row.length→keyF s t row=key):Cut s t key (putL s t key row l) a (if 0<row.length then some row else none) b:=by
 refine⟨?_,h.below,fun r e=>?_,h.above⟩
 · rw [h.put];split<;>simp
 · split at e
   · rename_i h0
     injection e with e;rw [←e];exact hr h0
   · cases e
end
def rput (s:Sch) (t:Int) (key row:Row):Bool→List Row→List Row
 | d,[]=>if d then [] else [row]
 | d,r :: l=>(if 0≤cmpR (keyF s t r) key∧d=false then [row] else [])++((if cmpR (keyF s t r) key≠0 then [r] else [])++rput s t key row (d||decide (0≤cmpR (keyF s t r) key)) l)
def putR (s:Sch) (t:Int) (key row:Row) (l:List Row):List Row:=rput s t key row (decide (row.length=0)) l
theorem Zcx {s:Sch} {t:Int} {key row:Row}:∀ {b:List Row},(∀ y ∈ b,cmpR key (keyF s t y)<0)→rput s t key row true b=b
 | [],_=>by simp [rput]
 | y :: b,h=>by
  have h1:=h y (by simp);have h2:=cmpR_is.flip key (keyF s t y);have h3:¬ cmpR (keyF s t y) key=0:=(by omega);have ih:=Zcx (row:=row) (b:=b) (fun z hz=>h z (by simp [hz]));simp [rput,h3,ih]
theorem rput_false_above {s:Sch} {t:Int} {key row:Row}:∀ {b:List Row},(∀ y ∈ b,cmpR key (keyF s t y)<0)→rput s t key row false b=row :: b
 | [],_=>by simp [rput]
 | y :: b,h=>by
  have h1:=h y (by simp);have h2:=cmpR_is.flip key (keyF s t y);have h3:¬ cmpR (keyF s t y) key=0:=(by omega);have h4:0≤cmpR (keyF s t y) key:=(by omega);have ih:=Zcx (row:=row) (b:=b) (fun z hz=>h z (by simp [hz]));simp [rput,h3,h4,ih]
theorem Zfw {s:Sch} {t:Int} {key row:Row} {d:Bool} {l:List Row}:∀ {a:List Row},(∀ x ∈ a,cmpR (keyF s t x) key<0)→rput s t key row d (a++l)=a++rput s t key row d l
 | [],_=>by simp
 | x :: a,h=>by
  have h1:=h x (by simp);have h3:¬ cmpR (keyF s t x) key=0:=(by omega);have h4:¬ 0≤cmpR (keyF s t x) key:=(by omega);have ih:=Zfw (row:=row) (d:=d) (l:=l) (a:=a) (fun z hz=>h z (by simp [hz]));simp [rput,h3,h4,ih]
theorem putR_eq {s:Sch} {t:Int} {l:List Row} (h:Asc s t l) (key row:Row):putR s t key row l=putL s t key row l:=by
 obtain⟨a,o,b,hc⟩:=ZbZ key h;rw [hc.put row];unfold putR;rw [hc.eq,List.append_assoc,Zfw hc.below,List.append_assoc]
 congr 1
 cases o with
 | some r =>
  have hk:=hc.at_ r rfl;have h0:cmpR (keyF s t r) key=0:=by rw [hk];exact cmpR_is.self _
  by_cases hr:row.length=0
  · simp [rput,h0,hr,Zcx hc.above]
  · have:0<row.length:=(by omega);simp [rput,h0,hr,this,Zcx hc.above]
 | none =>
  by_cases hr:row.length=0
  · simp [hr,Zcx hc.above]
  · have:0<row.length:=(by omega);simp [hr,this,rput_false_above hc.above]
def ZgY (s:Sch) (t m:Int) (l:List Row):Prop:=(∀ r ∈ l,ZaT s t r m=true)∧Asc s t l
def StOk (s:Sch) (m:Int) (st:St):Prop:=st.length=s.tabs.length∧∀ t,t<st.length→ZgY s (t:Int) m (st.getD t [])
theorem Zgx {s:Sch} {t m:Int}:∀ {l:List Row} {p:Option Row},(∀ r ∈ l,ZaT s t r m=true)→Asc s t l→(∀ q,p=some q→∀ y ∈ l,cmpR (keyF s t q) (keyF s t y)<0)→Zbx s t m p l=true
 | [],p,_,_,_=>by simp [Zbx]
 | r :: l,p,h1,h2,h3=>by
  obtain⟨h4,h5⟩:=ZbS h2;have ih:=Zgx (p:=some r) (fun x hx=>h1 x (by simp [hx])) h4 (fun q e y hy=>by injection e with e;rw [←e];exact h5 y hy);have h6:=h1 r (by simp);cases p with
  | none=>simp [Zbx,ih,h6]
  | some q =>
   have:=h3 q rfl r (by simp);simp [Zbx,ih,h6,this]
theorem stOk_of {s:Sch} {m:Int}:∀ {st:St} {t:Nat},(∀ k,k<st.length→ZgY s ((t+k:Nat):Int) m (st.getD k []))→stOk s m t st=true
 | [],t,_=>by simp [stOk]
 | l :: st,t,h=>by
  have h0:=h 0 (by simp)
  have ih:=stOk_of (s:=s) (m:=m) (st:=st) (t:=t+1) (fun k hk=>by
   have:=h (k+1) (by simpa using hk);rw [show t+(k+1)=t+1+k by omega] at this;exact this)
  simp only [stOk,ih,Bool.and_true];exact Zgx h0.1 h0.2 (fun q e=>by cases e)
theorem StOk.ok {s:Sch} {m:Int} {st:St} (h:StOk s m st):stOk s m 0 st=true:=stOk_of (fun k hk=>by rw [Nat.zero_add];exact h.2 k hk)
theorem StOk.check {s:Sch} {m:Int} {st:St} (h:StOk s m st) (hm:Zcm m=true) (hc:Zak st≤512):Zbo 0 s m st=0:=by
 unfold Zbo;have h1:Zcp 0 m=0:=(by simp [Zcp,hm]);rw [h1,h.ok];simp only [ne_eq,not_true,if_false,if_true];rw [if_neg (by omega),if_neg (by rw [h.1];simp)]
theorem StOk.set {s:Sch} {m:Int} {st:St} (h:StOk s m st) {t:Nat} {l:List Row} (hl:ZgY s t m l):StOk s m (st.set t l):=by
 refine⟨by rw [List.length_set];exact h.1,fun k hk=>?_⟩;rw [List.length_set] at hk
 by_cases e:t=k
 · subst e;have:(st.set t l).getD t []=l:=(by simp [List.getD,hk]);rw [this];exact hl
 · have:(st.set t l).getD k []=st.getD k []:=(by simp [List.getD,List.getElem?_set_ne e]);rw [this];exact h.2 k hk
theorem fits_len {s:Sch} {t m:Int} {r:Row} (h:ZaT s t r m=true):r.length=(s.tabs.getD t.toNat t0).cols.length:=by
 unfold ZaT at h;simp only [Bool.and_eq_true,decide_eq_true_eq] at h;exact h.1.2
theorem Zfx {s:Sch} {t m:Int} {l:List Row} (h:ZgY s t m l) {key row:Row} (hk:0<row.length→keyF s t row=key) (hf:0<row.length→ZaT s t row m=true):ZgY s t m (putL s t key row l):=by
 obtain⟨a,o,b,hc⟩:=ZbZ key h.2;have he:=hc.put row;refine⟨fun r hr=>?_,?_⟩
 · rw [he] at hr;simp only [List.mem_append] at hr;rcases hr with (hr | hr) | hr
   · exact h.1 r (by rw [hc.eq];simp [hr])
   · split at hr
     · rename_i h0
       rw [List.mem_singleton] at hr;rw [hr];exact hf h0
     · simp at hr
   · exact h.1 r (by rw [hc.eq];simp [hr])
 · rw [he];have ha:Asc s t (a++(o.toList++b)):=(by rw [←List.append_assoc,←hc.eq];exact h.2)
   have ha1:Asc s t a:=by
    have:=Zgl ha a.length;rwa [List.take_left] at this
   have ha2:Asc s t b:=by
    have:=ZhH ha (a.length+o.toList.length);rwa [List.drop_append,List.drop_of_length_le (by omega),List.nil_append,show a.length+o.toList.length - a.length=o.toList.length by omega,List.drop_left] at this
   have hab:∀ x ∈ a,∀ y ∈ b,cmpR (keyF s t x) (keyF s t y)<0:=fun x hx y hy=>cmpR_is.lt_trans (hc.below x hx) (hc.above y hy)
   by_cases h0:0<row.length
   · rw [if_pos h0];refine Zci (Zci ha1 (asc_one _ _ _) (fun x hx y hy=>?_)) ha2 (fun x hx y hy=>?_)
     · rw [List.mem_singleton] at hy;rw [hy,hk h0];exact hc.below x hx
     · rcases List.mem_append.1 hx with hx | hx
       · exact hab x hx y hy
       · rw [List.mem_singleton] at hx;rw [hx,hk h0];exact hc.above y hy
   · rw [if_neg h0,List.append_nil];exact Zci ha1 ha2 hab
def ZcV (s:Sch) (st:St) (x:Chg):St:=st.set x.table.toNat (putC s x (st.getD x.table.toNat []))
def Fit (s:Sch) (m:Int):St→List Chg→Prop
 | _,[]=>True
 | st,x :: l=>(Zas s m x=true∧Zdq s x (st.getD x.table.toNat [])=true)∧Fit s m (ZcV s st x) l
def after (s:Sch) (st:St) (l:List Chg):St:=l.foldl (ZcV s) st
theorem valid_fits {s:Sch} {m:Int} {x:Chg} (h:Zas s m x=true):(0<x.old.length→ZaT s x.table x.old m=true)∧(0<x.new.length→ZaT s x.table x.new m=true):=by
 unfold Zas at h;simp only [Bool.and_eq_true,Bool.or_eq_true,decide_eq_true_eq] at h;obtain⟨⟨⟨_,h1⟩,h2⟩,_⟩:=h;exact⟨fun h0=>h1.resolve_left (by omega),fun h0=>h2.resolve_left (by omega)⟩
theorem Zha {s:Sch} {m:Int} {st:St} {x:Chg} (h:StOk s m st) (hv:Zas s m x=true):StOk s m (ZcV s st x)∧Zak (ZcV s st x)≤Zak st+1:=by
 have hv':=hv;unfold Zas at hv';simp only [Bool.and_eq_true,hasN,decide_eq_true_eq] at hv';obtain⟨⟨⟨⟨⟨ht0,ht1⟩,_⟩,_⟩,_⟩,_⟩:=hv';obtain⟨t,ht⟩:=Int.eq_ofNat_of_zero_le ht0;have htn:x.table.toNat=t:=(by omega);unfold ZcV;rw [htn];have htl:t<st.length:=(by have:=h.1;omega);refine⟨h.set ?_,?_⟩
 · have hr:=h.2 t htl;rw [←ht] at hr ⊢;exact Zfx hr (fun h0=>Zhf hv h0) (valid_fits hv).2
 · have h1:=ZfR st t (putC s x (st.getD t [])) htl;have h2:=Zhc s x (st.getD t []);omega
theorem fit_ok {s:Sch} {m:Int}:∀ {l:List Chg} {st:St},StOk s m st→Fit s m st l→StOk s m (after s st l)∧Zak (after s st l)≤Zak st+l.length
 | [],st,h,_=>⟨h,by simp [after]⟩
 | x :: l,st,h,hf=>by
  obtain⟨h1,h2⟩:=Zha h hf.1.1;obtain⟨h3,h4⟩:=fit_ok h1 hf.2;exact⟨h3,by rw [List.length_cons];show Zak (after s (ZcV s st x) l)≤_;omega⟩
theorem valid_inv {s:Sch} {m:Int} {x:Chg} (hv:Zas s m x=true):Zas s m (invC x)=true:=by
 unfold Zas at hv ⊢;simp only [Bool.and_eq_true] at hv ⊢;obtain⟨⟨⟨⟨h1,h2⟩,h3⟩,h4⟩,h5⟩:=hv;refine⟨⟨⟨⟨h1,by rw [Bool.and_comm];exact h2⟩,h4⟩,h3⟩,?_⟩;simp only [Bool.or_eq_true,decide_eq_true_eq,beq_iff_eq,invC] at h5 ⊢;rcases h5 with (h | h) | h
 · exact .inl (.inr (decide_eq_true h))
 · exact .inl (.inl (decide_eq_true h))
 · exact .inr (by rw [cmpR_is.flip,h];rfl)
theorem fit_old {s:Sch} {x:Chg} {l a b:List Row} {o:Option Row} (h:Cut s x.table (keyC s x) l a o b) (hf:Zdq s x l=true):o=if 0<x.old.length then some x.old else none:=by
 unfold Zdq at hf;rw [ZgL,h.found,h.low] at hf;simp only [Bool.and_eq_true,beq_iff_eq,Bool.or_eq_true,Bool.not_eq_true'] at hf;cases o with
 | none =>
  have:¬ 0<x.old.length:=(by simpa using hf.1.symm);rw [if_neg this]
 | some r =>
  have h0:0<x.old.length:=(by simpa using hf.1.symm);rw [if_pos h0];have h2:=hf.2.resolve_left (by simp);rw [h.at_low rfl] at h2;rw [(cmpR_is.zero _ _).1 h2]
theorem fits_of_cut {s:Sch} {x:Chg} {l a b:List Row} {o:Option Row} (h:Cut s x.table (keyC s x) l a o b) (ho:o=if 0<x.old.length then some x.old else none):Zdq s x l=true:=by
 unfold Zdq;rw [ZgL,h.found,h.low];split at ho
 · rename_i h0
   rw [h.at_low ho];subst ho;simp [h0,cmpR_is.self]
 · rename_i h0
   subst ho;simp [h0]
def StC (w:World) (S:Nat→Prop) (gt:Nat) (st:St):Prop :=
 ∃ vs:List Value,(∃ rest:List Value,w.heap[gt]?=some (.cells (vs++rest).toArray 49 (0,0)))∧Dat.ValsAll w S (st.map ZbA) vs∧∀ b,S b→b<w.heap.size∧b≠gt
section
variable {w w':World} {S S':Nat→Prop} {gt:Nat} {st:St}
theorem StC.keep (h:StC w S gt st) (hs:w.heap.size≤w'.heap.size) (hk:Same S w w') (hg:w'.heap[gt]?=w.heap[gt]?):StC w' S gt st:=by
 obtain⟨vs,⟨rest,h1⟩,h2,h3⟩:=h;exact⟨vs,⟨rest,hg.trans h1⟩,Dat.ValsAll.keep hk _ _ h2,fun b hb=>⟨Nat.lt_of_lt_of_le (h3 b hb).1 hs,(h3 b hb).2⟩⟩
theorem StC.lt (h:StC w S gt st):gt<w.heap.size:=by
 obtain⟨vs,⟨rest,h1⟩,_⟩:=h;exact Zad h1
theorem StC.mem (h:StC w S gt st):∀ b,S b→b<w.heap.size∧b≠gt:=by
 obtain⟨_,_,_,h3⟩:=h;exact h3
theorem StC.below (h:StC w S gt st) (hb:Below w.heap.size w w'):StC w' S gt st :=
 h.keep hb.size (fun b hb'=>hb.block b (h.mem b hb').1) (hb.block gt h.lt)
theorem StC.fr {X:Nat→Prop} (h:StC w S gt st) (hf:Fr X w w') (hX:∀ b,X b→b<w.heap.size→¬ S b∧b≠gt):StC w' S gt st :=
 h.keep hf.size (fun b hb=>hf.block b (h.mem b hb).1 (fun hx=>(hX b hx (h.mem b hb).1).1 hb)) (hf.block gt h.lt (fun hx=>(hX gt hx h.lt).2 rfl))
theorem StC.more (h:StC w S gt st) (hS:∀ b,S b→S' b) (hS':∀ b,S' b→b<w.heap.size∧b≠gt):StC w S' gt st:=by
 obtain⟨vs,h1,h2,h3⟩:=h;exact⟨vs,h1,Dat.ValsAll.more hS _ _ h2,hS'⟩
theorem StC.at_ (h:StC w S gt st) {k:Nat} (hk:k<st.length):w.frozen? ⟨gt,k,none⟩=false∧∃ A c,w.cell? ⟨gt,k,none⟩=some (.slice A (st.getD k []).length c)∧(st.getD k []).length≤c∧RowsS w S A (st.getD k []):=by
 obtain⟨vs,⟨rest,h1⟩,h2,h3⟩:=h;obtain⟨A,c,h4,h5⟩:=ZgZ h2 hk;refine⟨by simp [World.frozen?,h1],A,c,?_,h5⟩;have hl:k<vs.length:=(List.getElem?_eq_some_iff.1 h4).1;simp only [World.cell?,h1];simpa [List.getElem?_append_left hl] using h4
theorem StC.slice (h:StC w S gt st) (hl:st.length≤5864062014805) (hS:∀ b,S b→S' b) (hg:S' gt):StS w S' (some ⟨gt,0,none⟩) st:=by
 obtain⟨vs,⟨rest,h1⟩,h2,h3⟩:=h;refine Sl.of_vals (by rw [Zag (n:=24) (fun _=>rfl)];omega) (Dat.ValsAll.more hS _ _ h2) (fun h0=>⟨gt,0,rfl,hg,fun j u hu=>?_⟩);have hj:j<vs.length:=(List.getElem?_eq_some_iff.1 hu).1;simp only [World.cell?,h1,Nat.zero_add];simpa [List.getElem?_append_left hj] using hu
theorem StC.put (h:StC w S gt st) {k:Nat} (hk:k<st.length) {A:Option Addr} {c:Nat} {r:List Row} (hc:r.length≤c) (hr:RowsS w S A r):StC (w.setCell ⟨gt,k,none⟩ (.slice A r.length c)) S gt (st.set k r):=by
 obtain⟨vs,⟨rest,h1⟩,h2,h3⟩:=h;have hs:Same S w (w.setCell ⟨gt,k,none⟩ (.slice A r.length c)):=fun b hb=>Below.heap_setCell w ⟨gt,k,none⟩ _ b (h3 b hb).2;have hl:k<vs.length:=(by rw [valsAll_len h2];exact hk);have h4:=Zaf (k:=k) (v:=.slice A r.length c) h1;rw [List.set_append,if_pos hl] at h4;exact⟨_,⟨rest,h4⟩,Dat.ValsAll.keep hs _ _ (ZfU h2 hc hr),fun b hb=>⟨by simpa using (h3 b hb).1,(h3 b hb).2⟩⟩
theorem StC.made {n:Nat} (h:w.heap[gt]?=some (.cells (ZaI n).toArray 49 (0,0))):StC w (fun _=>False) gt (List.replicate n []):=by
 refine⟨ZaI n,⟨[],by simpa using h⟩,?_,fun _ h=>h.elim⟩;clear h;induction n with
 | zero=>simp only [List.replicate_zero,List.map_nil,ZaI];unfold Dat.ValsAll;rfl
 | succ n ih =>
  simp only [ZaI,List.replicate_succ,List.map_cons] at ih ⊢;unfold Dat.ValsAll;refine⟨[.slice none 0 0],_,rfl,?_,ih⟩;unfold ZbA Dat.Vals;exact⟨none,0,rfl,by simp,Sl.nil_⟩
end
end Go.Proofs.Ytkpjjfhfbpfjpaa
