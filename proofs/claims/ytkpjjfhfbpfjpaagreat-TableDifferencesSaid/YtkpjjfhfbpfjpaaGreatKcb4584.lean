import Derived.Test.YtkpjjfhfbpfjpaaGreatKac3eaa
set_option linter.unusedVariables false
set_option linter.unusedSimpArgs false
set_option maxRecDepth 100000
set_option maxHeartbeats 8000000
namespace Go.Proofs.YtkpjjfhfbpfjpaaGreat
open Go.RowKit
structure ChI (w wr:World) (B0 gt cap g:Nat) (S:Nat→Prop) (s:Sch) (A0:Option Addr) (c0':Nat) (cur:St) (l:List Chg) (A:Option Addr) (c:Nat):Prop where
 stc:StC wr (fun b=>S b∨(w.heap.size+3≤b∧b<B0∧b≠gt)∨Beh B0 wr (.slice A l.length c) b) gt cur
 mkl:Mk wr B0 (fun _=>False) 44 3 (.slice A l.length c) (l.map Zay)
 b0:wr.cell? ⟨w.heap.size,0,none⟩=some (.int .i64 s.version)
 b1:wr.cell? ⟨w.heap.size,1,none⟩=some (.slice A0 s.tabs.length c0')
 s0:wr.cell? ⟨w.heap.size+1,0,none⟩=some (.slice (some ⟨gt,0,none⟩) s.tabs.length cap)
 sf:wr.frozen? ⟨w.heap.size+1,0,none⟩=false
 r0:wr.cell? ⟨w.heap.size+2,0,none⟩=some (.slice none 0 0)
 rf:wr.frozen? ⟨w.heap.size+2,0,none⟩=false
 case:CaseOk wr g
 gr:w.grownBy wr (some g)
 lo:w.heap.size+3≤gt
 hi:gt<B0
section
variable {w wr wx wl wp:World} {B0 gt cap g:Nat} {S:Nat→Prop} {s:Sch} {A0:Option Addr} {c0':Nat} {cur cur':St} {l:List Chg} {A A':Option Addr} {c c':Nat}
theorem ChI.sz (h:ChI w wr B0 gt cap g S s A0 c0' cur l A c):B0≤wr.heap.size:=h.mkl.hi
theorem ChI.keep (h:ChI w wr B0 gt cap g S s A0 c0' cur l A c) (hf:Fr (fun b=>b=g) wr wx) (hc:CaseOk wx g) (hgl:g<w.heap.size) (hS:∀ b,S b→b<w.heap.size∧b≠g):ChI w wx B0 gt cap g S s A0 c0' cur l A c:=by
 have h1:=h.lo;have h2:=h.hi;have h3:=h.sz;have h4:=hf.size;refine⟨(h.stc.fr hf (fun b hb hl=>⟨fun hb'=>?_,by omega⟩)).more (fun b hb=>hb.imp id (fun hb=>hb.imp id (fun hb=>⟨hb.1,by have:=hb.2.1;omega,hb.2.2⟩))) (fun b hb=>?_),h.mkl.keep hf (fun b hb=>⟨by omega,fun h=>h⟩),(hf.cell (by omega) (by omega)).trans h.b0,(hf.cell (by omega) (by omega)).trans h.b1,(hf.cell (by omega) (by omega)).trans h.s0,(hf.frozenF (by omega) (by omega)).trans h.sf,(hf.cell (by omega) (by omega)).trans h.r0,(hf.frozenF (by omega) (by omega)).trans h.rf,hc,h.gr.trans hf.grown,h1,h2⟩
 · rcases hb' with hb' | hb' | hb'
   · exact(hS b hb').2 hb
   · omega
   · have:=hb'.1;omega
 · rcases hb with hb | hb | hb
   · have:=hS b hb;omega
   · exact⟨by omega,hb.2.2⟩
   · exact⟨hb.2.1,by have:=hb.1;omega⟩
theorem ChI.push (h:ChI w wr B0 gt cap g S s A0 c0' cur l A c) {x:Chg} {g7 c7:Nat} (hgl:g<w.heap.size) (hS:∀ b,S b→b<w.heap.size∧b≠g) (hm:Mk wx B0 (fun _=>False) 44 3 (.slice (some ⟨g7,0,none⟩) (l.length+1) c7) (l.map Zay++[Zay x])) (hf:Fr (fun b=>some b=(Value.slice A l.length c).ownBlock) wr wx) (hat:(Value.slice A l.length c).ownBlock=some g7∨wr.heap.size≤g7):ChI w wx B0 gt cap g S s A0 c0' cur (l++[x]) (some ⟨g7,0,none⟩) c7:=by
 have h1:=h.lo;have h2:=h.hi;have h3:=h.sz;have h4:=hf.size;have hown:∀ b,some b=(Value.slice A l.length c).ownBlock→B0≤b:=fun b e=>(h.mkl.base_le e.symm).1;have hlen:(l++[x]).length=l.length+1:=(by simp)
 have hnw:∀ b,b<wr.heap.size→some b≠(Value.slice A l.length c).ownBlock→b≠g7:=fun b hb hne e=>by
  rcases hat with e' | e'
  · exact hne (by rw [e',e])
  · omega
 refine⟨(h.stc.fr hf (fun b hb hl=>⟨fun hb'=>?_,by have:=hown b hb;omega⟩)).more (fun b hb=>hb.imp id (fun hb=>hb.imp id (fun hb=>⟨hb.1,by have:=hb.2.1;omega,fun e=>hnw b hb.2.1 hb.2.2 (by simpa [Value.ownBlock] using e)⟩))) (fun b hb=>?_),by rw [hlen,List.map_append];exact hm,(hf.cell (by omega) (fun e=>by have:=hown _ e;omega)).trans h.b0,(hf.cell (by omega) (fun e=>by have:=hown _ e;omega)).trans h.b1,(hf.cell (by omega) (fun e=>by have:=hown _ e;omega)).trans h.s0,(hf.frozenF (by omega) (fun e=>by have:=hown _ e;omega)).trans h.sf,(hf.cell (by omega) (fun e=>by have:=hown _ e;omega)).trans h.r0,(hf.frozenF (by omega) (fun e=>by have:=hown _ e;omega)).trans h.rf,h.case.keep (fun b hb=>hf.block b (by omega) (fun e=>by have:=hown _ e;omega)),?_,h1,h2⟩
 · have:=hown b hb;rcases hb' with hb' | hb' | hb'
   · have:=hS b hb';omega
   · omega
   · exact hb'.2.2 hb
 · rcases hb with hb | hb | hb
   · have:=hS b hb;omega
   · exact⟨by omega,hb.2.2⟩
   · exact⟨hb.2.1,by have:=hb.1;omega⟩
 · have hg:=h.gr;exact⟨hf.os.trans hg.os,hf.tape.trans hg.tape,hf.output.trans hg.output,Nat.le_trans hg.size hf.size,fun b hb hne=>(hf.block b (by omega) (fun e=>by have:=hown _ e;omega)).trans (hg.block b hb hne)⟩
theorem ChI.put (h:ChI w wl B0 gt cap g S s A0 c0' cur l A c) (hgl:g<w.heap.size) (hS:∀ b,S b→b<w.heap.size∧b≠g) (hst:StC wp (fun b=>(S b∨(w.heap.size+3≤b∧b<B0∧b≠gt)∨Beh B0 wl (.slice A l.length c) b)∨New wl wp b) gt cur') (hf:Fr (fun b=>b=gt) wl wp) :
  ChI w (wp.setCell ⟨w.heap.size+1,0,none⟩ (.slice (some ⟨gt,0,none⟩) s.tabs.length cap)) B0 gt cap g S s A0 c0' cur' l A c:=by
 have h1:=h.lo;have h2:=h.hi;have h3:=h.sz;have h4:=hf.size;have hsz:(wp.setCell ⟨w.heap.size+1,0,none⟩ (.slice (some ⟨gt,0,none⟩) s.tabs.length cap)).heap.size=wp.heap.size:=(by simp);have hne:∀ b,b≠w.heap.size+1→(wp.setCell ⟨w.heap.size+1,0,none⟩ (.slice (some ⟨gt,0,none⟩) s.tabs.length cap)).heap[b]?=wp.heap[b]?:=fun b hb=>Below.heap_setCell wp ⟨w.heap.size+1,0,none⟩ _ b hb;have hall:∀ b,b<wl.heap.size→b≠gt→b≠w.heap.size+1→(wp.setCell ⟨w.heap.size+1,0,none⟩ (.slice (some ⟨gt,0,none⟩) s.tabs.length cap)).heap[b]?=wl.heap[b]?:=fun b q1 q2 q3=>(hne b q3).trans (hf.block b q1 q2);have hnb:∀ b,some b=(Value.slice A l.length c).ownBlock→B0≤b∧b<wl.heap.size:=fun b e=>h.mkl.base_le e.symm
 have hnew:∀ b,((S b∨(w.heap.size+3≤b∧b<B0∧b≠gt)∨Beh B0 wl (.slice A l.length c) b)∨New wl wp b)→S b∨(w.heap.size+3≤b∧b<B0∧b≠gt)∨Beh B0 wp (.slice A l.length c) b:=fun b hb'=>by
  rcases hb' with (hb' | hb' | hb') | hb'
  · exact .inl hb'
  · exact .inr (.inl hb')
  · exact .inr (.inr ⟨hb'.1,by have:=hb'.2.1;omega,hb'.2.2⟩)
  · have h9:wl.heap.size≤b:=hb'.1;exact .inr (.inr ⟨by omega,hb'.2,fun e=>by have:=hnb b e;omega⟩)
 have hlow:∀ b,(S b∨(w.heap.size+3≤b∧b<B0∧b≠gt)∨Beh B0 wp (.slice A l.length c) b)→b<wp.heap.size∧b≠gt∧b≠w.heap.size+1:=fun b hb=>by
  rcases hb with hb | hb | hb
  · have:=hS b hb;omega
  · have:=hb.1;have:=hb.2.1;have:=hb.2.2;omega
  · have:=hb.1;have:=hb.2.1;omega
 have hst1:=hst.more (S':=fun b=>S b∨(w.heap.size+3≤b∧b<B0∧b≠gt)∨Beh B0 wp (.slice A l.length c) b) hnew (fun b hb=>⟨(hlow b hb).1,(hlow b hb).2.1⟩);have hfw:Fr (fun b=>b=gt∨b=w.heap.size+1) wl (wp.setCell ⟨w.heap.size+1,0,none⟩ (.slice (some ⟨gt,0,none⟩) s.tabs.length cap)):=(hf.mono (fun b _ e=>.inl e)).setCell _ (fun _=>.inr rfl);refine⟨(hst1.keep (by simp) (fun b hb=>hne b (hlow b hb).2.2) (hne gt (by omega))).more (fun b hb=>hb.imp id (fun hb=>hb.imp id (fun hb=>⟨hb.1,by rw [hsz];exact hb.2.1,hb.2.2⟩))) (fun b hb=>?_),h.mkl.keep hfw (fun b hb=>⟨by omega,fun h=>h⟩),(World.cell?_of_block (hall w.heap.size (by omega) (by omega) (by omega))).trans h.b0,(World.cell?_of_block (hall w.heap.size (by omega) (by omega) (by omega))).trans h.b1,?_,?_,(World.cell?_of_block (hall (w.heap.size+2) (by omega) (by omega) (by omega))).trans h.r0,(World.frozen?_of_block (hall (w.heap.size+2) (by omega) (by omega) (by omega))).trans h.rf,h.case.keep (fun b hb=>hall b (by omega) (by omega) (by omega)),?_,h1,h2⟩
 · rw [hsz];have:=hlow b (hb.imp id (fun hb=>hb.imp id (fun hb=>⟨hb.1,by rw [←hsz];exact hb.2.1,hb.2.2⟩)));exact⟨this.1,this.2.1⟩
 · exact World.cell?_setCell_same _ _ _ ((hf.cell (by omega) (by omega)).trans h.s0)
 · rw [World.frozen?_setCell];exact(hf.frozenF (by omega) (by omega)).trans h.sf
 · have hg:=h.gr;exact⟨hfw.os.trans hg.os,hfw.tape.trans hg.tape,hfw.output.trans hg.output,Nat.le_trans hg.size hfw.size,fun b hb hne=>(hall b (by omega) (by omega) (by omega)).trans (hg.block b hb hne)⟩
end
theorem ChI.done {w wr wx:World} {B0 gt cap g:Nat} {S:Nat→Prop} {s:Sch} {A0:Option Addr} {c0':Nat} {cur:St} {l:List Chg} {A:Option Addr} {c:Nat} (h:ChI w wr B0 gt cap g S s A0 c0' cur l A c) (hgl:g<w.heap.size) (hS:∀ b,S b→b<w.heap.size∧b≠g) (hf:Fr (fun b=>b=w.heap.size+2) wr wx) :
  Mk wx B0 (fun _=>False) 44 3 (.slice A l.length c) (l.map Zay)∧StC wx (fun b=>S b∨(w.heap.size≤b∧b<B0∧b≠gt)∨Beh B0 wx (.slice A l.length c) b) gt cur∧CaseOk wx g∧w.grownBy wx (some g):=by
 have h1:=h.lo;have h2:=h.hi;have h3:=h.sz;have h4:=hf.size;have hg:=h.gr;have h5:=h.case.lt;refine⟨h.mkl.keep hf (fun b hb=>⟨by omega,fun h=>h⟩),(h.stc.fr hf (fun b hb hl=>⟨fun hb'=>?_,by omega⟩)).more (fun b hb=>?_) (fun b hb=>?_),h.case.keep (fun b hb=>hf.block b (by omega) (by omega)),⟨hf.os.trans hg.os,hf.tape.trans hg.tape,hf.output.trans hg.output,Nat.le_trans hg.size hf.size,fun b q1 q2=>(hf.block b (by omega) (by omega)).trans (hg.block b q1 q2)⟩⟩
 · rcases hb' with hb' | hb' | hb'
   · have:=hS b hb';omega
   · omega
   · have:=hb'.1;omega
 · rcases hb with hb | hb | hb
   · exact .inl hb
   · exact .inr (.inl ⟨by omega,hb.2⟩)
   · exact .inr (.inr ⟨hb.1,by have:=hb.2.1;omega,hb.2.2⟩)
 · rcases hb with hb | hb | hb
   · have:=hS b hb;omega
   · exact⟨by omega,hb.2.2⟩
   · exact⟨hb.2.1,by have:=hb.1;omega⟩
structure Mid (wr W:World) (g xb:Nat) (X:List Value):Prop where
 fr:Fr (fun b=>b=g) wr W
 case:CaseOk W g
 xc:W.heap[xb]?=some (.cells X.toArray 44 (0,0))
abbrev RowT (W:World) (xb:Nat) (A:Option Addr) (c:Nat) (r:Row):Prop:=r.length≤c∧RowS W (fun b=>xb<b∧b<W.heap.size) A r
section
variable {wr W W':World} {g xb:Nat} {X:List Value} {A:Option Addr} {c:Nat} {r:Row}
theorem Mid.calls (h:Mid wr W g xb X) (hf:Fr (fun b=>b=g) W W') (hc:CaseOk W' g) (hx:g<xb):Mid wr W' g xb X :=
 ⟨h.fr.trans hf (fun _ _ e=>e),hc,(hf.block xb (Zab h.xc) (by omega)).trans h.xc⟩
theorem Mid.below (h:Mid wr W g xb X) (hb:Below W.heap.size W W') (hx:g<xb):Mid wr W' g xb X :=
 h.calls (Fr.of_below hb) (h.case.keep (fun b hb'=>hb.block b (by have:=h.case.lt;omega))) hx
theorem Mid.set (h:Mid wr W g xb X) (k:Nat) (v:Value) (hx:g<xb) (hxb:wr.heap.size≤xb):Mid wr (W.setCell ⟨xb,k,none⟩ v) g xb (X.set k v) :=
 ⟨h.fr.setCell v (fun hl=>by omega),Zac h.case hx,Zai h.xc⟩
theorem Mid.far {Y:Nat→Prop} (h:Mid wr W g xb X) (hf:Fr Y W W') (hY:∀ b,Y b→xb<b) (hx:g<xb) (hxb:wr.heap.size≤xb):Mid wr W' g xb X :=
 ⟨h.fr.trans hf (fun b hb hy=>by have:=hY b hy;omega),h.case.keep (fun b hb=>hf.block b (by have:=h.case.lt;omega) (fun hy=>by have:=hY b hy;omega)),(hf.block xb (Zab h.xc) (fun hy=>by have:=hY xb hy;omega)).trans h.xc⟩
theorem ZcE {s:Sch} {t:Nat} {m:Int} {r:Row} (hs:GenS s) (ht:t<s.tabs.length) (h:r=[]∨Zaz s t r m=true):RowOk r:=by
 rcases h with rfl | h
 · exact⟨by simp,fun v hv=>by simp at hv⟩
 · have hl:=ZcU h;rw [Int.toNat_natCast] at hl;have h4:=(hs.tab ht).2.1;refine⟨by rw [hl];omega,fun v hv=>?_⟩;obtain⟨i,hi,rfl⟩:=List.getElem_of_mem hv;unfold Zaz at h;rw [Int.toNat_natCast] at h;simp only [Bool.and_eq_true,decide_eq_true_eq] at h;have h1:=Zdm h.2 h.1.2 i (by rw [←hl];exact hi);rw [ZcO hi] at h1;unfold ZaM at h1;simp only [Bool.and_eq_true] at h1;have:=ZcS h1.1;omega
theorem RowT.step (h:RowT W xb A c r) (hf:Fr (fun b=>b=g∨b=xb) W W') (hx:g<xb):RowT W' xb A c r :=
 ⟨h.1,(h.2.keep (hf.same (fun b hb=>⟨hb.2,by have:=hb.1;omega⟩))).more (fun b hb=>⟨hb.1,Nat.lt_of_lt_of_le hb.2 hf.size⟩)⟩
theorem RowT.nil_:RowT W xb none 0 []:=⟨by simp,RowS.nil_⟩
theorem Fr.or_g (h:Fr (fun b=>b=g) W W'):Fr (fun b=>b=g∨b=xb) W W':=h.mono (fun _ _ e=>.inl e)
theorem Fr.or_set (k:Nat) (v:Value):Fr (fun b=>b=g∨b=xb) W (W.setCell ⟨xb,k,none⟩ v):=(Fr.refl _ W).setCell v (fun _=>.inr rfl)
theorem rowVals_append (a b:Row):Zar (a++b)=Zar a++Zar b:=by
 induction a with
 | nil=>rfl
 | cons v a ih=>simp [Zar,ih]
theorem ZeS:∀ (k:Nat) (r:Row),Zar (r.drop k)=(Zar r).drop (k*3)
 | 0,r=>by simp
 | k+1,[]=>by simp [Zar]
 | k+1,v :: r=>by
  have:=ZeS k r;rw [List.drop_succ_cons,this,show (k+1)*3=k*3+3 by omega];simp [Zar]
theorem owns_copied {base g' cap:Nat} {key:Row} {cur:List Value} (hr:r.length≤cap) (hcap:cap≤maxLen) (hb:base≤g') (hk:key.length≤r.length) (hcs:cur.length=cap*3) (hcur:cur.take (r.length*3)=Zar r) (h:W'.heap[g']?=some (.cells (Zar key++cur.drop (Zar key).length).toArray 89 (0,0))) :
  W'.ownsRow base 89 3 (.slice (some ⟨g',0,none⟩) (mixR key r).length cap) (mixR key r).length (Zar (mixR key r)):=by
 rw [Zdv hk];refine⟨by rw [Zbj,Zdv hk],.inr ⟨g',cap,_,rfl,hb,h,hr,hcap,?_,?_⟩⟩
 · rw [Zbj];simp [Zbj,hcs];omega
 · rw [Zbj];unfold mixR;rw [rowVals_append,ZeS,←hcur,List.drop_take];simp only [List.toList_toArray];rw [List.take_append,List.take_of_length_le (by rw [Zbj];omega),Zbj]
theorem rowOk_mix {key:Row} (hk:RowOk key) (hr:RowOk r) (hl:key.length≤r.length):RowOk (mixR key r) :=
 ⟨by rw [Zdv hl];exact hr.1,fun v hv=>by
  rcases List.mem_append.1 hv with hv | hv
  · exact hk.2 v hv
  · exact hr.2 v (List.mem_of_mem_drop hv)⟩
end
end Go.Proofs.YtkpjjfhfbpfjpaaGreat

