import Derived.Test.YtkpjjfhfbpfjpaaGreatK485e93
import Derived.Test.YtkpjjfhfbpfjpaaGreatK49244f
set_option linter.unusedVariables false
set_option linter.unusedSimpArgs false
set_option maxRecDepth 100000
set_option maxHeartbeats 8000000
namespace Go.Proofs.YtkpjjfhfbpfjpaaGreat
open Go.RowKit
theorem Zgy {P:Program} {ops:Array Oper} {Q:Exit→Act→World→Prop} {md:Region.Mode} {S:World→Prop} {d i j k:Nat} {oi oj ok:Oper} {n:Nat} {listed Li Lj Lk:Array Bool} {a:Act} {w:World} (hi:ops[i]?=some oi) (hj:ops[j]?=some oj) (hk:ops[k]?=some ok) (hLi:listed.setIfInBounds i true=Li) (hLj:listed.setIfInBounds j true=Lj) (hLk:listed.setIfInBounds k true=Lk) (hr:Region.ready md ops listed=[i,j,k])
  (h1:∀ K:Act→World→Prop,(∀ a' w',(i≠d→S w')→AnyU P md ops Q S d n Li a' w'→K a' w')→if Region.wanted oi (yielded ops a.tmps)=true then Oper.wp P oi a w K Q else K (a.put oi.dst undef) w)
  (h2:∀ K:Act→World→Prop,(∀ a' w',(j≠d→S w')→AnyU P md ops Q S d n Lj a' w'→K a' w')→if Region.wanted oj (yielded ops a.tmps)=true then Oper.wp P oj a w K Q else K (a.put oj.dst undef) w)
  (h3:∀ K:Act→World→Prop,(∀ a' w',(k≠d→S w')→AnyU P md ops Q S d n Lk a' w'→K a' w')→if Region.wanted ok (yielded ops a.tmps)=true then Oper.wp P ok a w K Q else K (a.put ok.dst undef) w) :
  AnyU P md ops Q S d (n+1) listed a w:=by
 refine⟨(fun h0=>by rw [hr] at h0;cases h0),fun q hq=>?_⟩;rw [hr] at hq;rcases List.mem_cons.1 hq with e | hq
 · subst e;rw [hLi];exact wpOp_step hi (fun K hK=>h1 K fun a' w' g1 g2=>hK a' w' ⟨g1,g2⟩)
 rcases List.mem_cons.1 hq with e | hq
 · subst e;rw [hLj];exact wpOp_step hj (fun K hK=>h2 K fun a' w' g1 g2=>hK a' w' ⟨g1,g2⟩)
 · have e:=List.mem_singleton.1 hq;subst e;rw [hLk];exact wpOp_step hk (fun K hK=>h3 K fun a' w' g1 g2=>hK a' w' ⟨g1,g2⟩)
abbrev XG (w:World) (g:Nat):Nat→Prop:=fun b=>b<w.heap.size∧b≠g
abbrev zBx:Obj:=.cells #[.slice none 0 0] 33 (0,0)
abbrev bBx (gt n c:Nat):Obj:=.cells #[.slice (some ⟨gt,0,none⟩) n c] 33 (0,0)
section
variable {w W W':World} {g p:Nat}
theorem Zah (hb:Below W.heap.size W W'):Same (XG W g) W W':=fun b h=>hb.block b h.1
theorem ZgA (hb:W.grownBy W' (some g)):Same (XG W g) W W':=fun b h=>hb.block b h.1 (fun e=>by injection e with e;exact h.2 e)
theorem Zaj (hb:W.heap.size≤W'.heap.size):∀ b,XG W g b→XG W' g b:=fun b h=>⟨Nat.lt_of_lt_of_le h.1 hb,h.2⟩
structure Gx (w W:World) (g:Nat):Prop where
 gr:w.grownBy W (some g)
 cs:CaseOk W g
theorem Gx.alloc (h:Gx w W g) (o:Obj):Gx w (W.alloc o) g:=⟨h.gr.trans (World.grownBy_alloc W o _),h.cs.keep (fun b hb=>Below.heap_alloc _ _ _ (by have:=h.cs.lt;omega))⟩
theorem gx_set {k:Nat} {v:Value} (h:Gx w W g) (hp:w.heap.size≤p) (hg:g<w.heap.size):Gx w (W.setCell ⟨p,k,none⟩ v) g:=by
 have hne:∀ b,b≠p→(W.setCell ⟨p,k,none⟩ v).heap[b]?=W.heap[b]?:=fun b hb=>Below.heap_setCell W ⟨p,k,none⟩ v b hb;have h1:=h.gr;exact⟨⟨h1.os,h1.tape,h1.output,by simpa using h1.size,fun b hb hne'=>(hne b (by omega)).trans (h1.block b hb hne')⟩,h.cs.keep (fun b hb=>hne b (by omega))⟩
theorem Zap {o:Obj} (h:W.heap[p]?=some o) (hg:W.grownBy W' (some g)) (hp:p≠g):W'.heap[p]?=some o:=(hg.block p (Zab h) (fun e=>by injection e with e;exact hp e)).trans h
structure Sx (w W:World) (g:Nat) (s:Sch) (m:Int) (lo hi gt:Nat) (st:St):Prop where
 sz:w.heap.size≤W.heap.size
 lo_le:w.heap.size≤lo
 hi_le:hi≤W.heap.size
 ok:StOk s m st
 few:∀ j,(st.getD j []).length≤4
 st:StS W (fun b=>(g<b∧b<w.heap.size)∨(lo≤b∧b<hi)) (some ⟨gt,0,none⟩) st
theorem Sx.keep {s:Sch} {m:Int} {lo hi gt:Nat} {st:St} (h:Sx w W g s m lo hi gt st) (hg:W.grownBy W' (some g)) (hgw:g<w.heap.size):Sx w W' g s m lo hi gt st:=by
 have h1:=h.sz;have h2:=h.lo_le;have h3:=h.hi_le;have h4:=hg.size;refine⟨by omega,h2,by omega,h.ok,h.few,h.st.keep (fun b hb=>hg.block b ?_ (fun e=>?_))⟩
 · rcases hb with hb | hb<;>omega
 · injection e with e;rcases hb with hb | hb<;>omega
theorem ZbS {A0:Option Addr} {c0':Nat} {s:Sch} {m:Int} (hs:TabS w (Rng g w) A0 s.tabs) (hgw:g<w.heap.size) (hgs:GenS s) (hm:ZbB m=true) (hG:Gx w W g) :
  Calls Tryz.prog 12 #[.pointer (some ⟨g,0,none⟩),sAgg s.version A0 s.tabs.length c0',.int .i64 m] W (fun e W'=>∃ gt st,e=.returned (Zbr (some ⟨gt,0,none⟩) st.length st.length)∧Sx w W' g s m W.heap.size W'.heap.size gt st∧Gx w W' g∧W.grownBy W' (some g)):=by
 have hz:=hG.gr.size;refine(state_any g A0 c0' s m (Rng g w) W (hs.keep (fun b hb=>hG.gr.block b hb.2 (fun e=>by injection e with e;have:=hb.1;omega))) (fun b hb=>⟨by have:=hb.2;omega,by have:=hb.1;omega⟩) hgs hm hG.cs).mono ?_;rintro e W' ⟨gt,st,rfl,hso,hs4,hgt,hstc,hc,hg⟩;have hz2:=hg.size;exact⟨gt,st,rfl,⟨by omega,hz,Nat.le_refl _,hso,hs4,hstc.slice (by have h8:=hso.1;have:=hgs.len;omega) (fun b hb=>hb.imp id (fun h=>⟨by have:=h.1;omega,h.2⟩)) (Or.inr ⟨hgt,hstc.lt⟩)⟩,⟨hG.gr.trans hg,hc⟩,hg⟩
structure TwoS (w W:World) (g:Nat) (s:Sch) (m:Int) (p8 p9 ga:Nat) (a:St) (gb cb:Nat) (b:St):Prop where
 gx:Gx w W g
 lo8:w.heap.size≤p8
 lo9:w.heap.size≤p9
 ne:p8≠p9
 b8:W.heap[p8]?=some (bBx ga a.length a.length)
 b9:W.heap[p9]?=some (bBx gb b.length cb)
 oka:StOk s m a
 okb:StOk s m b
 cca:Zao a≤16
 ccb:Zao b≤40
 sa:StS W (fun x=>g<x∧x<W.heap.size∧x≠p8∧x≠p9) (some ⟨ga,0,none⟩) a
 sb:StS W (fun x=>g<x∧x<W.heap.size∧x≠p8∧x≠p9) (some ⟨gb,0,none⟩) b
 bw:∀ j,(b.getD j []).length≤40
theorem ZbX {s:Sch} {m:Int} {p8 p9 lo1 hi1 ga lo2 hi2 gb:Nat} {a b:St} (hgs:GenS s) (h8:W.heap[p8]?=some zBx) (h9:W.heap[p9]?=some zBx) (S1:Sx w W g s m lo1 hi1 ga a) (S2:Sx w W g s m lo2 hi2 gb b) (hG:Gx w W g) (hgw:g<w.heap.size)
  (n8:w.heap.size≤p8) (n9:w.heap.size≤p9) (hne:p8≠p9) (x1:p8<lo1∨hi1≤p8) (x2:p9<lo1∨hi1≤p9) (x3:p8<lo2∨hi2≤p8) (x4:p9<lo2∨hi2≤p9) :
  TwoS w ((W.setCell ⟨p8,0,none⟩ (.slice (some ⟨ga,0,none⟩) a.length a.length)).setCell ⟨p9,0,none⟩ (.slice (some ⟨gb,0,none⟩) b.length b.length)) g s m p8 p9 ga a gb b.length b:=by
 have hk:∀ x,x≠p8→x≠p9→((W.setCell ⟨p8,0,none⟩ (.slice (some ⟨ga,0,none⟩) a.length a.length)).setCell ⟨p9,0,none⟩ (.slice (some ⟨gb,0,none⟩) b.length b.length)).heap[x]?=W.heap[x]?:=fun x h1 h2=>(Below.heap_setCell _ ⟨p9,0,none⟩ _ x h2).trans (Below.heap_setCell _ ⟨p8,0,none⟩ _ x h1);have hsz:((W.setCell ⟨p8,0,none⟩ (.slice (some ⟨ga,0,none⟩) a.length a.length)).setCell ⟨p9,0,none⟩ (.slice (some ⟨gb,0,none⟩) b.length b.length)).heap.size=W.heap.size:=(by simp);have hl:=hgs.len;have hca:Zao a≤16:=(by have h9:=Zeq a 4 S1.few;have:=S1.ok.1;omega);have hcb:Zao b≤16:=(by have h9:=Zeq b 4 S2.few;have:=S2.ok.1;omega);have z1:=S1.sz;have z2:=S1.hi_le;have z3:=S2.hi_le;have z4:=S1.lo_le;have z5:=S2.lo_le;refine⟨gx_set (gx_set hG n8 hgw) n9 hgw,n8,n9,hne,?_,?_,S1.ok,S2.ok,hca,by omega,(S1.st.keep (fun x hx=>hk x ?_ ?_)).more (fun x hx=>?_),(S2.st.keep (fun x hx=>hk x ?_ ?_)).more (fun x hx=>?_),fun j=>by have:=S2.few j;omega⟩
 · exact(Below.heap_setCell _ ⟨p9,0,none⟩ _ p8 hne).trans (Zai h8)
 · exact Zai ((Below.heap_setCell _ ⟨p8,0,none⟩ _ p9 (Ne.symm hne)).trans h9)
 · rcases hx with hx | hx<;>omega
 · rcases hx with hx | hx<;>omega
 · rcases hx with hx | hx<;>omega
 · rcases hx with hx | hx<;>omega
 · rcases hx with hx | hx<;>omega
 · rcases hx with hx | hx<;>omega
theorem TwoS.swap {s:Sch} {m:Int} {p8 p9 ga gb cb gc cc:Nat} {a b c:St} (h:TwoS w W g s m p8 p9 ga a gb cb b) (hg:W.grownBy W' (some g)) (hc:CaseOk W' g) (hgw:g<w.heap.size) (hok:StOk s m c) (hcc:Zao c≤40) (hcw:∀ j,(c.getD j []).length≤40)
  (hs:StS W' (fun x=>g<x∧x<W'.heap.size∧x≠p8∧x≠p9) (some ⟨gc,0,none⟩) c):TwoS w (W'.setCell ⟨p9,0,none⟩ (.slice (some ⟨gc,0,none⟩) c.length cc)) g s m p8 p9 ga a gc cc c:=by
 have hk:∀ x,x≠p9→(W'.setCell ⟨p9,0,none⟩ (.slice (some ⟨gc,0,none⟩) c.length cc)).heap[x]?=W'.heap[x]?:=fun x h2=>Below.heap_setCell _ ⟨p9,0,none⟩ _ x h2;have hsz:(W'.setCell ⟨p9,0,none⟩ (.slice (some ⟨gc,0,none⟩) c.length cc)).heap.size=W'.heap.size:=(by simp);have z1:=h.lo8;have z2:=h.lo9;have z3:=hg.size;refine⟨gx_set ⟨h.gx.gr.trans hg,hc⟩ h.lo9 hgw,h.lo8,h.lo9,h.ne,(hk p8 h.ne).trans (Zap h.b8 hg (by omega)),Zai (Zap h.b9 hg (by omega)),h.oka,hok,h.cca,hcc,((h.sa.keep (fun x hx=>hg.block x hx.2.1 (fun e=>by injection e with e;have:=hx.1;omega))).keep (fun x hx=>hk x hx.2.2.2)).more (fun x hx=>⟨hx.1,by have:=hx.2.1;omega,hx.2.2⟩),(hs.keep (fun x hx=>hk x hx.2.2.2)).more (fun x hx=>⟨hx.1,by have:=hx.2.1;omega,hx.2.2⟩),hcw⟩
theorem TwoS.grown {s:Sch} {m:Int} {p8 p9 ga gb cb:Nat} {a b:St} (h:TwoS w W g s m p8 p9 ga a gb cb b) (hg:W.grownBy W' (some g)) (hc:CaseOk W' g) (hgw:g<w.heap.size):TwoS w W' g s m p8 p9 ga a gb cb b:=by
 have z1:=h.lo8;have z2:=h.lo9;have z3:=hg.size;have hk:Same (fun x=>g<x∧x<W.heap.size∧x≠p8∧x≠p9) W W':=fun x hx=>hg.block x hx.2.1 (fun e=>by injection e with e;have:=hx.1;omega);exact⟨⟨h.gx.gr.trans hg,hc⟩,h.lo8,h.lo9,h.ne,Zap h.b8 hg (by omega),Zap h.b9 hg (by omega),h.oka,h.okb,h.cca,h.ccb,(h.sa.keep hk).more (fun x hx=>⟨hx.1,by have:=hx.2.1;omega,hx.2.2⟩),(h.sb.keep hk).more (fun x hx=>⟨hx.1,by have:=hx.2.1;omega,hx.2.2⟩),h.bw⟩
end
end Go.Proofs.YtkpjjfhfbpfjpaaGreat

